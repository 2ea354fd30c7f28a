/- WholeShares: the greatest common divisor divides both integers; a common factor multiplies it, and common divisors divide it. Conditions: package-level variables of Go's library hold what their initialisers lay (tied). -/
import Derived.Test.YtpkfnclbcmnckaaDoorA4
import Derived.Test.YtpkfnclbcmnckaaDoorZLS1m
import Derived.Test.YtpkfnclbcmnckaaDoorRows
import Derived.Test.YtpkfnclbcmnckaaDoorA1
import Derived.Lib.LaidTab
import Derived.Stop.LaidErr
import Derived.Lay
import Derived.ProofKit
import Derived.LaidMore
import Derived.Test.YtpkfnclbcmnckaaDoorCards
import Derived.Test.YtpkfnclbcmnckaaDoorTie
import Derived.WalkKit
import Derived.OpenShut
import Derived.ShutString
import Derived.ChangeOld
import Derived.Below
import Derived.SizedLaws
import Derived.SevenTiedAt
/- The law WholeShares comes to true for all texts. -/
set_option linter.unusedVariables false
namespace Go.Proofs.YtpkfnclbcmnckaaDoor
open Go Go.RowKit Go.Proofs.YtpkfnclbcmnckaaDoor.Dec Go.Proofs.YtpkfnclbcmnckaaDoor.Mem Go.Proofs.YtpkfnclbcmnckaaDoor.Wid Go.Proofs.YtpkfnclbcmnckaaDoorW.PrintWords

theorem l48 (z : Int) : ((dec z).toList = [48]) ↔ z = 0 := by rw [toL]; exact zero_list' z
theorem fit_gcd {n : Nat} {x y : Int} (hx : fit n x) (hy : fit n y) : fit n ((x.gcd y : Nat) : Int) := by
  by_cases h : x = 0
  · subst h
    rw [Int.gcd_zero_left]
    exact fit_le hy (by rw [Int.natAbs_natCast]; exact Nat.le_refl _)
  · refine fit_le hx ?_
    rw [Int.natAbs_natCast]
    exact Nat.le_of_dvd (Int.natAbs_pos.2 h) (Int.ofNat_dvd_left.1 (Int.gcd_dvd_left x y))
theorem shares_j0 (x y z : Int) (hx : fit 50 x) (hy : fit 50 y) (hz : fit 50 z) (h0 : z ≠ 0) : Ev (fun k => ZLS.metrolablaw01_WholeShares.j0 k (dec x) (dec y) (dec z) false) true := by
  have hx' := fit_mono hx (show 50 ≤ 1024 by decide)
  have hy' := fit_mono hy (show 50 ≤ 1024 by decide)
  have hz' := fit_mono hz (show 50 ≤ 1024 by decide)
  have hxz' := fit_mono (fit_mul hx hz) (show 100 ≤ 1024 by decide)
  have hyz' := fit_mono (fit_mul hy hz) (show 100 ≤ 1024 by decide)
  have hg := fit_gcd hx hy
  have hg' := fit_mono hg (show 50 ≤ 1024 by decide)
  have hgz' := fit_mono (fit_mul hg hz) (show 100 ≤ 1024 by decide)
  have hd' := fit_gcd hxz' hyz'
  have ed : ((Int.gcd (x * z) (y * z) : Nat) : Int) = ((x.gcd y : Nat) : Int) * (z.natAbs : Int) := by rw [Int.gcd_mul_right, Int.natCast_mul]
  refine Ev.after 1 fun k => ?_
  rw [ZLS.metrolablaw01_WholeShares.j0, if_neg (show ¬ (false = true) by decide), sGcd hx' hy', sMul hx' hz' hxz', sMul hy' hz' hyz']
  simp only [Option.bind_some]
  rw [sGcd hxz' hyz']
  simp only [Option.bind_some]
  rw [if_pos (show wrap64 (wrap64 (wrap64 (0 + 0) + 0) + 0) = 0 by simp only [w0])]
  by_cases hG : x.gcd y = 0
  · obtain ⟨rfl, rfl⟩ := Int.gcd_eq_zero_iff.1 hG
    rw [ed, hG, show ((0 : Nat) : Int) * (z.natAbs : Int) = 0 from Int.zero_mul _]
    have e : (dec ((0 : Nat) : Int)).toList = [48] := (l48 0).2 rfl
    have e2 : (dec 0).toList = [48] := (l48 0).2 rfl
    rw [if_pos e, if_pos e2, if_pos e2, if_pos e2]
    rfl
  · have hGi : ((x.gcd y : Nat) : Int) ≠ 0 := by omega
    have hGp : 0 < ((x.gcd y : Nat) : Int) := by omega
    have r1 : x.fmod ((x.gcd y : Nat) : Int) = 0 := Int.fmod_eq_zero_of_dvd (Int.gcd_dvd_left x y)
    have r2 : y.fmod ((x.gcd y : Nat) : Int) = 0 := Int.fmod_eq_zero_of_dvd (Int.gcd_dvd_right x y)
    have r3 : (((Int.gcd (x * z) (y * z) : Nat) : Int)).fmod z = 0 := by
      rw [ed]
      exact Int.fmod_eq_zero_of_dvd (Int.dvd_mul_of_dvd_right (Int.dvd_natAbs.2 (Int.dvd_refl z)))
    rw [if_neg (fun h => hGi ((l48 _).1 h)), sRem hx' hg' hGi, sRem hy' hg' hGi, sMul hg' hz' hgz', r1, r2]
    simp only [Option.bind_some]
    rw [sSign hgz']
    simp only [Option.bind_some]
    have e0 : (dec 0).toList = [48] := (l48 0).2 rfl
    generalize ((x.gcd y : Nat) : Int) = G at *
    by_cases hn : z < 0
    · have hs : sgn (G * z) < 0 := by
        have : G * z < 0 := Int.mul_neg_of_pos_of_neg hGp hn
        unfold sgn
        rw [if_neg (by omega), if_pos this]
        decide
      rw [if_pos hs, sNeg hgz', sRem hd' hz' h0, r3]
      simp only [Option.bind_some]
      rw [if_pos (show wrap64 (wrap64 (wrap64 (0 + 0) + 0) + 0) = 0 by simp only [w0]), if_pos e0, if_pos e0, ed, show (z.natAbs : Int) = -z by omega, Int.mul_neg, if_pos rfl, if_pos e0]
      rfl
    · have hs : ¬ sgn (G * z) < 0 := by
        have : 0 < G * z := Int.mul_pos hGp (by omega)
        unfold sgn
        rw [if_neg (by omega), if_neg (by omega)]
        decide
      rw [if_neg hs, sRem hd' hz' h0, r3]
      simp only [Option.bind_some]
      rw [if_pos (show wrap64 (wrap64 (wrap64 (0 + 0) + 0) + 0) = 0 by simp only [w0]), if_pos e0, if_pos e0, ed, show (z.natAbs : Int) = z by omega, if_pos rfl, if_pos e0]
      rfl
theorem shares_pure (a b c : ByteArray) (ha : a.size ≤ 140737488351232) (hb : b.size ≤ 140737488351232) (hc : c.size ≤ 140737488351232) : ∃ k, ZLS.metrolablaw01_WholeShares.f k a b c = some true := by
  have h : Ev (fun k => ZLS.metrolablaw01_WholeShares.f k a b c) true := by
    unfold ZLS.metrolablaw01_WholeShares.f
    obtain ⟨t, ht, hs⟩ := short_is [a, b, c] (show (3 : Nat) ≤ 1000 by decide)
    have hj : Ev (fun k => ZLS.metrolablaw01_WholeShares.j0 k a b c true) true := Ev.after 1 fun k => rfl
    refine Ev.bind ht ?_
    cases t
    · exact Ev.neg (by decide) hj
    · have hs' := hs rfl
      obtain ⟨x, rfl, hx⟩ := short_dec (hs' a (by simp)).1 (hs' a (by simp)).2
      obtain ⟨y, rfl, hy⟩ := short_dec (hs' b (by simp)).1 (hs' b (by simp)).2
      obtain ⟨z, rfl, hz⟩ := short_dec (hs' c (by simp)).1 (hs' c (by simp)).2
      refine Ev.pos rfl ?_
      by_cases h0 : z = 0
      · rw [show ((dec z).toList == [48]) = true by rw [(l48 z).2 h0]; rfl]
        exact hj
      · rw [show ((dec z).toList == [48]) = false from beq_eq_false_iff_ne.2 (fun k => h0 ((l48 z).1 k))]
        exact shares_j0 x y z hx hy hz h0
  obtain ⟨K, hK⟩ := h
  exact ⟨K, hK K (Nat.le_refl _)⟩
end Go.Proofs.YtpkfnclbcmnckaaDoor
/- What the listed package-level variables give the walks. -/
set_option linter.unusedVariables false
namespace Go.Proofs.YtpkfnclbcmnckaaDoor
open Go Go.RowKit Go.ChangeShapes Go.WideShapes Go.ChangeAt

theorem own : ownKnob Tryd.prog.godebug = none := by kernel_rfl
theorem g_pow : Tryd.prog.globalNamed "internal/strconv.uint64pow10" = some 5 := by kernel_rfl
theorem gt_pow : (Tryd.prog.globals[5]?).map (·.type) = some 133 := by kernel_rfl
theorem g_err : Tryd.prog.globalNamed "strconv.ErrRange" = some 2 := by kernel_rfl
theorem gt_err : (Tryd.prog.globals[2]?).map (·.type) = some 67 := by kernel_rfl
theorem cells_u64 : Tryd.prog.cellsOf 108 = 1 := by kernel_rfl
theorem cells_pow : Tryd.prog.cellsOf 133 = 20 := by kernel_rfl
theorem cells_es : Tryd.prog.cellsOf 131 = 1 := by kernel_rfl
theorem cells_str : Tryd.prog.cellsOf 9 = 1 := by kernel_rfl
theorem row_es (u : TypeId) (h : Tryd.prog.typeName? 3 u = some "*errors.errorString") : u = 129 :=
  typeName_ptr_named (nm := "errors.errorString") (by kernel_rfl) (by kernel_rfl) (by decide) u h
def ErrsRange : List UInt8 := [118, 97, 108, 117, 101, 32, 111, 117, 116, 32, 111, 102, 32, 114, 97, 110, 103, 101]
theorem env_of_laid {W : World} {x0 x1 x3 : String × DataW Unit} {r : List (String × DataW Unit)}
    (h : laidMet Tryd.prog (x0 :: x1 :: ("internal/strconv.uint64pow10", Lib.tabData .u64 Lib.pow10Tab) :: x3 :: ("strconv.ErrRange", .iface "*errors.errorString" (.ptr (.agg [.lit (.string ErrsRange)]))) :: r) W) : Env W := by
  have h1 := h.tail.tail
  have h2 := h.tail.tail.tail.tail
  refine ⟨Lib.tabIs_of_head g_pow gt_pow Tryd.underlying133 Tryd.underlying108 cells_u64 cells_pow h1, ?_⟩
  obtain ⟨a0, s0, hv, _, _, _⟩ := laid_sentinel h2 g_err gt_err Tryd.underlying67 row_es Tryd.underlying129 Tryd.underlying131 rfl rfl Tryd.underlying9 cells_es cells_str
  exact ⟨_, World.var?_cell g_err hv 0, .inr ⟨_, _, rfl⟩⟩
end Go.Proofs.YtpkfnclbcmnckaaDoor
namespace Go.Proofs.YtpkfnclbcmnckaaDoor.wholeShares
open Go.ChangeShapes Go.WideShapes Go.ChangeAt Go.RowKit
open Go.ChangeMaps (open_string shut_string)
open Go.Proofs.YtpkfnclbcmnckaaDoorW.PrintWords
set_option linter.unusedVariables false
set_option maxRecDepth 100000 in
theorem lifted (os : Os) (started : os.Started) (H : Type) (enc : TypeId × Value → H) :
    ReturnsInHanded {} Tryd.checked os 4 .any (fun w args => (Rows.wholeSharesSpec.pre enc Tryd.prog Tryd.f4 [] false w args ∧ laidMetH Tryd.prog Rows.wholeSharesRow.laid w) ∧ sizedMet enc Tryd.prog Tryd.f4 (OpenSpec.ofChange Rows.wholeSharesSpec) false w args)
      (Rows.wholeSharesSpec.post enc Tryd.prog Tryd.f4 false true false false) := by
  refine returnsInHanded_of_change_and (C := Tryd.checked) (X := fun w _ => laidMetH Tryd.prog Rows.wholeSharesRow.laid w) (fun _ _ _ hh h => h.of_heap hh) own started (by kernel_rfl) Tryd.func4
    (ChangeSpec.witness_shaped (enc := enc) (C := Tryd.checked) (os := os) (X := fun w _ => laidMetH Tryd.prog Rows.wholeSharesRow.laid w) false (World.laidAll Tryd.prog os Rows.wholeSharesRow.laid) #[.string ByteArray.empty, .string ByteArray.empty, .string ByteArray.empty] 8 (World.laidAll_os _ _ _)
      (World.shaped_of_ZipB (by kernel_rfl) (by kernel_rfl)) (by kernel_rfl) (by kernel_rfl) (by kernel_rfl)
      (by rw [MakeChecks.laidMetH_plain _ _ _ (by kernel_rfl)]; exact laidMet_laidAll _ (by kernel_rfl) (by kernel_rfl))) ?_
  intro W base args ds gs before hval0 hW hcnd hsz0 hL _
  rw [MakeChecks.laidMetH_plain _ _ _ (by kernel_rfl)] at hL
  have HE : Env W := env_of_laid hL
  have hsz : (DataW.weightsEach Tryd.prog (Tryd.f4.params.toList ++ Rows.wholeSharesSpec.plain.varTypes Tryd.prog) (ds ++ gs)).all (· ≤ reachBytes) = true := hsz0
  have hval : ∀ (j : Nat) t v, Tryd.f4.params[j]? = some t → args[j]? = some v → Value.okWide Tryd.prog W .any base t v := hval0
  have hW' := hW
  obtain ⟨p, q, hA0, hV, rfl, hfz, hnd⟩ := hW
  have hA : DataW.TrodAll enc Tryd.prog W 0 (fun _ => true) true Tryd.f4.params.toList args.toList ds p := hA0
  rw [Tryd.params4] at hA hval hsz
  obtain ⟨v0, vs0, d0, ds0, p0, q0, hargs, rfl, rfl, h0, r0⟩ := trodAll_cons hA
  obtain ⟨v1, vs1, d1, ds1, p1, q1, rfl, rfl, rfl, h1, r1⟩ := trodAll_cons r0
  obtain ⟨v2, vs2, d2, ds2, p2, q2, rfl, rfl, rfl, h2, r2⟩ := trodAll_cons r1
  obtain ⟨rfl, rfl, rfl⟩ := trodAll_nil r2
  obtain rfl : args = #[v0, v1, v2] := by cases args; simp_all
  obtain ⟨rfl, rfl⟩ := trodVars_none hV
  obtain ⟨a0, rfl, rfl, rfl, y0⟩ := open_string Tryd.underlying22 (hval 0 22 v0 rfl rfl) h0
  have w0 : a0.size ≤ 140737488351232 := by
    have z := sized_string hsz (j := 0) (t := 22) rfl rfl
    rw [Array.length_toList] at z
    exact z
  obtain ⟨a1, rfl, rfl, rfl, y1⟩ := open_string Tryd.underlying22 (hval 1 22 v1 rfl rfl) h1
  have w1 : a1.size ≤ 140737488351232 := by
    have z := sized_string hsz (j := 1) (t := 22) rfl rfl
    rw [Array.length_toList] at z
    exact z
  obtain ⟨a2, rfl, rfl, rfl, y2⟩ := open_string Tryd.underlying22 (hval 2 22 v2 rfl rfl) h2
  have w2 : a2.size ≤ 140737488351232 := by
    have z := sized_string hsz (j := 2) (t := 22) rfl rfl
    rw [Array.length_toList] at z
    exact z
  clear hA0 hval0 hsz0 hsz
  obtain ⟨k, hk⟩ := shares_pure a0 a1 a2 w0 w1 w2
  refine (ZLS.metrolablaw01_WholeShares.calls k a0 a1 a2 true W hk HE).mono fun e W' ⟨he, bel⟩ => ?_
  subst he
  exact ⟨_, rfl, _, _, _, [], _, [], hW', trodAll_mk1 (shut_bool Tryd.underlying4 _), (trodAll_cons_mk (shut_string Tryd.underlying22 y0) (trodAll_cons_mk (shut_string Tryd.underlying22 y1) (trodAll_cons_mk (shut_string Tryd.underlying22 y2) trodAll_mk0))), rfl, bel.frame _, fun h => by cases h⟩
theorem said : Rows.WholeSharesSaid :=
  OpenClaim.holds_of_wide 4 Tryd.f4 rfl rfl rfl rfl rfl rfl rfl ⟨rfl, rfl, rfl, rfl, rfl⟩ rfl rfl rfl rfl rfl (by kernel_rfl) Tryd.func4 (by kernel_rfl)
    (of_decide_eq_true (by kernel_rfl)) (by unfold Func.isWrapper; first | (rw [if_pos (by decide +kernel)]; kernel_rfl) | (rw [if_neg (by decide +kernel)]; exact ⟨rfl, rfl⟩))
    (fun os started H enc _ => lifted os started H enc)
theorem plain (f : FuncId) (fn : Func) (hf : Tryd.pinned.checked.prog.funcNamed "metrolab/metrolablaw01.WholeShares" = some f) (hfn : Tryd.pinned.checked.prog.funcs[f]? = some fn) :
    true = Tryd.pinned.checked.prog.looks [] ∧ ∀ (j : Nat) t, fn.params[j]? = some t → Tryd.pinned.checked.prog.wantsStandIn t = false := by
  obtain rfl : f = 4 := Option.some.inj ((show Tryd.prog.funcNamed "metrolab/metrolablaw01.WholeShares" = some 4 by kernel_rfl).symm.trans hf) |>.symm
  obtain rfl : fn = Tryd.f4 := (Option.some.inj (Tryd.func4.symm.trans hfn)).symm
  refine ⟨by kernel_rfl, fun j t ht => ?_⟩
  rw [Tryd.params4] at ht
  have hm : t ∈ [22, 22, 22] := by simpa using Array.mem_of_getElem? ht
  have hall : ([22, 22, 22].all fun u => !Tryd.prog.wantsStandIn u) = true := by kernel_rfl
  exact (show Tryd.prog.wantsStandIn t = false by simpa using List.all_eq_true.1 hall t hm)
theorem card : Rows.WholeSharesCardSaid :=
  Claim7.holds_tied_plain_at .later [] _ _ _ _ said (fun _ h => by cases h) (by kernel_rfl) (fun _ h => by cases h) wholeShares_row_tie rfl ⟨rfl, rfl⟩ (by kernel_rfl) rfl plain (by kernel_rfl)
#print axioms card
end Go.Proofs.YtpkfnclbcmnckaaDoor.wholeShares
namespace Go.Proofs.YtpkfnclbcmnckaaDoor
/-- The card, under a short name. -/
theorem wholeShares_holds : Rows.WholeSharesCardSaid := wholeShares.card
end Go.Proofs.YtpkfnclbcmnckaaDoor
