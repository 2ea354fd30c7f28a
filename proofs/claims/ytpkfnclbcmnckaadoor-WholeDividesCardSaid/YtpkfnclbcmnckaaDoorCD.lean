/- WholeDivides: a product is divided by one of its factors without a remainder; an integer is the quotient, times the divisor, and the remainder, which is 0 or has the sign of the divisor, and is nearer to 0. Conditions: package-level variables of Go's library hold what their initialisers lay (tied). -/
import Derived.Test.YtpkfnclbcmnckaaDoorA4
import Derived.Test.YtpkfnclbcmnckaaDoorZLD1m
import Derived.Test.YtpkfnclbcmnckaaDoorRows
import Derived.Test.YtpkfnclbcmnckaaDoorA1
import Derived.Lib.LaidTab
import Derived.Stop.LaidErr
import Derived.Lay
import Derived.ProofKit
import Derived.LaidMore
import Derived.Test.YtpkfnclbcmnckaaDoorCards
import Derived.Test.YtpkfnclbcmnckaaDoorTie
import Derived.WalkKit
import Derived.OpenShut
import Derived.ShutString
import Derived.ChangeOld
import Derived.Below
import Derived.SizedLaws
import Derived.SevenTiedAt
/- The law WholeDivides comes to true for all texts. -/
set_option linter.unusedVariables false
namespace Go.Proofs.YtpkfnclbcmnckaaDoor
open Go Go.RowKit Go.Proofs.YtpkfnclbcmnckaaDoor.Dec Go.Proofs.YtpkfnclbcmnckaaDoor.Mem Go.Proofs.YtpkfnclbcmnckaaDoor.Wid Go.Proofs.YtpkfnclbcmnckaaDoorW.PrintWords

theorem fmod_neg_range (x y : Int) (h : y < 0) : y < x.fmod y ∧ x.fmod y ≤ 0 := by
  have e : x.fmod y = -((-x).fmod (-y)) := by rw [Int.neg_fmod_neg, Int.neg_neg]
  have h1 := Int.fmod_nonneg_of_pos (-x) (show 0 < -y by omega)
  have h2 := Int.fmod_lt_of_pos (-x) (show 0 < -y by omega)
  omega
theorem sgn_pos {z : Int} (h : 0 < z) : sgn z = 1 := by unfold sgn; rw [if_neg (by omega), if_neg (by omega)]
theorem sgn_neg {z : Int} (h : z < 0) : sgn z = -1 := by unfold sgn; rw [if_neg (by omega), if_pos h]
theorem sgn_nul {z : Int} (h : z = 0) : sgn z = 0 := by unfold sgn; rw [if_pos h]
/-- The remainder has the divisor's sign, or is 0, and is nearer to 0. -/
theorem fmod_sign (x y : Int) (hy : y ≠ 0) : (sgn (x.fmod y) = 0 ∨ sgn (x.fmod y) = sgn y) ∧ sgn (y - x.fmod y) = sgn y ∧ (x.fmod y).natAbs ≤ y.natAbs ∧ x.fdiv y * y + x.fmod y = x := by
  have e : x.fdiv y * y + x.fmod y = x := by rw [Int.mul_comm]; exact Int.mul_fdiv_add_fmod x y
  rcases Int.lt_or_gt_of_ne hy with h | h
  · obtain ⟨h1, h2⟩ := fmod_neg_range x y h
    generalize x.fmod y = r at *
    refine ⟨?_, ?_, by omega, e⟩
    · by_cases hr : r = 0
      · exact .inl (sgn_nul hr)
      · exact .inr (by rw [sgn_neg (show r < 0 by omega), sgn_neg h])
    · rw [sgn_neg (show y - r < 0 by omega), sgn_neg h]
  · have h1 := Int.fmod_nonneg_of_pos x h
    have h2 := Int.fmod_lt_of_pos x h
    generalize x.fmod y = r at *
    refine ⟨?_, ?_, by omega, e⟩
    · by_cases hr : r = 0
      · exact .inl (sgn_nul hr)
      · exact .inr (by rw [sgn_pos (show 0 < r by omega), sgn_pos h])
    · rw [sgn_pos (show 0 < y - r by omega), sgn_pos h]
theorem mul_exact (x y : Int) (hy : y ≠ 0) : (x * y).fdiv y = x ∧ (x * y).fmod y = 0 := ⟨Int.mul_fdiv_cancel x hy, Int.mul_fmod_left x y⟩
theorem divides_j1 (x y : Int) (hx : fit 50 x) (hy : fit 50 y) (h0 : y ≠ 0) : Ev (fun k => ZLD.metrolablaw01_WholeDivides.j1 k (dec x) (dec y) (dec (x.fdiv y)) (dec (x.fmod y)) false) true := by
  obtain ⟨g1, g2, g3, g4⟩ := fmod_sign x y h0
  have hq : fit 50 (x.fdiv y) := fit_le hx (fdiv_abs x y h0)
  have hr : fit 50 (x.fmod y) := fit_le hy g3
  have hx' := fit_mono hx (show 50 ≤ 1024 by decide)
  have hy' := fit_mono hy (show 50 ≤ 1024 by decide)
  have hq' := fit_mono hq (show 50 ≤ 1024 by decide)
  have hr' := fit_mono hr (show 50 ≤ 1024 by decide)
  have hm := fit_mono (fit_mul hq hy) (show 100 ≤ 1024 by decide)
  have hn := fit_mono (fit_sub hy hr) (show 51 ≤ 1024 by decide)
  refine Ev.after 1 fun k => ?_
  rw [ZLD.metrolablaw01_WholeDivides.j1, if_neg (show ¬ (false = true) by decide), sMul hq' hy' hm]
  simp only [Option.bind_some]
  rw [sAdd hm hr' (by rw [g4]; exact hx'), g4, sSign hr', sSign hy', sSub hy' hr' hn]
  simp only [Option.bind_some]
  rw [sSign hn]
  simp only [Option.bind_some]
  rw [if_pos trivial, if_pos (show wrap64 (wrap64 (wrap64 (wrap64 (0 + 0) + 0) + 0) + 0) = 0 by simp only [w0]), if_pos trivial, g2]
  by_cases h : sgn (x.fmod y) = 0
  · rw [if_pos h, if_pos rfl]; rfl
  · rw [if_neg h, if_pos (g1.resolve_left h), if_pos rfl]; rfl
theorem divides_j0 (x y : Int) (hx : fit 50 x) (hy : fit 50 y) (h0 : y ≠ 0) : Ev (fun k => ZLD.metrolablaw01_WholeDivides.j0 k (dec x) (dec y) false) true := by
  have hq : fit 50 (x.fdiv y) := fit_le hx (fdiv_abs x y h0)
  have hx' := fit_mono hx (show 50 ≤ 1024 by decide)
  have hy' := fit_mono hy (show 50 ≤ 1024 by decide)
  have hq' := fit_mono hq (show 50 ≤ 1024 by decide)
  have hm := fit_mono (fit_mul hx hy) (show 100 ≤ 1024 by decide)
  obtain ⟨e1, e2⟩ := mul_exact x y h0
  have hb : ((dec 0).toList != [48]) = false := by
    rw [toL, (zero_list' 0).2 rfl]
    rfl
  refine Ev.step (f := fun k => ZLD.metrolablaw01_WholeDivides.j1 k (dec x) (dec y) (dec (x.fdiv y)) (dec (x.fmod y)) false) (fun k => ?_) (divides_j1 x y hx hy h0)
  rw [ZLD.metrolablaw01_WholeDivides.j0, if_neg (show ¬ (false = true) by decide), sMul hx' hy' hm]
  simp only [Option.bind_some]
  rw [sQuo hm hy' h0 (by rw [e1]; exact hx'), e1, sRem hm hy' h0, e2, sQuo hx' hy' h0 hq', sRem hx' hy' h0]
  simp only [Option.bind_some]
  rw [if_pos (show wrap64 (wrap64 (wrap64 (wrap64 (0 + 0) + 0) + 0) + 0) = 0 by simp only [w0]), if_pos trivial, hb]
theorem divides_pure (a b : ByteArray) (ha : a.size ≤ 140737488351232) (hb : b.size ≤ 140737488351232) : ∃ k, ZLD.metrolablaw01_WholeDivides.f k a b = some true := by
  have h : Ev (fun k => ZLD.metrolablaw01_WholeDivides.f k a b) true := by
    unfold ZLD.metrolablaw01_WholeDivides.f
    obtain ⟨t, ht, hs⟩ := short_is [a, b] (show (2 : Nat) ≤ 1000 by decide)
    have hj : Ev (fun k => ZLD.metrolablaw01_WholeDivides.j0 k a b true) true := Ev.after 1 fun k => rfl
    refine Ev.bind ht ?_
    cases t
    · exact Ev.neg (by decide) hj
    · have hs' := hs rfl
      obtain ⟨x, rfl, hx⟩ := short_dec (hs' a (by simp)).1 (hs' a (by simp)).2
      obtain ⟨y, rfl, hy⟩ := short_dec (hs' b (by simp)).1 (hs' b (by simp)).2
      refine Ev.pos rfl ?_
      by_cases h0 : y = 0
      · rw [show ((dec y).toList == [48]) = true by rw [toL, (zero_list' y).2 h0]; rfl]
        exact hj
      · rw [show ((dec y).toList == [48]) = false by rw [toL]; exact beq_eq_false_iff_ne.2 (fun k => h0 ((zero_list' y).1 k))]
        exact divides_j0 x y hx hy h0
  obtain ⟨K, hK⟩ := h
  exact ⟨K, hK K (Nat.le_refl _)⟩
end Go.Proofs.YtpkfnclbcmnckaaDoor
/- What the listed package-level variables give the walks. -/
set_option linter.unusedVariables false
namespace Go.Proofs.YtpkfnclbcmnckaaDoor
open Go Go.RowKit Go.ChangeShapes Go.WideShapes Go.ChangeAt

theorem own : ownKnob Tryd.prog.godebug = none := by kernel_rfl
theorem g_pow : Tryd.prog.globalNamed "internal/strconv.uint64pow10" = some 5 := by kernel_rfl
theorem gt_pow : (Tryd.prog.globals[5]?).map (·.type) = some 133 := by kernel_rfl
theorem g_err : Tryd.prog.globalNamed "strconv.ErrRange" = some 2 := by kernel_rfl
theorem gt_err : (Tryd.prog.globals[2]?).map (·.type) = some 67 := by kernel_rfl
theorem cells_u64 : Tryd.prog.cellsOf 108 = 1 := by kernel_rfl
theorem cells_pow : Tryd.prog.cellsOf 133 = 20 := by kernel_rfl
theorem cells_es : Tryd.prog.cellsOf 131 = 1 := by kernel_rfl
theorem cells_str : Tryd.prog.cellsOf 9 = 1 := by kernel_rfl
theorem row_es (u : TypeId) (h : Tryd.prog.typeName? 3 u = some "*errors.errorString") : u = 129 :=
  typeName_ptr_named (nm := "errors.errorString") (by kernel_rfl) (by kernel_rfl) (by decide) u h
def ErrsRange : List UInt8 := [118, 97, 108, 117, 101, 32, 111, 117, 116, 32, 111, 102, 32, 114, 97, 110, 103, 101]
theorem env_of_laid {W : World} {x0 x1 x3 : String × DataW Unit} {r : List (String × DataW Unit)}
    (h : laidMet Tryd.prog (x0 :: x1 :: ("internal/strconv.uint64pow10", Lib.tabData .u64 Lib.pow10Tab) :: x3 :: ("strconv.ErrRange", .iface "*errors.errorString" (.ptr (.agg [.lit (.string ErrsRange)]))) :: r) W) : Env W := by
  have h1 := h.tail.tail
  have h2 := h.tail.tail.tail.tail
  refine ⟨Lib.tabIs_of_head g_pow gt_pow Tryd.underlying133 Tryd.underlying108 cells_u64 cells_pow h1, ?_⟩
  obtain ⟨a0, s0, hv, _, _, _⟩ := laid_sentinel h2 g_err gt_err Tryd.underlying67 row_es Tryd.underlying129 Tryd.underlying131 rfl rfl Tryd.underlying9 cells_es cells_str
  exact ⟨_, World.var?_cell g_err hv 0, .inr ⟨_, _, rfl⟩⟩
end Go.Proofs.YtpkfnclbcmnckaaDoor
namespace Go.Proofs.YtpkfnclbcmnckaaDoor.wholeDivides
open Go.ChangeShapes Go.WideShapes Go.ChangeAt Go.RowKit
open Go.ChangeMaps (open_string shut_string)
open Go.Proofs.YtpkfnclbcmnckaaDoorW.PrintWords
set_option linter.unusedVariables false
set_option maxRecDepth 100000 in
theorem lifted (os : Os) (started : os.Started) (H : Type) (enc : TypeId × Value → H) :
    ReturnsInHanded {} Tryd.checked os 5 .any (fun w args => (Rows.wholeDividesSpec.pre enc Tryd.prog Tryd.f5 [] false w args ∧ laidMetH Tryd.prog Rows.wholeDividesRow.laid w) ∧ sizedMet enc Tryd.prog Tryd.f5 (OpenSpec.ofChange Rows.wholeDividesSpec) false w args)
      (Rows.wholeDividesSpec.post enc Tryd.prog Tryd.f5 false true false false) := by
  refine returnsInHanded_of_change_and (C := Tryd.checked) (X := fun w _ => laidMetH Tryd.prog Rows.wholeDividesRow.laid w) (fun _ _ _ hh h => h.of_heap hh) own started (by kernel_rfl) Tryd.func5
    (ChangeSpec.witness_shaped (enc := enc) (C := Tryd.checked) (os := os) (X := fun w _ => laidMetH Tryd.prog Rows.wholeDividesRow.laid w) false (World.laidAll Tryd.prog os Rows.wholeDividesRow.laid) #[.string ByteArray.empty, .string ByteArray.empty] 8 (World.laidAll_os _ _ _)
      (World.shaped_of_ZipB (by kernel_rfl) (by kernel_rfl)) (by kernel_rfl) (by kernel_rfl) (by kernel_rfl)
      (by rw [MakeChecks.laidMetH_plain _ _ _ (by kernel_rfl)]; exact laidMet_laidAll _ (by kernel_rfl) (by kernel_rfl))) ?_
  intro W base args ds gs before hval0 hW hcnd hsz0 hL _
  rw [MakeChecks.laidMetH_plain _ _ _ (by kernel_rfl)] at hL
  have HE : Env W := env_of_laid hL
  have hsz : (DataW.weightsEach Tryd.prog (Tryd.f5.params.toList ++ Rows.wholeDividesSpec.plain.varTypes Tryd.prog) (ds ++ gs)).all (· ≤ reachBytes) = true := hsz0
  have hval : ∀ (j : Nat) t v, Tryd.f5.params[j]? = some t → args[j]? = some v → Value.okWide Tryd.prog W .any base t v := hval0
  have hW' := hW
  obtain ⟨p, q, hA0, hV, rfl, hfz, hnd⟩ := hW
  have hA : DataW.TrodAll enc Tryd.prog W 0 (fun _ => true) true Tryd.f5.params.toList args.toList ds p := hA0
  rw [Tryd.params5] at hA hval hsz
  obtain ⟨v0, vs0, d0, ds0, p0, q0, hargs, rfl, rfl, h0, r0⟩ := trodAll_cons hA
  obtain ⟨v1, vs1, d1, ds1, p1, q1, rfl, rfl, rfl, h1, r1⟩ := trodAll_cons r0
  obtain ⟨rfl, rfl, rfl⟩ := trodAll_nil r1
  obtain rfl : args = #[v0, v1] := by cases args; simp_all
  obtain ⟨rfl, rfl⟩ := trodVars_none hV
  obtain ⟨a0, rfl, rfl, rfl, y0⟩ := open_string Tryd.underlying22 (hval 0 22 v0 rfl rfl) h0
  have w0 : a0.size ≤ 140737488351232 := by
    have z := sized_string hsz (j := 0) (t := 22) rfl rfl
    rw [Array.length_toList] at z
    exact z
  obtain ⟨a1, rfl, rfl, rfl, y1⟩ := open_string Tryd.underlying22 (hval 1 22 v1 rfl rfl) h1
  have w1 : a1.size ≤ 140737488351232 := by
    have z := sized_string hsz (j := 1) (t := 22) rfl rfl
    rw [Array.length_toList] at z
    exact z
  clear hA0 hval0 hsz0 hsz
  obtain ⟨k, hk⟩ := divides_pure a0 a1 w0 w1
  refine (ZLD.metrolablaw01_WholeDivides.calls k a0 a1 true W hk HE).mono fun e W' ⟨he, bel⟩ => ?_
  subst he
  exact ⟨_, rfl, _, _, _, [], _, [], hW', trodAll_mk1 (shut_bool Tryd.underlying4 _), (trodAll_cons_mk (shut_string Tryd.underlying22 y0) (trodAll_cons_mk (shut_string Tryd.underlying22 y1) trodAll_mk0)), rfl, bel.frame _, fun h => by cases h⟩
theorem said : Rows.WholeDividesSaid :=
  OpenClaim.holds_of_wide 5 Tryd.f5 rfl rfl rfl rfl rfl rfl rfl ⟨rfl, rfl, rfl, rfl, rfl⟩ rfl rfl rfl rfl rfl (by kernel_rfl) Tryd.func5 (by kernel_rfl)
    (of_decide_eq_true (by kernel_rfl)) (by unfold Func.isWrapper; first | (rw [if_pos (by decide +kernel)]; kernel_rfl) | (rw [if_neg (by decide +kernel)]; exact ⟨rfl, rfl⟩))
    (fun os started H enc _ => lifted os started H enc)
theorem plain (f : FuncId) (fn : Func) (hf : Tryd.pinned.checked.prog.funcNamed "metrolab/metrolablaw01.WholeDivides" = some f) (hfn : Tryd.pinned.checked.prog.funcs[f]? = some fn) :
    true = Tryd.pinned.checked.prog.looks [] ∧ ∀ (j : Nat) t, fn.params[j]? = some t → Tryd.pinned.checked.prog.wantsStandIn t = false := by
  obtain rfl : f = 5 := Option.some.inj ((show Tryd.prog.funcNamed "metrolab/metrolablaw01.WholeDivides" = some 5 by kernel_rfl).symm.trans hf) |>.symm
  obtain rfl : fn = Tryd.f5 := (Option.some.inj (Tryd.func5.symm.trans hfn)).symm
  refine ⟨by kernel_rfl, fun j t ht => ?_⟩
  rw [Tryd.params5] at ht
  have hm : t ∈ [22, 22] := by simpa using Array.mem_of_getElem? ht
  have hall : ([22, 22].all fun u => !Tryd.prog.wantsStandIn u) = true := by kernel_rfl
  exact (show Tryd.prog.wantsStandIn t = false by simpa using List.all_eq_true.1 hall t hm)
theorem card : Rows.WholeDividesCardSaid :=
  Claim7.holds_tied_plain_at .later [] _ _ _ _ said (fun _ h => by cases h) (by kernel_rfl) (fun _ h => by cases h) wholeDivides_row_tie rfl ⟨rfl, rfl⟩ (by kernel_rfl) rfl plain (by kernel_rfl)
#print axioms card
end Go.Proofs.YtpkfnclbcmnckaaDoor.wholeDivides
namespace Go.Proofs.YtpkfnclbcmnckaaDoor
/-- The card, under a short name. -/
theorem wholeDivides_holds : Rows.WholeDividesCardSaid := wholeDivides.card
end Go.Proofs.YtpkfnclbcmnckaaDoor
