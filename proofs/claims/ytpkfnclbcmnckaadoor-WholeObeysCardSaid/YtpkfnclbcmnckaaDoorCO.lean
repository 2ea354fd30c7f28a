/- WholeObeys: the laws of a commutative ring hold, and the order agrees with differences. Conditions: package-level variables of Go's library hold what their initialisers lay (tied). -/
import Derived.Test.YtpkfnclbcmnckaaDoorA4
import Derived.Test.YtpkfnclbcmnckaaDoorZLO1m
import Derived.Test.YtpkfnclbcmnckaaDoorRows
import Derived.Test.YtpkfnclbcmnckaaDoorA1
import Derived.Lib.LaidTab
import Derived.Stop.LaidErr
import Derived.Lay
import Derived.ProofKit
import Derived.LaidMore
import Derived.Test.YtpkfnclbcmnckaaDoorCards
import Derived.Test.YtpkfnclbcmnckaaDoorTie
import Derived.WalkKit
import Derived.OpenShut
import Derived.ShutString
import Derived.ChangeOld
import Derived.Below
import Derived.SizedLaws
import Derived.SevenTiedAt
/- The law WholeObeys comes to true for all texts. -/
set_option linter.unusedVariables false
namespace Go.Proofs.YtpkfnclbcmnckaaDoor
open Go Go.RowKit Go.Proofs.YtpkfnclbcmnckaaDoor.Dec Go.Proofs.YtpkfnclbcmnckaaDoor.Mem Go.Proofs.YtpkfnclbcmnckaaDoor.Wid Go.Proofs.YtpkfnclbcmnckaaDoorW.PrintWords

theorem cmp_sub (x y : Int) : cmpI x y = sgn (x - y) := by
  unfold cmpI sgn
  by_cases h1 : x < y
  · rw [if_pos h1, if_neg (by omega), if_pos (by omega)]
  · rw [if_neg h1]
    by_cases h2 : y < x
    · rw [if_pos h2, if_neg (by omega), if_neg (by omega)]
    · rw [if_neg h2, if_pos (by omega)]
theorem obeys_j0 (x y : Int) (hx : fit 50 x) (hy : fit 50 y) : Ev (fun k => ZLO.metrolablaw01_WholeObeys.j0 k (dec x) (dec y) (dec (x * y)) false) true := by
  have hx' := fit_mono hx (show 50 ≤ 1024 by decide)
  have hy' := fit_mono hy (show 50 ≤ 1024 by decide)
  have hd := fit_mono (fit_sub hx hy) (show 51 ≤ 1024 by decide)
  have hm := fit_mono (fit_mul hy hx) (show 100 ≤ 1024 by decide)
  refine Ev.after 1 fun k => ?_
  rw [ZLO.metrolablaw01_WholeObeys.j0, if_neg (show ¬ (false = true) by decide), sCmp hx' hy', sSub hx' hy' hd]
  simp only [Option.bind_some]
  rw [sSign hd, sMul hy' hx' hm]
  simp only [Option.bind_some]
  rw [if_pos (show wrap64 (wrap64 (wrap64 (0 + 0) + 0) + 0) = 0 by simp only [w0]), if_pos (cmp_sub x y), if_pos (by rw [Int.mul_comm])]
  rfl
theorem obeys_pure (a b c : ByteArray) (ha : a.size ≤ 140737488351232) (hb : b.size ≤ 140737488351232) (hc : c.size ≤ 140737488351232) : ∃ k, ZLO.metrolablaw01_WholeObeys.f k a b c = some true := by
  have h : Ev (fun k => ZLO.metrolablaw01_WholeObeys.f k a b c) true := by
    unfold ZLO.metrolablaw01_WholeObeys.f
    obtain ⟨t, ht, hs⟩ := short_is [a, b, c] (show (3 : Nat) ≤ 1000 by decide)
    refine Ev.bind ht ?_
    cases t
    · exact Ev.neg (by decide) (Ev.now _)
    · have hs' := hs rfl
      obtain ⟨x, rfl, hx⟩ := short_dec (hs' a (by simp)).1 (hs' a (by simp)).2
      obtain ⟨y, rfl, hy⟩ := short_dec (hs' b (by simp)).1 (hs' b (by simp)).2
      obtain ⟨z, rfl, hz⟩ := short_dec (hs' c (by simp)).1 (hs' c (by simp)).2
      refine Ev.pos rfl ?_
      have hx' := fit_mono hx (show 50 ≤ 1024 by decide)
      have hy' := fit_mono hy (show 50 ≤ 1024 by decide)
      have hz' := fit_mono hz (show 50 ≤ 1024 by decide)
      have hab := fit_mul hx hy
      have hac := fit_mul hx hz
      have hab' := fit_mono hab (show 100 ≤ 1024 by decide)
      have hac' := fit_mono hac (show 100 ≤ 1024 by decide)
      have hsum := fit_add hy hz
      have hsum' := fit_mono hsum (show 51 ≤ 1024 by decide)
      have hleft := fit_mono (fit_mul hsum hx) (show 101 ≤ 1024 by decide)
      have hright := fit_mono (fit_add hac hab) (show 101 ≤ 1024 by decide)
      have hback : y + z - z = y := by omega
      have hzero : -x + x = 0 := by omega
      have hneg := fit_neg hx'
      rw [sMul hx' hy' hab', sMul hx' hz' hac', sAdd hy' hz' hsum']
      simp only [Option.bind_some]
      rw [sMul hsum' hx' hleft, sAdd hac' hab' hright, sSub hsum' hz' (by rw [hback]; exact hy'), sNeg hx']
      simp only [Option.bind_some]
      rw [sAdd hneg hx' (by rw [hzero]; exact fit_zero _), hback, hzero]
      simp only [Option.bind_some]
      refine Ev.pos (show wrap64 (wrap64 (wrap64 (wrap64 (wrap64 (wrap64 (wrap64 (0 + 0) + 0) + 0) + 0) + 0) + 0) + 0) = 0 by simp only [w0]) ?_
      refine Ev.pos (by rw [Int.add_mul, Int.mul_comm y x, Int.mul_comm z x, Int.add_comm]) ?_
      refine Ev.pos trivial ?_
      have e : ((dec 0).toList != [48]) = false := by
        rw [toL, (zero_list' 0).2 rfl]
        rfl
      rw [e]
      exact obeys_j0 x y hx hy
  obtain ⟨K, hK⟩ := h
  exact ⟨K, hK K (Nat.le_refl _)⟩
end Go.Proofs.YtpkfnclbcmnckaaDoor
/- What the listed package-level variables give the walks. -/
set_option linter.unusedVariables false
namespace Go.Proofs.YtpkfnclbcmnckaaDoor
open Go Go.RowKit Go.ChangeShapes Go.WideShapes Go.ChangeAt

theorem own : ownKnob Tryd.prog.godebug = none := by kernel_rfl
theorem g_pow : Tryd.prog.globalNamed "internal/strconv.uint64pow10" = some 5 := by kernel_rfl
theorem gt_pow : (Tryd.prog.globals[5]?).map (·.type) = some 133 := by kernel_rfl
theorem g_err : Tryd.prog.globalNamed "strconv.ErrRange" = some 2 := by kernel_rfl
theorem gt_err : (Tryd.prog.globals[2]?).map (·.type) = some 67 := by kernel_rfl
theorem cells_u64 : Tryd.prog.cellsOf 108 = 1 := by kernel_rfl
theorem cells_pow : Tryd.prog.cellsOf 133 = 20 := by kernel_rfl
theorem cells_es : Tryd.prog.cellsOf 131 = 1 := by kernel_rfl
theorem cells_str : Tryd.prog.cellsOf 9 = 1 := by kernel_rfl
theorem row_es (u : TypeId) (h : Tryd.prog.typeName? 3 u = some "*errors.errorString") : u = 129 :=
  typeName_ptr_named (nm := "errors.errorString") (by kernel_rfl) (by kernel_rfl) (by decide) u h
def ErrsRange : List UInt8 := [118, 97, 108, 117, 101, 32, 111, 117, 116, 32, 111, 102, 32, 114, 97, 110, 103, 101]
theorem env_of_laid {W : World} {x0 x1 x3 : String × DataW Unit} {r : List (String × DataW Unit)}
    (h : laidMet Tryd.prog (x0 :: x1 :: ("internal/strconv.uint64pow10", Lib.tabData .u64 Lib.pow10Tab) :: x3 :: ("strconv.ErrRange", .iface "*errors.errorString" (.ptr (.agg [.lit (.string ErrsRange)]))) :: r) W) : Env W := by
  have h1 := h.tail.tail
  have h2 := h.tail.tail.tail.tail
  refine ⟨Lib.tabIs_of_head g_pow gt_pow Tryd.underlying133 Tryd.underlying108 cells_u64 cells_pow h1, ?_⟩
  obtain ⟨a0, s0, hv, _, _, _⟩ := laid_sentinel h2 g_err gt_err Tryd.underlying67 row_es Tryd.underlying129 Tryd.underlying131 rfl rfl Tryd.underlying9 cells_es cells_str
  exact ⟨_, World.var?_cell g_err hv 0, .inr ⟨_, _, rfl⟩⟩
end Go.Proofs.YtpkfnclbcmnckaaDoor
namespace Go.Proofs.YtpkfnclbcmnckaaDoor.wholeObeys
open Go.ChangeShapes Go.WideShapes Go.ChangeAt Go.RowKit
open Go.ChangeMaps (open_string shut_string)
open Go.Proofs.YtpkfnclbcmnckaaDoorW.PrintWords
set_option linter.unusedVariables false
set_option maxRecDepth 100000 in
theorem lifted (os : Os) (started : os.Started) (H : Type) (enc : TypeId × Value → H) :
    ReturnsInHanded {} Tryd.checked os 6 .any (fun w args => (Rows.wholeObeysSpec.pre enc Tryd.prog Tryd.f6 [] false w args ∧ laidMetH Tryd.prog Rows.wholeObeysRow.laid w) ∧ sizedMet enc Tryd.prog Tryd.f6 (OpenSpec.ofChange Rows.wholeObeysSpec) false w args)
      (Rows.wholeObeysSpec.post enc Tryd.prog Tryd.f6 false true false false) := by
  refine returnsInHanded_of_change_and (C := Tryd.checked) (X := fun w _ => laidMetH Tryd.prog Rows.wholeObeysRow.laid w) (fun _ _ _ hh h => h.of_heap hh) own started (by kernel_rfl) Tryd.func6
    (ChangeSpec.witness_shaped (enc := enc) (C := Tryd.checked) (os := os) (X := fun w _ => laidMetH Tryd.prog Rows.wholeObeysRow.laid w) false (World.laidAll Tryd.prog os Rows.wholeObeysRow.laid) #[.string ByteArray.empty, .string ByteArray.empty, .string ByteArray.empty] 8 (World.laidAll_os _ _ _)
      (World.shaped_of_ZipB (by kernel_rfl) (by kernel_rfl)) (by kernel_rfl) (by kernel_rfl) (by kernel_rfl)
      (by rw [MakeChecks.laidMetH_plain _ _ _ (by kernel_rfl)]; exact laidMet_laidAll _ (by kernel_rfl) (by kernel_rfl))) ?_
  intro W base args ds gs before hval0 hW hcnd hsz0 hL _
  rw [MakeChecks.laidMetH_plain _ _ _ (by kernel_rfl)] at hL
  have HE : Env W := env_of_laid hL
  have hsz : (DataW.weightsEach Tryd.prog (Tryd.f6.params.toList ++ Rows.wholeObeysSpec.plain.varTypes Tryd.prog) (ds ++ gs)).all (· ≤ reachBytes) = true := hsz0
  have hval : ∀ (j : Nat) t v, Tryd.f6.params[j]? = some t → args[j]? = some v → Value.okWide Tryd.prog W .any base t v := hval0
  have hW' := hW
  obtain ⟨p, q, hA0, hV, rfl, hfz, hnd⟩ := hW
  have hA : DataW.TrodAll enc Tryd.prog W 0 (fun _ => true) true Tryd.f6.params.toList args.toList ds p := hA0
  rw [Tryd.params6] at hA hval hsz
  obtain ⟨v0, vs0, d0, ds0, p0, q0, hargs, rfl, rfl, h0, r0⟩ := trodAll_cons hA
  obtain ⟨v1, vs1, d1, ds1, p1, q1, rfl, rfl, rfl, h1, r1⟩ := trodAll_cons r0
  obtain ⟨v2, vs2, d2, ds2, p2, q2, rfl, rfl, rfl, h2, r2⟩ := trodAll_cons r1
  obtain ⟨rfl, rfl, rfl⟩ := trodAll_nil r2
  obtain rfl : args = #[v0, v1, v2] := by cases args; simp_all
  obtain ⟨rfl, rfl⟩ := trodVars_none hV
  obtain ⟨a0, rfl, rfl, rfl, y0⟩ := open_string Tryd.underlying22 (hval 0 22 v0 rfl rfl) h0
  have w0 : a0.size ≤ 140737488351232 := by
    have z := sized_string hsz (j := 0) (t := 22) rfl rfl
    rw [Array.length_toList] at z
    exact z
  obtain ⟨a1, rfl, rfl, rfl, y1⟩ := open_string Tryd.underlying22 (hval 1 22 v1 rfl rfl) h1
  have w1 : a1.size ≤ 140737488351232 := by
    have z := sized_string hsz (j := 1) (t := 22) rfl rfl
    rw [Array.length_toList] at z
    exact z
  obtain ⟨a2, rfl, rfl, rfl, y2⟩ := open_string Tryd.underlying22 (hval 2 22 v2 rfl rfl) h2
  have w2 : a2.size ≤ 140737488351232 := by
    have z := sized_string hsz (j := 2) (t := 22) rfl rfl
    rw [Array.length_toList] at z
    exact z
  clear hA0 hval0 hsz0 hsz
  obtain ⟨k, hk⟩ := obeys_pure a0 a1 a2 w0 w1 w2
  refine (ZLO.metrolablaw01_WholeObeys.calls k a0 a1 a2 true W hk HE).mono fun e W' ⟨he, bel⟩ => ?_
  subst he
  exact ⟨_, rfl, _, _, _, [], _, [], hW', trodAll_mk1 (shut_bool Tryd.underlying4 _), (trodAll_cons_mk (shut_string Tryd.underlying22 y0) (trodAll_cons_mk (shut_string Tryd.underlying22 y1) (trodAll_cons_mk (shut_string Tryd.underlying22 y2) trodAll_mk0))), rfl, bel.frame _, fun h => by cases h⟩
theorem said : Rows.WholeObeysSaid :=
  OpenClaim.holds_of_wide 6 Tryd.f6 rfl rfl rfl rfl rfl rfl rfl ⟨rfl, rfl, rfl, rfl, rfl⟩ rfl rfl rfl rfl rfl (by kernel_rfl) Tryd.func6 (by kernel_rfl)
    (of_decide_eq_true (by kernel_rfl)) (by unfold Func.isWrapper; first | (rw [if_pos (by decide +kernel)]; kernel_rfl) | (rw [if_neg (by decide +kernel)]; exact ⟨rfl, rfl⟩))
    (fun os started H enc _ => lifted os started H enc)
theorem plain (f : FuncId) (fn : Func) (hf : Tryd.pinned.checked.prog.funcNamed "metrolab/metrolablaw01.WholeObeys" = some f) (hfn : Tryd.pinned.checked.prog.funcs[f]? = some fn) :
    true = Tryd.pinned.checked.prog.looks [] ∧ ∀ (j : Nat) t, fn.params[j]? = some t → Tryd.pinned.checked.prog.wantsStandIn t = false := by
  obtain rfl : f = 6 := Option.some.inj ((show Tryd.prog.funcNamed "metrolab/metrolablaw01.WholeObeys" = some 6 by kernel_rfl).symm.trans hf) |>.symm
  obtain rfl : fn = Tryd.f6 := (Option.some.inj (Tryd.func6.symm.trans hfn)).symm
  refine ⟨by kernel_rfl, fun j t ht => ?_⟩
  rw [Tryd.params6] at ht
  have hm : t ∈ [22, 22, 22] := by simpa using Array.mem_of_getElem? ht
  have hall : ([22, 22, 22].all fun u => !Tryd.prog.wantsStandIn u) = true := by kernel_rfl
  exact (show Tryd.prog.wantsStandIn t = false by simpa using List.all_eq_true.1 hall t hm)
theorem card : Rows.WholeObeysCardSaid :=
  Claim7.holds_tied_plain_at .later [] _ _ _ _ said (fun _ h => by cases h) (by kernel_rfl) (fun _ h => by cases h) wholeObeys_row_tie rfl ⟨rfl, rfl⟩ (by kernel_rfl) rfl plain (by kernel_rfl)
#print axioms card
end Go.Proofs.YtpkfnclbcmnckaaDoor.wholeObeys
namespace Go.Proofs.YtpkfnclbcmnckaaDoor
/-- The card, under a short name. -/
theorem wholeObeys_holds : Rows.WholeObeysCardSaid := wholeObeys.card
end Go.Proofs.YtpkfnclbcmnckaaDoor
