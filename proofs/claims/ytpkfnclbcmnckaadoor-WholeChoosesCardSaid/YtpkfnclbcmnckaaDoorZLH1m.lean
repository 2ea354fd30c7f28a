import Derived.Test.YtpkfnclbcmnckaaDoorProg
import Derived.Below
import Derived.Deep.Draws
import Derived.Deep.AppendLies
import Derived.Maps.AppendAt
import Derived.OwnWalk
import Derived.Laws.BytesArg
import Derived.Laws.MakeOwn
import Derived.Laws.OwnMore
import Derived.Deep.OwnRows
import Derived.Tactics
import Derived.Lib.ConvBytes
import Derived.Laws.Slices
import Derived.WalkKit
import Derived.KernelRfl
import Derived.RowKit3
import Derived.Deep.LoopGhost
import Derived.Deep.QuietTactic
import Derived.BigQuiet
import Derived.WideLaws
import Derived.Deep.DeepCutAuto
import Derived.Deep.CutBlock
import Derived.Deep.RegionHeld3
import Derived.Laws.Rows
import Derived.Lib.AppendStr
import Derived.ArgAppend
import Derived.Laws.IdiomCopy
import Derived.OrdersHeld
import Derived.Laws.BitsLemmas
import Derived.RowKit
import Derived.Test.YtpkfnclbcmnckaaDoorZP1m
import Derived.Test.YtpkfnclbcmnckaaDoorWWords
import Derived.Test.YtpkfnclbcmnckaaDoorWLast
import Derived.Test.YtpkfnclbcmnckaaDoorWTab
import Derived.Test.YtpkfnclbcmnckaaDoorWFour
import Derived.Test.YtpkfnclbcmnckaaDoorWQPut
import Derived.Test.YtpkfnclbcmnckaaDoorWApart
import Derived.Test.YtpkfnclbcmnckaaDoorWArr
import Derived.Test.YtpkfnclbcmnckaaDoorWZeros
import Derived.Test.YtpkfnclbcmnckaaDoorWFoot
import Derived.Test.YtpkfnclbcmnckaaDoorWKept
import Derived.Test.YtpkfnclbcmnckaaDoorWShare
import Derived.Test.YtpkfnclbcmnckaaDoorWN
import Derived.Test.YtpkfnclbcmnckaaDoorWFootNe
import Derived.Test.YtpkfnclbcmnckaaDoorWAt
import Derived.Test.YtpkfnclbcmnckaaDoorWEqStruct
import Derived.Test.YtpkfnclbcmnckaaDoorWRepsOne
import Derived.Test.YtpkfnclbcmnckaaDoorWInv
import Derived.Test.YtpkfnclbcmnckaaDoorWInvWords
import Derived.Test.YtpkfnclbcmnckaaDoorWGuard
import Derived.Test.YtpkfnclbcmnckaaDoorWNEv
import Derived.Test.YtpkfnclbcmnckaaDoorWMore
-- written by the session's px.py out of the translation; Lean checks it.
namespace Go.Proofs.YtpkfnclbcmnckaaDoor.ZLH
open Go.RowKit Go.Proofs.YtpkfnclbcmnckaaDoorW.PrintWords Go.Proofs.YtpkfnclbcmnckaaDoorW.PrintLast Go.Proofs.YtpkfnclbcmnckaaDoorW.PrintMore
attribute [local go_sem] max2_int min2_int max_two min_two max_three min_three max_four min_four   -- for this text's walks alone
set_option linter.unusedVariables false
set_option linter.unusedSimpArgs false



def errW : Option Int → Value
  | none => .nilIface
  | some c => .iface 0 (.int .i64 c)
theorem errW_none : errW none = .nilIface := rfl
theorem errW_some (c : Int) : errW (some c) = .iface 0 (.int .i64 c) := rfl

theorem info22 : (Tryd.prog.info? 22).map (fun i => (i.zero, i.size, i.bytes)) = some (some (.string ⟨#[]⟩), 1, 16) := by kernel_rfl
-- the values' own types

end Go.Proofs.YtpkfnclbcmnckaaDoor.ZLH
-- written by the session's px.py out of the translation; Lean checks it.
namespace Go.Proofs.YtpkfnclbcmnckaaDoor.ZLH
open Go.RowKit Go.Proofs.YtpkfnclbcmnckaaDoorW.PrintWords Go.Proofs.YtpkfnclbcmnckaaDoorW.PrintLast Go.Proofs.YtpkfnclbcmnckaaDoorW.PrintMore
attribute [local go_sem] max2_int min2_int max_two min_two max_three min_three max_four min_four   -- for this text's walks alone
set_option linter.unusedVariables false
set_option linter.unusedSimpArgs false

/-! ### metrolablaw01_WholeChooses: function 3 -/
mutual
def metrolablaw01_WholeChooses.j0 : Nat → ByteArray → Int → Int → Bool → Option (Bool)
  | 0, _, _, _, _ => none
  | k + 1, x2, x7, x8, x46 => if x46 = true then ((awake.f).bind fun t105 => (some t105)) else (metrolablaw01_WholeChooses.l0 k x2 x7 x8 (([] : List ByteArray)) (wrap64 (x7 + 1)) 0)
def metrolablaw01_WholeChooses.l0 : Nat → ByteArray → Int → Int → List ByteArray → Int → Int → Option (Bool)
  | 0, _, _, _, _, _, _ => none
  | k + 1, x2, x7, x8, x9, x50, x51 => if x51 < x50 then ((whole_Binomial.f x7 x51).bind fun bt109 => (if bt109.2 = 0 then (if x9.length < 8796093022208 then (metrolablaw01_WholeChooses.l0 k x2 x7 x8 (x9 ++ [bt109.1]) x50 (wrap64 (x51 + 1))) else (none)) else (some false))) else ((whole_Total.f x9).bind fun bt114 => ((whole_Pow.f (⟨#[50]⟩ : ByteArray) x7).bind fun bt116 => ((whole_Binomial.f x7 x8).bind fun bt118 => ((whole_Binomial.f (wrap64 (x7 - 1)) x8).bind fun bt120 => ((whole_Binomial.f (wrap64 (x7 - 1)) (wrap64 (x8 - 1))).bind fun bt122 => ((whole_Add.f bt120.1 bt122.1).bind fun bt124 => ((whole_Binomial.f x7 (wrap64 (x7 - x8))).bind fun bt126 => (if (wrap64 ((wrap64 ((wrap64 ((wrap64 ((wrap64 ((wrap64 (bt114.2 + bt116.2)) + bt118.2)) + bt120.2)) + bt122.2)) + bt124.2)) + bt126.2)) = 0 then (if bt114.1.toList = bt116.1.toList then (if bt118.1.toList = bt124.1.toList then (metrolablaw01_WholeChooses.j2 k x2 x7 (bt118.1.toList != bt126.1.toList)) else (metrolablaw01_WholeChooses.j2 k x2 x7 true)) else (metrolablaw01_WholeChooses.j2 k x2 x7 true)) else (metrolablaw01_WholeChooses.j2 k x2 x7 true)))))))))
def metrolablaw01_WholeChooses.j2 : Nat → ByteArray → Int → Bool → Option (Bool)
  | 0, _, _, _ => none
  | k + 1, x2, x7, x140 => if x140 = true then (some false) else ((whole_Pow.f x2 x7).bind fun bt128 => ((whole_Pow.f x2 (Int.tmod x7 7)).bind fun bt130 => ((whole_Mul.f bt128.1 bt130.1).bind fun bt132 => ((whole_Pow.f x2 (wrap64 (x7 + (Int.tmod x7 7)))).bind fun bt134 => (if (wrap64 ((wrap64 ((wrap64 (bt128.2 + bt130.2)) + bt132.2)) + bt134.2)) = 0 then (if bt132.1.toList = bt134.1.toList then ((awake.f).bind fun t136 => (some t136)) else (some false)) else (some false))))))
end
def metrolablaw01_WholeChooses.f (k : Nat) (a0 : Int) (a1 : Int) (a2 : ByteArray) : Option (Bool) := if (a2.size : Int) > 12 then (metrolablaw01_WholeChooses.j0 k a2 (wrap64 (1 + (wrap64 (Int.tmod a0 60)))) (wrap64 (Int.tmod a1 70)) true) else ((ZP.metrolablaw01_short.f k (([a2] : List ByteArray))).bind fun t104 => (metrolablaw01_WholeChooses.j0 k a2 (wrap64 (1 + (wrap64 (Int.tmod a0 60)))) (wrap64 (Int.tmod a1 70)) (!t104)))
theorem metrolablaw01_WholeChooses.mono_l : ∀ k, (∀ y0 y1 y2 y3, LeO (metrolablaw01_WholeChooses.j0 k y0 y1 y2 y3) (metrolablaw01_WholeChooses.j0 (k + 1) y0 y1 y2 y3)) ∧ (∀ y0 y1 y2 y3 y4 y5, LeO (metrolablaw01_WholeChooses.l0 k y0 y1 y2 y3 y4 y5) (metrolablaw01_WholeChooses.l0 (k + 1) y0 y1 y2 y3 y4 y5)) ∧ (∀ y0 y1 y2, LeO (metrolablaw01_WholeChooses.j2 k y0 y1 y2) (metrolablaw01_WholeChooses.j2 (k + 1) y0 y1 y2))
  | 0 => ⟨fun _ _ _ _ r h => by simp [metrolablaw01_WholeChooses.j0] at h, fun _ _ _ _ _ _ r h => by simp [metrolablaw01_WholeChooses.l0] at h, fun _ _ _ r h => by simp [metrolablaw01_WholeChooses.j2] at h⟩
  | k + 1 => by
    obtain ⟨ih0, ih1, ih2⟩ := metrolablaw01_WholeChooses.mono_l k
    refine ⟨?_, ?_, ?_⟩
    · intro y0 y1 y2 y3
      unfold metrolablaw01_WholeChooses.j0
      repeat' first
      | (with_reducible exact ih0 _ _ _ _)
      | (with_reducible exact ih1 _ _ _ _ _ _)
      | (with_reducible exact ih2 _ _ _)
      | (with_reducible exact ZP.metrolablaw01_short.mono _ _)
      | (with_reducible exact LeO.refl _)
      | (with_reducible exact LeO.none _)
      | (with_reducible refine LeO.ite ?_ ?_)
      | (with_reducible refine LeO.bind ?_ (fun _ => ?_))
      | exact ih0 _ _ _ _
      | exact ih1 _ _ _ _ _ _
      | exact ih2 _ _ _
      | exact ZP.metrolablaw01_short.mono _ _
      | exact LeO.none _
      | refine LeO.ite ?_ ?_
      | refine LeO.bind ?_ (fun _ => ?_)
    · intro y0 y1 y2 y3 y4 y5
      unfold metrolablaw01_WholeChooses.l0
      repeat' first
      | (with_reducible exact ih0 _ _ _ _)
      | (with_reducible exact ih1 _ _ _ _ _ _)
      | (with_reducible exact ih2 _ _ _)
      | (with_reducible exact ZP.metrolablaw01_short.mono _ _)
      | (with_reducible exact LeO.refl _)
      | (with_reducible exact LeO.none _)
      | (with_reducible refine LeO.ite ?_ ?_)
      | (with_reducible refine LeO.bind ?_ (fun _ => ?_))
      | exact ih0 _ _ _ _
      | exact ih1 _ _ _ _ _ _
      | exact ih2 _ _ _
      | exact ZP.metrolablaw01_short.mono _ _
      | exact LeO.none _
      | refine LeO.ite ?_ ?_
      | refine LeO.bind ?_ (fun _ => ?_)
    · intro y0 y1 y2
      unfold metrolablaw01_WholeChooses.j2
      repeat' first
      | (with_reducible exact ih0 _ _ _ _)
      | (with_reducible exact ih1 _ _ _ _ _ _)
      | (with_reducible exact ih2 _ _ _)
      | (with_reducible exact ZP.metrolablaw01_short.mono _ _)
      | (with_reducible exact LeO.refl _)
      | (with_reducible exact LeO.none _)
      | (with_reducible refine LeO.ite ?_ ?_)
      | (with_reducible refine LeO.bind ?_ (fun _ => ?_))
      | exact ih0 _ _ _ _
      | exact ih1 _ _ _ _ _ _
      | exact ih2 _ _ _
      | exact ZP.metrolablaw01_short.mono _ _
      | exact LeO.none _
      | refine LeO.ite ?_ ?_
      | refine LeO.bind ?_ (fun _ => ?_)
theorem metrolablaw01_WholeChooses.mono : ∀ a0 a1 a2 k, LeO (metrolablaw01_WholeChooses.f k a0 a1 a2) (metrolablaw01_WholeChooses.f (k + 1) a0 a1 a2) := by
  intro a0 a1 a2 k
  obtain ⟨ih0, ih1, ih2⟩ := metrolablaw01_WholeChooses.mono_l k
  unfold metrolablaw01_WholeChooses.f
  repeat' first
      | (with_reducible exact ih0 _ _ _ _)
      | (with_reducible exact ih1 _ _ _ _ _ _)
      | (with_reducible exact ih2 _ _ _)
      | (with_reducible exact ZP.metrolablaw01_short.mono _ _)
      | (with_reducible exact LeO.refl _)
      | (with_reducible exact LeO.none _)
      | (with_reducible refine LeO.ite ?_ ?_)
      | (with_reducible refine LeO.bind ?_ (fun _ => ?_))
      | exact ih0 _ _ _ _
      | exact ih1 _ _ _ _ _ _
      | exact ih2 _ _ _
      | exact ZP.metrolablaw01_short.mono _ _
      | exact LeO.none _
      | refine LeO.ite ?_ ?_
      | refine LeO.bind ?_ (fun _ => ?_)
set_option maxHeartbeats 8000000 in
set_option maxRecDepth 100000 in
theorem metrolablaw01_WholeChooses.calls (k : Nat) (a0 : Int) (a1 : Int) (a2 : ByteArray) (r : Bool) (w : World) (h : metrolablaw01_WholeChooses.f k a0 a1 a2 = some r) (HE_ : Env w) :
    Calls Tryd.prog 3 #[.int .u8 a0, .int .u8 a1, .string a2] w fun e w' => e = .returned (.bool r) ∧ Below w.heap.size w w' := by
  have ENV0 := Aside0.mk HE_
  clear HE_
  have HB := Aside0.mk (Below.refl w.heap.size w)
  have H : (if (a2.size : Int) > 12 then (metrolablaw01_WholeChooses.j0 k a2 (wrap64 (1 + (wrap64 (Int.tmod a0 60)))) (wrap64 (Int.tmod a1 70)) true) else ((ZP.metrolablaw01_short.f k (([a2] : List ByteArray))).bind fun t104 => (metrolablaw01_WholeChooses.j0 k a2 (wrap64 (1 + (wrap64 (Int.tmod a0 60)))) (wrap64 (Int.tmod a1 70)) (!t104)))) = some r := h
  clear h
  have HC4 := Aside0.mk H
  clear H
  go_enter Tryd.func3, Tryd.ntmps3
  go_upto_region 2 with (fail)
  go_cut [46] (fun v46 wc => ∃ (kq : Nat) (x46_3 : Bool), v46 = .bool x46_3 ∧ Aside0 (metrolablaw01_WholeChooses.j0 kq a2 (wrap64 (1 + (wrap64 (Int.tmod a0 60)))) (wrap64 (Int.tmod a1 70)) x46_3 = some r) ∧ Aside0 (kq ≤ k) ∧ Aside0 (Below w.heap.size w wc))
  case first =>
    have H := HC4.out
    clear HC4
    by_cases c5 : (a2.size : Int) > 12
    · rw [if_pos c5] at H
      have c5b0 : decide (12 < (a2.size : Int)) = true := decide_eq_true c5
      have c5b1 : decide (12 < a2.size) = true := decide_eq_true (by omega)
      clear c5
      (first | rw [c5b0] | (simp only [i64_w, i32_w]; rw [c5b0]) | skip)
      have H' := Aside0.mk H
      clear H
      go_wp2
      go_meet
      case rel => exact ⟨_, (true), (by first | rfl | exact congrArg Value.bool (not_empty _) | exact congrArg Value.bool (is_empty _) | (simp; done) | (simp [*]; done)), H', ⟨by first | omega | exact Nat.le_refl _⟩, ⟨by repeat (first | (with_reducible first | exact HB.out | apply below_alloc | apply pw_below_drewN | apply below_drew1) | exact HB.out)⟩⟩
    · rw [if_neg c5] at H
      have c5b0 : decide (12 < (a2.size : Int)) = false := decide_eq_false c5
      have c5b1 : decide (12 < a2.size) = false := decide_eq_false (by omega)
      clear c5
      (first | rw [c5b0] | (simp only [i64_w, i32_w]; rw [c5b0]) | skip)
      obtain ⟨y101, hy101⟩ : ∃ y_ : List ByteArray, y_ = (([a2] : List ByteArray)) := ⟨_, rfl⟩
      replace H : ((ZP.metrolablaw01_short.f k y101).bind fun t104 => (metrolablaw01_WholeChooses.j0 k a2 (wrap64 (1 + (wrap64 (Int.tmod a0 60)))) (wrap64 (Int.tmod a1 70)) (!t104))) = some r := by first | (rw [hy101]; with_reducible exact H) | (have H2_ := (Option.bind_some _ _).symm.trans H; rw [hy101]; with_reducible exact H2_) | (have H2_ := (Option.bind_some _ _).symm.trans H; with_reducible exact H2_) | with_reducible exact H | (rw [hy101]; exact H) | exact H
      have Ny101 := Aside0.mk hy101
      clear hy101
      replace H := Option.bind_eq_some_iff.mp H
      obtain ⟨t104, A60, H⟩ := H
      replace H : (metrolablaw01_WholeChooses.j0 k a2 (wrap64 (1 + (wrap64 (Int.tmod a0 60)))) (wrap64 (Int.tmod a1 70)) (!t104)) = some r := H
      have A6 := Aside0.mk A60
      clear A60
      have H' := Aside0.mk H
      clear H
      go_wp2_with (first | ((with_reducible refine gate_dst (N := 43) rfl ?_); (try (refine gate_guard (by rfl) ?_; dsimp only)); refine Kd.R_lit Kd.string _ 22 ?hg (N := 43) ?hd (xs := ([a2] : List ByteArray)) (inner := [.string a2]) (ok := fun _ => True) (okp := fun _ => True) ?hr ?hp (fun _ hk => hk) trivial (Below.refl _ _) (Nat.le_refl _) (by simp) ?_; (case hd => rfl); (case hg => rfl); (case hr => first | (go_simp; done) | (go_simp; rfl)); (case hp => exact (Reps.one (show Kd.M Kd.string _ _ _ a2 [.string a2] from rfl) (Reps.none _ _))); intro v102 w7 ho8 hb hg_ hnew_; clear hg_ hnew_; (first | rw [← Ny101.out] at ho8 | (simp only [Int.reduceToNat] at ho8; rw [← Ny101.out] at ho8)); have n0_ := Aside0.mk (Kd.R_lower ho8 (below_size (by repeat (first | (with_reducible first | exact HB.out | apply below_alloc | apply pw_below_drewN | apply below_drew1) | exact HB.out)))); have n1_ := Aside0.mk (below_step (by repeat (first | (with_reducible first | exact HB.out | apply below_alloc | apply pw_below_drewN | apply below_drew1) | exact HB.out)) hb); clear HB; have HO103 := n0_; have HB := n1_; clear n0_ n1_; clear hb ho8; obtain ⟨Ao9, co9, eo9⟩ := Kd.R_slice HO103.out; subst eo9) | (go_at_call 7; (with_reducible refine (ZP.metrolablaw01_short.calls k _ _ y101 t104 _ ?side1 ?side2 A6.out).mono ?_); (case side1 => repeat (first | exact (Kd.R_reads' HO103.out).2.2 | (with_reducible refine Kd.C_alloc ?_ _) | (with_reducible refine Kd.C_drewN ?_ _) | (with_reducible refine Kd.C_drew ?_))); (case side2 => exact (Kd.R_reads' HO103.out).2.1); rintro e w' ⟨rfl, ⟨nd, rfl⟩⟩))
      go_meet
      case rel => exact ⟨_, (!t104), (by first | rfl | exact congrArg Value.bool (not_empty _) | exact congrArg Value.bool (is_empty _) | (simp; done) | (simp [*]; done)), H', ⟨by first | omega | exact Nat.le_refl _⟩, ⟨by repeat (first | (with_reducible first | exact HB.out | apply below_alloc | apply pw_below_drewN | apply below_drew1) | exact HB.out)⟩⟩
  case rest =>
    clear HC4
    try clear p2
    try clear c3
    try clear c5
    try clear c5b0
    try clear c5b1
    try clear p6
    obtain ⟨kq, x46_3, rfl, HA, HJ3, HB⟩ := hcut
    cases kq with
    | zero => exact absurd HA.out (by simp [metrolablaw01_WholeChooses.j0])
    | succ kj3 =>
      have H := HA.out
      clear HA
      simp only [metrolablaw01_WholeChooses.j0] at H
      by_cases c10 : x46_3 = true
      · subst c10
        have H1 : ((awake.f).bind fun t105 => (some t105)) = some r := by rw [if_pos rfl] at H; exact H
        clear H
        have H := H1
        clear H1
        replace H := Option.bind_eq_some_iff.mp H
        obtain ⟨t105, A110, H⟩ := H
        replace H : (some t105) = some r := H
        have A11 := Aside0.mk A110
        clear A110
        obtain rfl := Option.some.inj H
        go_wp2_with (first | ((with_reducible refine gate_callee (f := 8) rfl ?_); refine goesL_ (some 47) rfl rfl Tryd.func8 (by kernel_rfl) rfl #[] rfl (by (try simp only [List.map_toArray, List.map_cons, List.map_nil]); first | done | rfl | (simp only [List.length_drop, List.length_take]; rfl)) ?_; (with_reducible refine (awake.calls  t105 _ A11.out (Env.below ENV0.out (by repeat (first | (with_reducible first | exact HB.out | apply below_alloc | apply pw_below_drewN | apply below_drew1) | exact HB.out)))).mono ?_); rintro e w12 ⟨rfl, hb⟩; refine ⟨_, rfl, ?_⟩; have n0_ := Aside0.mk (below_step (by repeat (first | (with_reducible first | exact HB.out | apply below_alloc | apply pw_below_drewN | apply below_drew1) | exact HB.out)) hb); clear HB; have HB := n0_; clear n0_; (try clear hb); (try clear hb2); (try clear hk); (try clear hi)))
        go_ret
        exact ⟨by first | rfl | (simp [errW_none, errW_some] <;> rfl) | (simp [*, errW_none, errW_some] <;> rfl), by repeat (first | (with_reducible first | exact HB.out | apply below_alloc | apply pw_below_drewN | apply below_drew1) | exact HB.out)⟩
      · replace c10 := Bool.eq_false_iff.mpr c10
        subst c10
        have H1 : (metrolablaw01_WholeChooses.l0 kj3 a2 (wrap64 (1 + (wrap64 (Int.tmod a0 60)))) (wrap64 (Int.tmod a1 70)) (([] : List ByteArray)) (wrap64 ((wrap64 (1 + (wrap64 (Int.tmod a0 60)))) + 1)) 0) = some r := by rw [if_neg (show ¬ (false = true) by decide)] at H; exact H
        clear H
        have H := H1
        clear H1
        obtain ⟨y106, hy106⟩ : ∃ y_ : List ByteArray, y_ = (([] : List ByteArray)) := ⟨_, rfl⟩
        replace H : (metrolablaw01_WholeChooses.l0 kj3 a2 (wrap64 (1 + (wrap64 (Int.tmod a0 60)))) (wrap64 (Int.tmod a1 70)) y106 (wrap64 ((wrap64 (1 + (wrap64 (Int.tmod a0 60)))) + 1)) 0) = some r := by first | (rw [hy106]; with_reducible exact H) | (have H2_ := (Option.bind_some _ _).symm.trans H; rw [hy106]; with_reducible exact H2_) | (have H2_ := (Option.bind_some _ _).symm.trans H; with_reducible exact H2_) | with_reducible exact H | (rw [hy106]; exact H) | exact H
        have Ny106 := Aside0.mk hy106
        clear hy106
        have H' := Aside0.mk H
        clear H
        go_wp2_with (first | ((with_reducible refine gate_dst (N := 48) rfl ?_); (try (refine gate_guard (by rfl) ?_; dsimp only)); refine Kd.R_lit Kd.string _ 22 ?hg (N := 48) ?hd (xs := ([] : List ByteArray)) (inner := []) (ok := fun _ => True) (okp := fun _ => True) ?hr ?hp (fun _ hk => hk) trivial (Below.refl _ _) (Nat.le_refl _) (by simp) ?_; (case hd => rfl); (case hg => rfl); (case hr => first | (go_simp; done) | (go_simp; rfl)); (case hp => exact (Reps.none _ _)); intro v107 w13 ho14 hb hg_ hnew_; clear hg_ hnew_; (first | rw [← Ny106.out] at ho14 | (simp only [Int.reduceToNat] at ho14; rw [← Ny106.out] at ho14)); have n0_ := Aside0.mk (Kd.R_lower ho14 (below_size (by repeat (first | (with_reducible first | exact HB.out | apply below_alloc | apply pw_below_drewN | apply below_drew1) | exact HB.out)))); have n1_ := Aside0.mk (below_step (by repeat (first | (with_reducible first | exact HB.out | apply below_alloc | apply pw_below_drewN | apply below_drew1) | exact HB.out)) hb); clear HB; have HO108 := n0_; have HB := n1_; clear n0_ n1_; clear hb ho14))
        go_loopg [9, 51] kj3 (fun kq v9 v51 w' => ∃ (x9_2 : List ByteArray) (x51_2 : Int), v51 = .int .i64 x51_2 ∧ Aside0 (metrolablaw01_WholeChooses.l0 kq a2 (wrap64 (1 + (wrap64 (Int.tmod a0 60)))) (wrap64 (Int.tmod a1 70)) x9_2 (wrap64 ((wrap64 (1 + (wrap64 (Int.tmod a0 60)))) + 1)) x51_2 = some r) ∧ Aside0 (kq ≤ kj3) ∧ Aside0 (Kd.R Kd.string 22 w' w.heap.size (fun _ => True) v9 x9_2) ∧ Aside0 (Below w.heap.size w w'))
        case atStart => exact ⟨(y106), (0), (by first | rfl | exact congrArg Value.bool (not_empty _) | exact congrArg Value.bool (is_empty _) | (simp; done) | (simp [*]; done)), H', ⟨Nat.le_refl _⟩, ⟨by (with_reducible repeat (first | apply Kd.R_alloc | apply Kd.R_drewN | apply Kd.R_drew)); exact HO108.out⟩, ⟨by repeat (first | (with_reducible first | exact HB.out | apply below_alloc | apply pw_below_drewN | apply below_drew1) | exact HB.out)⟩⟩
        case round =>
          clear H'
          try clear c1
          try clear p2
          try clear c3
          try clear c5
          try clear c5b0
          try clear c5b1
          try clear p6
          try clear c8
          try clear c10
          try clear p2
          try clear p6
          obtain ⟨x9_2, x51_2, rfl, HA, HK2, HO_9, HB⟩ := hrel
          cases gk with
          | zero => exact absurd HA.out (by simp [metrolablaw01_WholeChooses.l0])
          | succ k2 =>
            have H := HA.out
            clear HA
            simp only [metrolablaw01_WholeChooses.l0] at H
            by_cases c15 : x51_2 < (wrap64 ((wrap64 (1 + (wrap64 (Int.tmod a0 60)))) + 1))
            · rw [if_pos c15] at H
              have c15b0 : decide (x51_2 < (wrap64 ((wrap64 (1 + (wrap64 (Int.tmod a0 60)))) + 1))) = true := decide_eq_true c15
              clear c15
              replace H := Option.bind_eq_some_iff.mp H
              obtain ⟨⟨t109, t110⟩, A160, H⟩ := H
              replace H : (if t110 = 0 then (if x9_2.length < 8796093022208 then (metrolablaw01_WholeChooses.l0 k2 a2 (wrap64 (1 + (wrap64 (Int.tmod a0 60)))) (wrap64 (Int.tmod a1 70)) (x9_2 ++ [t109]) (wrap64 ((wrap64 (1 + (wrap64 (Int.tmod a0 60)))) + 1)) (wrap64 (x51_2 + 1))) else (none)) else (some false)) = some r := H
              have A16 := Aside0.mk A160
              clear A160
              by_cases c17 : t110 = 0
              · rw [if_pos c17] at H
                have c17b0 : (t110 == 0) = true := beq_iff_eq.mpr c17
                have c17b1 : (t110 != 0) = false := bne_eq_false_iff_eq.mpr c17
                clear c17
                by_cases c18 : x9_2.length < 8796093022208
                · rw [if_pos c18] at H
                  have LMc18 := Aside0.mk c18
                  clear c18
                  obtain ⟨y111, hy111⟩ : ∃ y_ : List ByteArray, y_ = (x9_2 ++ [t109]) := ⟨_, rfl⟩
                  replace H : (metrolablaw01_WholeChooses.l0 k2 a2 (wrap64 (1 + (wrap64 (Int.tmod a0 60)))) (wrap64 (Int.tmod a1 70)) y111 (wrap64 ((wrap64 (1 + (wrap64 (Int.tmod a0 60)))) + 1)) (wrap64 (x51_2 + 1))) = some r := by first | (rw [hy111]; with_reducible exact H) | (have H2_ := (Option.bind_some _ _).symm.trans H; rw [hy111]; with_reducible exact H2_) | (have H2_ := (Option.bind_some _ _).symm.trans H; with_reducible exact H2_) | with_reducible exact H | (rw [hy111]; exact H) | exact H
                  have Ny111 := Aside0.mk hy111
                  clear hy111
                  have H' := Aside0.mk H
                  clear H
                  go_wp2_with (first | ((with_reducible refine gate_callee (f := 9) rfl ?_); refine goesL_ (some 57) rfl rfl Tryd.func9 (by kernel_rfl) rfl #[.int .i64 (wrap64 (1 + (wrap64 (Int.tmod a0 60)))), .int .i64 x51_2] rfl (by (try simp only [List.map_toArray, List.map_cons, List.map_nil]); first | done | rfl | (simp only [List.length_drop, List.length_take]; rfl)) ?_; (with_reducible refine (whole_Binomial.calls (wrap64 (1 + (wrap64 (Int.tmod a0 60)))) x51_2 t109 t110 _ A16.out (Env.below ENV0.out (by repeat (first | (with_reducible first | exact HB.out | apply below_alloc | apply pw_below_drewN | apply below_drew1) | exact HB.out)))).mono ?_); rintro e w19 ⟨rfl, hb⟩; refine ⟨_, rfl, ?_⟩; have n0_ := Aside0.mk (Kd.R_below (by (with_reducible repeat (first | apply Kd.R_alloc | apply Kd.R_drewN | apply Kd.R_drew)); exact HO_9.out) hb); have n1_ := Aside0.mk (below_step (by repeat (first | (with_reducible first | exact HB.out | apply below_alloc | apply pw_below_drewN | apply below_drew1) | exact HB.out)) hb); clear HO_9; clear HB; have HO_9 := n0_; have HB := n1_; clear n0_ n1_; (try clear hb); (try clear hb2); (try clear hk); (try clear hi)) | ((with_reducible refine gate_builtin (b := .append) (xs := #[.tmp 62, .tmp 64]) rfl ?_); (try (refine gate_guard (by rfl) ?_; dsimp only)); at_builtin; refine Kd.R_append Kd.string (w0 := w) w.heap.size rfl (.tmp 62) (.tmp 64) 25 22 (.string ⟨#[]⟩) 16 rfl Tryd.underlying25 info22 rfl (by decide) (by omega) u9 x9_2 t109 [.string t109] (fun _ => True) (fun _ => False) rfl rfl ?aP (fun _ hk => hk.elim) ?aF ?aO ?aB ?aS ?aL ?_; (case aP => exact rfl); (case aB => exact (by repeat (first | (with_reducible first | exact HB.out | apply below_alloc | apply pw_below_drewN | apply below_drew1) | exact HB.out))); (case aF => exact (fun _ _ => trivial)); (case aO => exact (by (with_reducible repeat (first | apply Kd.R_alloc | apply Kd.R_drewN | apply Kd.R_drew)); exact HO_9.out)); (case aS => exact (below_size (by repeat (first | (with_reducible first | exact HB.out | apply below_alloc | apply pw_below_drewN | apply below_drew1) | exact HB.out)))); (case aL => have := LMc18.out; omega); intro v112 w20 ho hb hg hat; rw [← Ny111.out] at ho; have n0_ := Aside0.mk (hb); have n1_ := Aside0.mk (ho); clear HB; clear HO_9; have HB := n0_; have HO113 := n1_; clear n0_ n1_; clear ho hb hg hat))
                  go_roundg k2
                  case measure => have := HJ3.out; have := HK2.out; omega
                  case rel => exact ⟨(y111), (wrap64 (x51_2 + 1)), (by first | rfl | exact congrArg Value.bool (not_empty _) | exact congrArg Value.bool (is_empty _) | (simp; done) | (simp [*]; done)), H', ⟨by have := HJ3.out; have := HK2.out; omega⟩, ⟨by (with_reducible repeat (first | apply Kd.R_alloc | apply Kd.R_drewN | apply Kd.R_drew)); exact HO113.out⟩, ⟨by repeat (first | (with_reducible first | exact HB.out | apply below_alloc | apply pw_below_drewN | apply below_drew1) | exact HB.out)⟩⟩
                · rw [if_neg c18] at H
                  exact absurd H (by simp)
              · rw [if_neg c17] at H
                have c17b0 : (t110 == 0) = false := beq_eq_false_iff_ne.mpr c17
                have c17b1 : (t110 != 0) = true := bne_iff_ne.mpr c17
                obtain rfl := Option.some.inj H
                go_wp2_with (first | ((with_reducible refine gate_callee (f := 9) rfl ?_); refine goesL_ (some 57) rfl rfl Tryd.func9 (by kernel_rfl) rfl #[.int .i64 (wrap64 (1 + (wrap64 (Int.tmod a0 60)))), .int .i64 x51_2] rfl (by (try simp only [List.map_toArray, List.map_cons, List.map_nil]); first | done | rfl | (simp only [List.length_drop, List.length_take]; rfl)) ?_; (with_reducible refine (whole_Binomial.calls (wrap64 (1 + (wrap64 (Int.tmod a0 60)))) x51_2 t109 t110 _ A16.out (Env.below ENV0.out (by repeat (first | (with_reducible first | exact HB.out | apply below_alloc | apply pw_below_drewN | apply below_drew1) | exact HB.out)))).mono ?_); rintro e w21 ⟨rfl, hb⟩; refine ⟨_, rfl, ?_⟩; have n0_ := Aside0.mk (Kd.R_below (by (with_reducible repeat (first | apply Kd.R_alloc | apply Kd.R_drewN | apply Kd.R_drew)); exact HO_9.out) hb); have n1_ := Aside0.mk (below_step (by repeat (first | (with_reducible first | exact HB.out | apply below_alloc | apply pw_below_drewN | apply below_drew1) | exact HB.out)) hb); clear HO_9; clear HB; have HO_9 := n0_; have HB := n1_; clear n0_ n1_; (try clear hb); (try clear hb2); (try clear hk); (try clear hi)))
                go_ret
                exact ⟨by first | rfl | (simp [errW_none, errW_some] <;> rfl) | (simp [*, errW_none, errW_some] <;> rfl), by repeat (first | (with_reducible first | exact HB.out | apply below_alloc | apply pw_below_drewN | apply below_drew1) | exact HB.out)⟩
            · rw [if_neg c15] at H
              have c15b0 : decide (x51_2 < (wrap64 ((wrap64 (1 + (wrap64 (Int.tmod a0 60)))) + 1))) = false := decide_eq_false c15
              clear c15
              replace H := Option.bind_eq_some_iff.mp H
              obtain ⟨⟨t114, t115⟩, A220, H⟩ := H
              replace H : ((whole_Pow.f (⟨#[50]⟩ : ByteArray) (wrap64 (1 + (wrap64 (Int.tmod a0 60))))).bind fun bt116 => ((whole_Binomial.f (wrap64 (1 + (wrap64 (Int.tmod a0 60)))) (wrap64 (Int.tmod a1 70))).bind fun bt118 => ((whole_Binomial.f (wrap64 ((wrap64 (1 + (wrap64 (Int.tmod a0 60)))) - 1)) (wrap64 (Int.tmod a1 70))).bind fun bt120 => ((whole_Binomial.f (wrap64 ((wrap64 (1 + (wrap64 (Int.tmod a0 60)))) - 1)) (wrap64 ((wrap64 (Int.tmod a1 70)) - 1))).bind fun bt122 => ((whole_Add.f bt120.1 bt122.1).bind fun bt124 => ((whole_Binomial.f (wrap64 (1 + (wrap64 (Int.tmod a0 60)))) (wrap64 ((wrap64 (1 + (wrap64 (Int.tmod a0 60)))) - (wrap64 (Int.tmod a1 70))))).bind fun bt126 => (if (wrap64 ((wrap64 ((wrap64 ((wrap64 ((wrap64 ((wrap64 (t115 + bt116.2)) + bt118.2)) + bt120.2)) + bt122.2)) + bt124.2)) + bt126.2)) = 0 then (if t114.toList = bt116.1.toList then (if bt118.1.toList = bt124.1.toList then (metrolablaw01_WholeChooses.j2 k2 a2 (wrap64 (1 + (wrap64 (Int.tmod a0 60)))) (bt118.1.toList != bt126.1.toList)) else (metrolablaw01_WholeChooses.j2 k2 a2 (wrap64 (1 + (wrap64 (Int.tmod a0 60)))) true)) else (metrolablaw01_WholeChooses.j2 k2 a2 (wrap64 (1 + (wrap64 (Int.tmod a0 60)))) true)) else (metrolablaw01_WholeChooses.j2 k2 a2 (wrap64 (1 + (wrap64 (Int.tmod a0 60)))) true)))))))) = some r := H
              have A22 := Aside0.mk A220
              clear A220
              replace H := Option.bind_eq_some_iff.mp H
              obtain ⟨⟨t116, t117⟩, A230, H⟩ := H
              replace H : ((whole_Binomial.f (wrap64 (1 + (wrap64 (Int.tmod a0 60)))) (wrap64 (Int.tmod a1 70))).bind fun bt118 => ((whole_Binomial.f (wrap64 ((wrap64 (1 + (wrap64 (Int.tmod a0 60)))) - 1)) (wrap64 (Int.tmod a1 70))).bind fun bt120 => ((whole_Binomial.f (wrap64 ((wrap64 (1 + (wrap64 (Int.tmod a0 60)))) - 1)) (wrap64 ((wrap64 (Int.tmod a1 70)) - 1))).bind fun bt122 => ((whole_Add.f bt120.1 bt122.1).bind fun bt124 => ((whole_Binomial.f (wrap64 (1 + (wrap64 (Int.tmod a0 60)))) (wrap64 ((wrap64 (1 + (wrap64 (Int.tmod a0 60)))) - (wrap64 (Int.tmod a1 70))))).bind fun bt126 => (if (wrap64 ((wrap64 ((wrap64 ((wrap64 ((wrap64 ((wrap64 (t115 + t117)) + bt118.2)) + bt120.2)) + bt122.2)) + bt124.2)) + bt126.2)) = 0 then (if t114.toList = t116.toList then (if bt118.1.toList = bt124.1.toList then (metrolablaw01_WholeChooses.j2 k2 a2 (wrap64 (1 + (wrap64 (Int.tmod a0 60)))) (bt118.1.toList != bt126.1.toList)) else (metrolablaw01_WholeChooses.j2 k2 a2 (wrap64 (1 + (wrap64 (Int.tmod a0 60)))) true)) else (metrolablaw01_WholeChooses.j2 k2 a2 (wrap64 (1 + (wrap64 (Int.tmod a0 60)))) true)) else (metrolablaw01_WholeChooses.j2 k2 a2 (wrap64 (1 + (wrap64 (Int.tmod a0 60)))) true))))))) = some r := H
              have A23 := Aside0.mk A230
              clear A230
              replace H := Option.bind_eq_some_iff.mp H
              obtain ⟨⟨t118, t119⟩, A240, H⟩ := H
              replace H : ((whole_Binomial.f (wrap64 ((wrap64 (1 + (wrap64 (Int.tmod a0 60)))) - 1)) (wrap64 (Int.tmod a1 70))).bind fun bt120 => ((whole_Binomial.f (wrap64 ((wrap64 (1 + (wrap64 (Int.tmod a0 60)))) - 1)) (wrap64 ((wrap64 (Int.tmod a1 70)) - 1))).bind fun bt122 => ((whole_Add.f bt120.1 bt122.1).bind fun bt124 => ((whole_Binomial.f (wrap64 (1 + (wrap64 (Int.tmod a0 60)))) (wrap64 ((wrap64 (1 + (wrap64 (Int.tmod a0 60)))) - (wrap64 (Int.tmod a1 70))))).bind fun bt126 => (if (wrap64 ((wrap64 ((wrap64 ((wrap64 ((wrap64 ((wrap64 (t115 + t117)) + t119)) + bt120.2)) + bt122.2)) + bt124.2)) + bt126.2)) = 0 then (if t114.toList = t116.toList then (if t118.toList = bt124.1.toList then (metrolablaw01_WholeChooses.j2 k2 a2 (wrap64 (1 + (wrap64 (Int.tmod a0 60)))) (t118.toList != bt126.1.toList)) else (metrolablaw01_WholeChooses.j2 k2 a2 (wrap64 (1 + (wrap64 (Int.tmod a0 60)))) true)) else (metrolablaw01_WholeChooses.j2 k2 a2 (wrap64 (1 + (wrap64 (Int.tmod a0 60)))) true)) else (metrolablaw01_WholeChooses.j2 k2 a2 (wrap64 (1 + (wrap64 (Int.tmod a0 60)))) true)))))) = some r := H
              have A24 := Aside0.mk A240
              clear A240
              replace H := Option.bind_eq_some_iff.mp H
              obtain ⟨⟨t120, t121⟩, A250, H⟩ := H
              replace H : ((whole_Binomial.f (wrap64 ((wrap64 (1 + (wrap64 (Int.tmod a0 60)))) - 1)) (wrap64 ((wrap64 (Int.tmod a1 70)) - 1))).bind fun bt122 => ((whole_Add.f t120 bt122.1).bind fun bt124 => ((whole_Binomial.f (wrap64 (1 + (wrap64 (Int.tmod a0 60)))) (wrap64 ((wrap64 (1 + (wrap64 (Int.tmod a0 60)))) - (wrap64 (Int.tmod a1 70))))).bind fun bt126 => (if (wrap64 ((wrap64 ((wrap64 ((wrap64 ((wrap64 ((wrap64 (t115 + t117)) + t119)) + t121)) + bt122.2)) + bt124.2)) + bt126.2)) = 0 then (if t114.toList = t116.toList then (if t118.toList = bt124.1.toList then (metrolablaw01_WholeChooses.j2 k2 a2 (wrap64 (1 + (wrap64 (Int.tmod a0 60)))) (t118.toList != bt126.1.toList)) else (metrolablaw01_WholeChooses.j2 k2 a2 (wrap64 (1 + (wrap64 (Int.tmod a0 60)))) true)) else (metrolablaw01_WholeChooses.j2 k2 a2 (wrap64 (1 + (wrap64 (Int.tmod a0 60)))) true)) else (metrolablaw01_WholeChooses.j2 k2 a2 (wrap64 (1 + (wrap64 (Int.tmod a0 60)))) true))))) = some r := H
              have A25 := Aside0.mk A250
              clear A250
              replace H := Option.bind_eq_some_iff.mp H
              obtain ⟨⟨t122, t123⟩, A260, H⟩ := H
              replace H : ((whole_Add.f t120 t122).bind fun bt124 => ((whole_Binomial.f (wrap64 (1 + (wrap64 (Int.tmod a0 60)))) (wrap64 ((wrap64 (1 + (wrap64 (Int.tmod a0 60)))) - (wrap64 (Int.tmod a1 70))))).bind fun bt126 => (if (wrap64 ((wrap64 ((wrap64 ((wrap64 ((wrap64 ((wrap64 (t115 + t117)) + t119)) + t121)) + t123)) + bt124.2)) + bt126.2)) = 0 then (if t114.toList = t116.toList then (if t118.toList = bt124.1.toList then (metrolablaw01_WholeChooses.j2 k2 a2 (wrap64 (1 + (wrap64 (Int.tmod a0 60)))) (t118.toList != bt126.1.toList)) else (metrolablaw01_WholeChooses.j2 k2 a2 (wrap64 (1 + (wrap64 (Int.tmod a0 60)))) true)) else (metrolablaw01_WholeChooses.j2 k2 a2 (wrap64 (1 + (wrap64 (Int.tmod a0 60)))) true)) else (metrolablaw01_WholeChooses.j2 k2 a2 (wrap64 (1 + (wrap64 (Int.tmod a0 60)))) true)))) = some r := H
              have A26 := Aside0.mk A260
              clear A260
              replace H := Option.bind_eq_some_iff.mp H
              obtain ⟨⟨t124, t125⟩, A270, H⟩ := H
              replace H : ((whole_Binomial.f (wrap64 (1 + (wrap64 (Int.tmod a0 60)))) (wrap64 ((wrap64 (1 + (wrap64 (Int.tmod a0 60)))) - (wrap64 (Int.tmod a1 70))))).bind fun bt126 => (if (wrap64 ((wrap64 ((wrap64 ((wrap64 ((wrap64 ((wrap64 (t115 + t117)) + t119)) + t121)) + t123)) + t125)) + bt126.2)) = 0 then (if t114.toList = t116.toList then (if t118.toList = t124.toList then (metrolablaw01_WholeChooses.j2 k2 a2 (wrap64 (1 + (wrap64 (Int.tmod a0 60)))) (t118.toList != bt126.1.toList)) else (metrolablaw01_WholeChooses.j2 k2 a2 (wrap64 (1 + (wrap64 (Int.tmod a0 60)))) true)) else (metrolablaw01_WholeChooses.j2 k2 a2 (wrap64 (1 + (wrap64 (Int.tmod a0 60)))) true)) else (metrolablaw01_WholeChooses.j2 k2 a2 (wrap64 (1 + (wrap64 (Int.tmod a0 60)))) true))) = some r := H
              have A27 := Aside0.mk A270
              clear A270
              replace H := Option.bind_eq_some_iff.mp H
              obtain ⟨⟨t126, t127⟩, A280, H⟩ := H
              replace H : (if (wrap64 ((wrap64 ((wrap64 ((wrap64 ((wrap64 ((wrap64 (t115 + t117)) + t119)) + t121)) + t123)) + t125)) + t127)) = 0 then (if t114.toList = t116.toList then (if t118.toList = t124.toList then (metrolablaw01_WholeChooses.j2 k2 a2 (wrap64 (1 + (wrap64 (Int.tmod a0 60)))) (t118.toList != t126.toList)) else (metrolablaw01_WholeChooses.j2 k2 a2 (wrap64 (1 + (wrap64 (Int.tmod a0 60)))) true)) else (metrolablaw01_WholeChooses.j2 k2 a2 (wrap64 (1 + (wrap64 (Int.tmod a0 60)))) true)) else (metrolablaw01_WholeChooses.j2 k2 a2 (wrap64 (1 + (wrap64 (Int.tmod a0 60)))) true)) = some r := H
              have A28 := Aside0.mk A280
              clear A280
              have HC29 := Aside0.mk H
              clear H
              obtain ⟨Ao30, co30, eo30⟩ := Kd.R_slice HO_9.out
              subst eo30
              go_upto_region 20 with (first | ((with_reducible refine gate_callee (f := 10) rfl ?_); refine goesL_ (some 69) rfl rfl Tryd.func10 (by kernel_rfl) rfl #[.slice Ao30 x9_2.length co30] rfl (by (try simp only [List.map_toArray, List.map_cons, List.map_nil]); first | done | rfl | (simp only [List.length_drop, List.length_take]; rfl)) ?_; (with_reducible refine (whole_Total.calls _ _ x9_2 t114 t115 _ ?side1 ?side2 A22.out (Env.below ENV0.out (by repeat (first | (with_reducible first | exact HB.out | apply below_alloc | apply pw_below_drewN | apply below_drew1) | exact HB.out)))).mono ?_); (case side1 => repeat (first | exact (Kd.R_reads' HO_9.out).2.2 | (with_reducible refine Kd.C_alloc ?_ _) | (with_reducible refine Kd.C_drewN ?_ _) | (with_reducible refine Kd.C_drew ?_))); (case side2 => exact (Kd.R_reads' HO_9.out).2.1); rintro e w31 ⟨rfl, hb⟩; refine ⟨_, rfl, ?_⟩; have n0_ := Aside0.mk (Kd.R_below (by (with_reducible repeat (first | apply Kd.R_alloc | apply Kd.R_drewN | apply Kd.R_drew)); exact HO_9.out) hb); have n1_ := Aside0.mk (below_step (by repeat (first | (with_reducible first | exact HB.out | apply below_alloc | apply pw_below_drewN | apply below_drew1) | exact HB.out)) hb); clear HO_9; clear HB; have HO_9 := n0_; have HB := n1_; clear n0_ n1_; (try clear hb); (try clear hb2); (try clear hk); (try clear hi)) | ((with_reducible refine gate_callee (f := 11) rfl ?_); refine goesL_ (some 74) rfl rfl Tryd.func11 (by kernel_rfl) rfl #[.string (⟨#[50]⟩ : ByteArray), .int .i64 (wrap64 (1 + (wrap64 (Int.tmod a0 60))))] rfl (by (try simp only [List.map_toArray, List.map_cons, List.map_nil]); first | done | rfl | (simp only [List.length_drop, List.length_take]; rfl)) ?_; (with_reducible refine (whole_Pow.calls (⟨#[50]⟩ : ByteArray) (wrap64 (1 + (wrap64 (Int.tmod a0 60)))) t116 t117 _ A23.out (Env.below ENV0.out (by repeat (first | (with_reducible first | exact HB.out | apply below_alloc | apply pw_below_drewN | apply below_drew1) | exact HB.out)))).mono ?_); rintro e w32 ⟨rfl, hb⟩; refine ⟨_, rfl, ?_⟩; have n0_ := Aside0.mk (Kd.R_below (by (with_reducible repeat (first | apply Kd.R_alloc | apply Kd.R_drewN | apply Kd.R_drew)); exact HO_9.out) hb); have n1_ := Aside0.mk (below_step (by repeat (first | (with_reducible first | exact HB.out | apply below_alloc | apply pw_below_drewN | apply below_drew1) | exact HB.out)) hb); clear HO_9; clear HB; have HO_9 := n0_; have HB := n1_; clear n0_ n1_; (try clear hb); (try clear hb2); (try clear hk); (try clear hi)) | ((with_reducible refine gate_callee (f := 9) rfl ?_); refine goesL_ (some 80) rfl rfl Tryd.func9 (by kernel_rfl) rfl #[.int .i64 (wrap64 (1 + (wrap64 (Int.tmod a0 60)))), .int .i64 (wrap64 (Int.tmod a1 70))] rfl (by (try simp only [List.map_toArray, List.map_cons, List.map_nil]); first | done | rfl | (simp only [List.length_drop, List.length_take]; rfl)) ?_; (with_reducible refine (whole_Binomial.calls (wrap64 (1 + (wrap64 (Int.tmod a0 60)))) (wrap64 (Int.tmod a1 70)) t118 t119 _ A24.out (Env.below ENV0.out (by repeat (first | (with_reducible first | exact HB.out | apply below_alloc | apply pw_below_drewN | apply below_drew1) | exact HB.out)))).mono ?_); rintro e w33 ⟨rfl, hb⟩; refine ⟨_, rfl, ?_⟩; have n0_ := Aside0.mk (Kd.R_below (by (with_reducible repeat (first | apply Kd.R_alloc | apply Kd.R_drewN | apply Kd.R_drew)); exact HO_9.out) hb); have n1_ := Aside0.mk (below_step (by repeat (first | (with_reducible first | exact HB.out | apply below_alloc | apply pw_below_drewN | apply below_drew1) | exact HB.out)) hb); clear HO_9; clear HB; have HO_9 := n0_; have HB := n1_; clear n0_ n1_; (try clear hb); (try clear hb2); (try clear hk); (try clear hi)) | ((with_reducible refine gate_callee (f := 9) rfl ?_); refine goesL_ (some 87) rfl rfl Tryd.func9 (by kernel_rfl) rfl #[.int .i64 (wrap64 ((wrap64 (1 + (wrap64 (Int.tmod a0 60)))) - 1)), .int .i64 (wrap64 (Int.tmod a1 70))] rfl (by (try simp only [List.map_toArray, List.map_cons, List.map_nil]); first | done | rfl | (simp only [List.length_drop, List.length_take]; rfl)) ?_; (with_reducible refine (whole_Binomial.calls (wrap64 ((wrap64 (1 + (wrap64 (Int.tmod a0 60)))) - 1)) (wrap64 (Int.tmod a1 70)) t120 t121 _ A25.out (Env.below ENV0.out (by repeat (first | (with_reducible first | exact HB.out | apply below_alloc | apply pw_below_drewN | apply below_drew1) | exact HB.out)))).mono ?_); rintro e w34 ⟨rfl, hb⟩; refine ⟨_, rfl, ?_⟩; have n0_ := Aside0.mk (Kd.R_below (by (with_reducible repeat (first | apply Kd.R_alloc | apply Kd.R_drewN | apply Kd.R_drew)); exact HO_9.out) hb); have n1_ := Aside0.mk (below_step (by repeat (first | (with_reducible first | exact HB.out | apply below_alloc | apply pw_below_drewN | apply below_drew1) | exact HB.out)) hb); clear HO_9; clear HB; have HO_9 := n0_; have HB := n1_; clear n0_ n1_; (try clear hb); (try clear hb2); (try clear hk); (try clear hi)) | ((with_reducible refine gate_callee (f := 9) rfl ?_); refine goesL_ (some 95) rfl rfl Tryd.func9 (by kernel_rfl) rfl #[.int .i64 (wrap64 ((wrap64 (1 + (wrap64 (Int.tmod a0 60)))) - 1)), .int .i64 (wrap64 ((wrap64 (Int.tmod a1 70)) - 1))] rfl (by (try simp only [List.map_toArray, List.map_cons, List.map_nil]); first | done | rfl | (simp only [List.length_drop, List.length_take]; rfl)) ?_; (with_reducible refine (whole_Binomial.calls (wrap64 ((wrap64 (1 + (wrap64 (Int.tmod a0 60)))) - 1)) (wrap64 ((wrap64 (Int.tmod a1 70)) - 1)) t122 t123 _ A26.out (Env.below ENV0.out (by repeat (first | (with_reducible first | exact HB.out | apply below_alloc | apply pw_below_drewN | apply below_drew1) | exact HB.out)))).mono ?_); rintro e w35 ⟨rfl, hb⟩; refine ⟨_, rfl, ?_⟩; have n0_ := Aside0.mk (Kd.R_below (by (with_reducible repeat (first | apply Kd.R_alloc | apply Kd.R_drewN | apply Kd.R_drew)); exact HO_9.out) hb); have n1_ := Aside0.mk (below_step (by repeat (first | (with_reducible first | exact HB.out | apply below_alloc | apply pw_below_drewN | apply below_drew1) | exact HB.out)) hb); clear HO_9; clear HB; have HO_9 := n0_; have HB := n1_; clear n0_ n1_; (try clear hb); (try clear hb2); (try clear hk); (try clear hi)) | ((with_reducible refine gate_callee (f := 12) rfl ?_); refine goesL_ (some 101) rfl rfl Tryd.func12 (by kernel_rfl) rfl #[.string t120, .string t122] rfl (by (try simp only [List.map_toArray, List.map_cons, List.map_nil]); first | done | rfl | (simp only [List.length_drop, List.length_take]; rfl)) ?_; (with_reducible refine (whole_Add.calls t120 t122 t124 t125 _ A27.out (Env.below ENV0.out (by repeat (first | (with_reducible first | exact HB.out | apply below_alloc | apply pw_below_drewN | apply below_drew1) | exact HB.out)))).mono ?_); rintro e w36 ⟨rfl, hb⟩; refine ⟨_, rfl, ?_⟩; have n0_ := Aside0.mk (Kd.R_below (by (with_reducible repeat (first | apply Kd.R_alloc | apply Kd.R_drewN | apply Kd.R_drew)); exact HO_9.out) hb); have n1_ := Aside0.mk (below_step (by repeat (first | (with_reducible first | exact HB.out | apply below_alloc | apply pw_below_drewN | apply below_drew1) | exact HB.out)) hb); clear HO_9; clear HB; have HO_9 := n0_; have HB := n1_; clear n0_ n1_; (try clear hb); (try clear hb2); (try clear hk); (try clear hi)) | ((with_reducible refine gate_callee (f := 9) rfl ?_); refine goesL_ (some 109) rfl rfl Tryd.func9 (by kernel_rfl) rfl #[.int .i64 (wrap64 (1 + (wrap64 (Int.tmod a0 60)))), .int .i64 (wrap64 ((wrap64 (1 + (wrap64 (Int.tmod a0 60)))) - (wrap64 (Int.tmod a1 70))))] rfl (by (try simp only [List.map_toArray, List.map_cons, List.map_nil]); first | done | rfl | (simp only [List.length_drop, List.length_take]; rfl)) ?_; (with_reducible refine (whole_Binomial.calls (wrap64 (1 + (wrap64 (Int.tmod a0 60)))) (wrap64 ((wrap64 (1 + (wrap64 (Int.tmod a0 60)))) - (wrap64 (Int.tmod a1 70)))) t126 t127 _ A28.out (Env.below ENV0.out (by repeat (first | (with_reducible first | exact HB.out | apply below_alloc | apply pw_below_drewN | apply below_drew1) | exact HB.out)))).mono ?_); rintro e w37 ⟨rfl, hb⟩; refine ⟨_, rfl, ?_⟩; have n0_ := Aside0.mk (Kd.R_below (by (with_reducible repeat (first | apply Kd.R_alloc | apply Kd.R_drewN | apply Kd.R_drew)); exact HO_9.out) hb); have n1_ := Aside0.mk (below_step (by repeat (first | (with_reducible first | exact HB.out | apply below_alloc | apply pw_below_drewN | apply below_drew1) | exact HB.out)) hb); clear HO_9; clear HB; have HO_9 := n0_; have HB := n1_; clear n0_ n1_; (try clear hb); (try clear hb2); (try clear hk); (try clear hi)))
              (try simp only [Act.put, List.setIfInBounds_toArray, List.set_cons_zero, List.set_cons_succ])
              go_cut [140] (fun v140 wc => ∃ (kq : Nat) (x140_28 : Bool), v140 = .bool x140_28 ∧ Aside0 (metrolablaw01_WholeChooses.j2 kq a2 (wrap64 (1 + (wrap64 (Int.tmod a0 60)))) x140_28 = some r) ∧ Aside0 (kq ≤ k2) ∧ Aside0 (Below w.heap.size w wc))
              case first =>
                have H := HC29.out
                clear HC29
                by_cases c38 : (wrap64 ((wrap64 ((wrap64 ((wrap64 ((wrap64 ((wrap64 (t115 + t117)) + t119)) + t121)) + t123)) + t125)) + t127)) = 0
                · rw [if_pos c38] at H
                  have c38b0 : ((wrap64 ((wrap64 ((wrap64 ((wrap64 ((wrap64 ((wrap64 (t115 + t117)) + t119)) + t121)) + t123)) + t125)) + t127)) == 0) = true := beq_iff_eq.mpr c38
                  have c38b1 : ((wrap64 ((wrap64 ((wrap64 ((wrap64 ((wrap64 ((wrap64 (t115 + t117)) + t119)) + t121)) + t123)) + t125)) + t127)) != 0) = false := bne_eq_false_iff_eq.mpr c38
                  clear c38
                  (first | rw [c38b0] | (simp only [i64_w, i32_w]; rw [c38b0]) | skip)
                  by_cases c39 : t114.toList = t116.toList
                  · rw [if_pos c39] at H
                    have c39b0 : (t114.toList == t116.toList) = true := beq_iff_eq.mpr c39
                    have c39b1 : (t114.toList != t116.toList) = false := bne_eq_false_iff_eq.mpr c39
                    clear c39
                    by_cases c40 : t118.toList = t124.toList
                    · rw [if_pos c40] at H
                      have c40b0 : (t118.toList == t124.toList) = true := beq_iff_eq.mpr c40
                      have c40b1 : (t118.toList != t124.toList) = false := bne_eq_false_iff_eq.mpr c40
                      clear c40
                      have H' := Aside0.mk H
                      clear H
                      go_wp2
                      go_meet
                      case rel => exact ⟨_, ((t118.toList != t126.toList)), (by first | rfl | exact congrArg Value.bool (not_empty _) | exact congrArg Value.bool (is_empty _) | (simp; done) | (simp [*]; done)), H', ⟨by have := HJ3.out; have := HK2.out; first | omega | exact Nat.le_refl _⟩, ⟨by repeat (first | (with_reducible first | exact HB.out | apply below_alloc | apply pw_below_drewN | apply below_drew1) | exact HB.out)⟩⟩
                    · rw [if_neg c40] at H
                      have c40b0 : (t118.toList == t124.toList) = false := beq_eq_false_iff_ne.mpr c40
                      have c40b1 : (t118.toList != t124.toList) = true := bne_iff_ne.mpr c40
                      have H' := Aside0.mk H
                      clear H
                      go_wp2
                      go_meet
                      case rel => exact ⟨_, (true), (by first | rfl | exact congrArg Value.bool (not_empty _) | exact congrArg Value.bool (is_empty _) | (simp; done) | (simp [*]; done)), H', ⟨by have := HJ3.out; have := HK2.out; first | omega | exact Nat.le_refl _⟩, ⟨by repeat (first | (with_reducible first | exact HB.out | apply below_alloc | apply pw_below_drewN | apply below_drew1) | exact HB.out)⟩⟩
                  · rw [if_neg c39] at H
                    have c39b0 : (t114.toList == t116.toList) = false := beq_eq_false_iff_ne.mpr c39
                    have c39b1 : (t114.toList != t116.toList) = true := bne_iff_ne.mpr c39
                    have H' := Aside0.mk H
                    clear H
                    go_wp2
                    go_meet
                    case rel => exact ⟨_, (true), (by first | rfl | exact congrArg Value.bool (not_empty _) | exact congrArg Value.bool (is_empty _) | (simp; done) | (simp [*]; done)), H', ⟨by have := HJ3.out; have := HK2.out; first | omega | exact Nat.le_refl _⟩, ⟨by repeat (first | (with_reducible first | exact HB.out | apply below_alloc | apply pw_below_drewN | apply below_drew1) | exact HB.out)⟩⟩
                · rw [if_neg c38] at H
                  have c38b0 : ((wrap64 ((wrap64 ((wrap64 ((wrap64 ((wrap64 ((wrap64 (t115 + t117)) + t119)) + t121)) + t123)) + t125)) + t127)) == 0) = false := beq_eq_false_iff_ne.mpr c38
                  have c38b1 : ((wrap64 ((wrap64 ((wrap64 ((wrap64 ((wrap64 ((wrap64 (t115 + t117)) + t119)) + t121)) + t123)) + t125)) + t127)) != 0) = true := bne_iff_ne.mpr c38
                  (first | rw [c38b0] | (simp only [i64_w, i32_w]; rw [c38b0]) | skip)
                  have H' := Aside0.mk H
                  clear H
                  go_wp2
                  go_meet
                  case rel => exact ⟨_, (true), (by first | rfl | exact congrArg Value.bool (not_empty _) | exact congrArg Value.bool (is_empty _) | (simp; done) | (simp [*]; done)), H', ⟨by have := HJ3.out; have := HK2.out; first | omega | exact Nat.le_refl _⟩, ⟨by repeat (first | (with_reducible first | exact HB.out | apply below_alloc | apply pw_below_drewN | apply below_drew1) | exact HB.out)⟩⟩
              case rest =>
                clear HC29
                try clear c1
                try clear p2
                try clear c3
                try clear c4
                try clear c5
                try clear c5b0
                try clear c5b1
                try clear p6
                try clear c8
                try clear c9
                try clear c10
                try clear c11
                try clear c12
                try clear c15
                try clear c15b0
                try clear c17
                try clear c17b0
                try clear c17b1
                try clear c18
                try clear c38
                try clear c38b0
                try clear c38b1
                try clear c39
                try clear c39b0
                try clear c39b1
                try clear c40
                try clear c40b0
                try clear c40b1
                try clear p2
                try clear p6
                obtain ⟨kq, x140_28, rfl, HA, HJ28, HB⟩ := hcut
                cases kq with
                | zero => exact absurd HA.out (by simp [metrolablaw01_WholeChooses.j2])
                | succ kj28 =>
                  have H := HA.out
                  clear HA
                  simp only [metrolablaw01_WholeChooses.j2] at H
                  by_cases c41 : x140_28 = true
                  · subst c41
                    have H1 : (some false) = some r := by rw [if_pos rfl] at H; exact H
                    clear H
                    have H := H1
                    clear H1
                    obtain rfl := Option.some.inj H
                    go_wp2
                    go_ret
                    exact ⟨by first | rfl | (simp [errW_none, errW_some] <;> rfl) | (simp [*, errW_none, errW_some] <;> rfl), by repeat (first | (with_reducible first | exact HB.out | apply below_alloc | apply pw_below_drewN | apply below_drew1) | exact HB.out)⟩
                  · replace c41 := Bool.eq_false_iff.mpr c41
                    subst c41
                    have H1 : ((whole_Pow.f a2 (wrap64 (1 + (wrap64 (Int.tmod a0 60))))).bind fun bt128 => ((whole_Pow.f a2 (Int.tmod (wrap64 (1 + (wrap64 (Int.tmod a0 60)))) 7)).bind fun bt130 => ((whole_Mul.f bt128.1 bt130.1).bind fun bt132 => ((whole_Pow.f a2 (wrap64 ((wrap64 (1 + (wrap64 (Int.tmod a0 60)))) + (Int.tmod (wrap64 (1 + (wrap64 (Int.tmod a0 60)))) 7)))).bind fun bt134 => (if (wrap64 ((wrap64 ((wrap64 (bt128.2 + bt130.2)) + bt132.2)) + bt134.2)) = 0 then (if bt132.1.toList = bt134.1.toList then ((awake.f).bind fun t136 => (some t136)) else (some false)) else (some false)))))) = some r := by rw [if_neg (show ¬ (false = true) by decide)] at H; exact H
                    clear H
                    have H := H1
                    clear H1
                    replace H := Option.bind_eq_some_iff.mp H
                    obtain ⟨⟨t128, t129⟩, A420, H⟩ := H
                    replace H : ((whole_Pow.f a2 (Int.tmod (wrap64 (1 + (wrap64 (Int.tmod a0 60)))) 7)).bind fun bt130 => ((whole_Mul.f t128 bt130.1).bind fun bt132 => ((whole_Pow.f a2 (wrap64 ((wrap64 (1 + (wrap64 (Int.tmod a0 60)))) + (Int.tmod (wrap64 (1 + (wrap64 (Int.tmod a0 60)))) 7)))).bind fun bt134 => (if (wrap64 ((wrap64 ((wrap64 (t129 + bt130.2)) + bt132.2)) + bt134.2)) = 0 then (if bt132.1.toList = bt134.1.toList then ((awake.f).bind fun t136 => (some t136)) else (some false)) else (some false))))) = some r := H
                    have A42 := Aside0.mk A420
                    clear A420
                    replace H := Option.bind_eq_some_iff.mp H
                    obtain ⟨⟨t130, t131⟩, A430, H⟩ := H
                    replace H : ((whole_Mul.f t128 t130).bind fun bt132 => ((whole_Pow.f a2 (wrap64 ((wrap64 (1 + (wrap64 (Int.tmod a0 60)))) + (Int.tmod (wrap64 (1 + (wrap64 (Int.tmod a0 60)))) 7)))).bind fun bt134 => (if (wrap64 ((wrap64 ((wrap64 (t129 + t131)) + bt132.2)) + bt134.2)) = 0 then (if bt132.1.toList = bt134.1.toList then ((awake.f).bind fun t136 => (some t136)) else (some false)) else (some false)))) = some r := H
                    have A43 := Aside0.mk A430
                    clear A430
                    replace H := Option.bind_eq_some_iff.mp H
                    obtain ⟨⟨t132, t133⟩, A440, H⟩ := H
                    replace H : ((whole_Pow.f a2 (wrap64 ((wrap64 (1 + (wrap64 (Int.tmod a0 60)))) + (Int.tmod (wrap64 (1 + (wrap64 (Int.tmod a0 60)))) 7)))).bind fun bt134 => (if (wrap64 ((wrap64 ((wrap64 (t129 + t131)) + t133)) + bt134.2)) = 0 then (if t132.toList = bt134.1.toList then ((awake.f).bind fun t136 => (some t136)) else (some false)) else (some false))) = some r := H
                    have A44 := Aside0.mk A440
                    clear A440
                    replace H := Option.bind_eq_some_iff.mp H
                    obtain ⟨⟨t134, t135⟩, A450, H⟩ := H
                    replace H : (if (wrap64 ((wrap64 ((wrap64 (t129 + t131)) + t133)) + t135)) = 0 then (if t132.toList = t134.toList then ((awake.f).bind fun t136 => (some t136)) else (some false)) else (some false)) = some r := H
                    have A45 := Aside0.mk A450
                    clear A450
                    by_cases c46 : (wrap64 ((wrap64 ((wrap64 (t129 + t131)) + t133)) + t135)) = 0
                    · rw [if_pos c46] at H
                      have c46b0 : ((wrap64 ((wrap64 ((wrap64 (t129 + t131)) + t133)) + t135)) == 0) = true := beq_iff_eq.mpr c46
                      have c46b1 : ((wrap64 ((wrap64 ((wrap64 (t129 + t131)) + t133)) + t135)) != 0) = false := bne_eq_false_iff_eq.mpr c46
                      clear c46
                      by_cases c47 : t132.toList = t134.toList
                      · rw [if_pos c47] at H
                        have c47b0 : (t132.toList == t134.toList) = true := beq_iff_eq.mpr c47
                        have c47b1 : (t132.toList != t134.toList) = false := bne_eq_false_iff_eq.mpr c47
                        clear c47
                        replace H := Option.bind_eq_some_iff.mp H
                        obtain ⟨t136, A480, H⟩ := H
                        replace H : (some t136) = some r := H
                        have A48 := Aside0.mk A480
                        clear A480
                        obtain rfl := Option.some.inj H
                        go_wp2_with (first | ((with_reducible refine gate_callee (f := 11) rfl ?_); refine goesL_ (some 144) rfl rfl Tryd.func11 (by kernel_rfl) rfl #[.string a2, .int .i64 (wrap64 (1 + (wrap64 (Int.tmod a0 60))))] rfl (by (try simp only [List.map_toArray, List.map_cons, List.map_nil]); first | done | rfl | (simp only [List.length_drop, List.length_take]; rfl)) ?_; (with_reducible refine (whole_Pow.calls a2 (wrap64 (1 + (wrap64 (Int.tmod a0 60)))) t128 t129 _ A42.out (Env.below ENV0.out (by repeat (first | (with_reducible first | exact HB.out | apply below_alloc | apply pw_below_drewN | apply below_drew1) | exact HB.out)))).mono ?_); rintro e w49 ⟨rfl, hb⟩; refine ⟨_, rfl, ?_⟩; have n0_ := Aside0.mk (below_step (by repeat (first | (with_reducible first | exact HB.out | apply below_alloc | apply pw_below_drewN | apply below_drew1) | exact HB.out)) hb); clear HB; have HB := n0_; clear n0_; (try clear hb); (try clear hb2); (try clear hk); (try clear hi)) | ((with_reducible refine gate_callee (f := 11) rfl ?_); refine goesL_ (some 151) rfl rfl Tryd.func11 (by kernel_rfl) rfl #[.string a2, .int .i64 (Int.tmod (wrap64 (1 + (wrap64 (Int.tmod a0 60)))) 7)] rfl (by (try simp only [List.map_toArray, List.map_cons, List.map_nil]); first | done | rfl | (simp only [List.length_drop, List.length_take]; rfl)) ?_; (with_reducible refine (whole_Pow.calls a2 (Int.tmod (wrap64 (1 + (wrap64 (Int.tmod a0 60)))) 7) t130 t131 _ A43.out (Env.below ENV0.out (by repeat (first | (with_reducible first | exact HB.out | apply below_alloc | apply pw_below_drewN | apply below_drew1) | exact HB.out)))).mono ?_); rintro e w50 ⟨rfl, hb⟩; refine ⟨_, rfl, ?_⟩; have n0_ := Aside0.mk (below_step (by repeat (first | (with_reducible first | exact HB.out | apply below_alloc | apply pw_below_drewN | apply below_drew1) | exact HB.out)) hb); clear HB; have HB := n0_; clear n0_; (try clear hb); (try clear hb2); (try clear hk); (try clear hi)) | ((with_reducible refine gate_callee (f := 13) rfl ?_); refine goesL_ (some 157) rfl rfl Tryd.func13 (by kernel_rfl) rfl #[.string t128, .string t130] rfl (by (try simp only [List.map_toArray, List.map_cons, List.map_nil]); first | done | rfl | (simp only [List.length_drop, List.length_take]; rfl)) ?_; (with_reducible refine (whole_Mul.calls t128 t130 t132 t133 _ A44.out (Env.below ENV0.out (by repeat (first | (with_reducible first | exact HB.out | apply below_alloc | apply pw_below_drewN | apply below_drew1) | exact HB.out)))).mono ?_); rintro e w51 ⟨rfl, hb⟩; refine ⟨_, rfl, ?_⟩; have n0_ := Aside0.mk (below_step (by repeat (first | (with_reducible first | exact HB.out | apply below_alloc | apply pw_below_drewN | apply below_drew1) | exact HB.out)) hb); clear HB; have HB := n0_; clear n0_; (try clear hb); (try clear hb2); (try clear hk); (try clear hi)) | ((with_reducible refine gate_callee (f := 11) rfl ?_); refine goesL_ (some 166) rfl rfl Tryd.func11 (by kernel_rfl) rfl #[.string a2, .int .i64 (wrap64 ((wrap64 (1 + (wrap64 (Int.tmod a0 60)))) + (Int.tmod (wrap64 (1 + (wrap64 (Int.tmod a0 60)))) 7)))] rfl (by (try simp only [List.map_toArray, List.map_cons, List.map_nil]); first | done | rfl | (simp only [List.length_drop, List.length_take]; rfl)) ?_; (with_reducible refine (whole_Pow.calls a2 (wrap64 ((wrap64 (1 + (wrap64 (Int.tmod a0 60)))) + (Int.tmod (wrap64 (1 + (wrap64 (Int.tmod a0 60)))) 7))) t134 t135 _ A45.out (Env.below ENV0.out (by repeat (first | (with_reducible first | exact HB.out | apply below_alloc | apply pw_below_drewN | apply below_drew1) | exact HB.out)))).mono ?_); rintro e w52 ⟨rfl, hb⟩; refine ⟨_, rfl, ?_⟩; have n0_ := Aside0.mk (below_step (by repeat (first | (with_reducible first | exact HB.out | apply below_alloc | apply pw_below_drewN | apply below_drew1) | exact HB.out)) hb); clear HB; have HB := n0_; clear n0_; (try clear hb); (try clear hb2); (try clear hk); (try clear hi)) | (go_at_call 8; (with_reducible refine (awake.calls  t136 _ A48.out (Env.below ENV0.out (by repeat (first | (with_reducible first | exact HB.out | apply below_alloc | apply pw_below_drewN | apply below_drew1) | exact HB.out)))).mono ?_); rintro e w53 ⟨rfl, hb⟩; have n0_ := Aside0.mk (below_step (by repeat (first | (with_reducible first | exact HB.out | apply below_alloc | apply pw_below_drewN | apply below_drew1) | exact HB.out)) hb); clear HB; have HB := n0_; clear n0_; (try clear hb); (try clear hb2); (try clear hk); (try clear hi)))
                        go_ret
                        exact ⟨by first | rfl | (simp [errW_none, errW_some] <;> rfl) | (simp [*, errW_none, errW_some] <;> rfl), by repeat (first | (with_reducible first | exact HB.out | apply below_alloc | apply pw_below_drewN | apply below_drew1) | exact HB.out)⟩
                      · rw [if_neg c47] at H
                        have c47b0 : (t132.toList == t134.toList) = false := beq_eq_false_iff_ne.mpr c47
                        have c47b1 : (t132.toList != t134.toList) = true := bne_iff_ne.mpr c47
                        obtain rfl := Option.some.inj H
                        go_wp2_with (first | ((with_reducible refine gate_callee (f := 11) rfl ?_); refine goesL_ (some 144) rfl rfl Tryd.func11 (by kernel_rfl) rfl #[.string a2, .int .i64 (wrap64 (1 + (wrap64 (Int.tmod a0 60))))] rfl (by (try simp only [List.map_toArray, List.map_cons, List.map_nil]); first | done | rfl | (simp only [List.length_drop, List.length_take]; rfl)) ?_; (with_reducible refine (whole_Pow.calls a2 (wrap64 (1 + (wrap64 (Int.tmod a0 60)))) t128 t129 _ A42.out (Env.below ENV0.out (by repeat (first | (with_reducible first | exact HB.out | apply below_alloc | apply pw_below_drewN | apply below_drew1) | exact HB.out)))).mono ?_); rintro e w54 ⟨rfl, hb⟩; refine ⟨_, rfl, ?_⟩; have n0_ := Aside0.mk (below_step (by repeat (first | (with_reducible first | exact HB.out | apply below_alloc | apply pw_below_drewN | apply below_drew1) | exact HB.out)) hb); clear HB; have HB := n0_; clear n0_; (try clear hb); (try clear hb2); (try clear hk); (try clear hi)) | ((with_reducible refine gate_callee (f := 11) rfl ?_); refine goesL_ (some 151) rfl rfl Tryd.func11 (by kernel_rfl) rfl #[.string a2, .int .i64 (Int.tmod (wrap64 (1 + (wrap64 (Int.tmod a0 60)))) 7)] rfl (by (try simp only [List.map_toArray, List.map_cons, List.map_nil]); first | done | rfl | (simp only [List.length_drop, List.length_take]; rfl)) ?_; (with_reducible refine (whole_Pow.calls a2 (Int.tmod (wrap64 (1 + (wrap64 (Int.tmod a0 60)))) 7) t130 t131 _ A43.out (Env.below ENV0.out (by repeat (first | (with_reducible first | exact HB.out | apply below_alloc | apply pw_below_drewN | apply below_drew1) | exact HB.out)))).mono ?_); rintro e w55 ⟨rfl, hb⟩; refine ⟨_, rfl, ?_⟩; have n0_ := Aside0.mk (below_step (by repeat (first | (with_reducible first | exact HB.out | apply below_alloc | apply pw_below_drewN | apply below_drew1) | exact HB.out)) hb); clear HB; have HB := n0_; clear n0_; (try clear hb); (try clear hb2); (try clear hk); (try clear hi)) | ((with_reducible refine gate_callee (f := 13) rfl ?_); refine goesL_ (some 157) rfl rfl Tryd.func13 (by kernel_rfl) rfl #[.string t128, .string t130] rfl (by (try simp only [List.map_toArray, List.map_cons, List.map_nil]); first | done | rfl | (simp only [List.length_drop, List.length_take]; rfl)) ?_; (with_reducible refine (whole_Mul.calls t128 t130 t132 t133 _ A44.out (Env.below ENV0.out (by repeat (first | (with_reducible first | exact HB.out | apply below_alloc | apply pw_below_drewN | apply below_drew1) | exact HB.out)))).mono ?_); rintro e w56 ⟨rfl, hb⟩; refine ⟨_, rfl, ?_⟩; have n0_ := Aside0.mk (below_step (by repeat (first | (with_reducible first | exact HB.out | apply below_alloc | apply pw_below_drewN | apply below_drew1) | exact HB.out)) hb); clear HB; have HB := n0_; clear n0_; (try clear hb); (try clear hb2); (try clear hk); (try clear hi)) | ((with_reducible refine gate_callee (f := 11) rfl ?_); refine goesL_ (some 166) rfl rfl Tryd.func11 (by kernel_rfl) rfl #[.string a2, .int .i64 (wrap64 ((wrap64 (1 + (wrap64 (Int.tmod a0 60)))) + (Int.tmod (wrap64 (1 + (wrap64 (Int.tmod a0 60)))) 7)))] rfl (by (try simp only [List.map_toArray, List.map_cons, List.map_nil]); first | done | rfl | (simp only [List.length_drop, List.length_take]; rfl)) ?_; (with_reducible refine (whole_Pow.calls a2 (wrap64 ((wrap64 (1 + (wrap64 (Int.tmod a0 60)))) + (Int.tmod (wrap64 (1 + (wrap64 (Int.tmod a0 60)))) 7))) t134 t135 _ A45.out (Env.below ENV0.out (by repeat (first | (with_reducible first | exact HB.out | apply below_alloc | apply pw_below_drewN | apply below_drew1) | exact HB.out)))).mono ?_); rintro e w57 ⟨rfl, hb⟩; refine ⟨_, rfl, ?_⟩; have n0_ := Aside0.mk (below_step (by repeat (first | (with_reducible first | exact HB.out | apply below_alloc | apply pw_below_drewN | apply below_drew1) | exact HB.out)) hb); clear HB; have HB := n0_; clear n0_; (try clear hb); (try clear hb2); (try clear hk); (try clear hi)))
                        go_ret
                        exact ⟨by first | rfl | (simp [errW_none, errW_some] <;> rfl) | (simp [*, errW_none, errW_some] <;> rfl), by repeat (first | (with_reducible first | exact HB.out | apply below_alloc | apply pw_below_drewN | apply below_drew1) | exact HB.out)⟩
                    · rw [if_neg c46] at H
                      have c46b0 : ((wrap64 ((wrap64 ((wrap64 (t129 + t131)) + t133)) + t135)) == 0) = false := beq_eq_false_iff_ne.mpr c46
                      have c46b1 : ((wrap64 ((wrap64 ((wrap64 (t129 + t131)) + t133)) + t135)) != 0) = true := bne_iff_ne.mpr c46
                      obtain rfl := Option.some.inj H
                      go_wp2_with (first | ((with_reducible refine gate_callee (f := 11) rfl ?_); refine goesL_ (some 144) rfl rfl Tryd.func11 (by kernel_rfl) rfl #[.string a2, .int .i64 (wrap64 (1 + (wrap64 (Int.tmod a0 60))))] rfl (by (try simp only [List.map_toArray, List.map_cons, List.map_nil]); first | done | rfl | (simp only [List.length_drop, List.length_take]; rfl)) ?_; (with_reducible refine (whole_Pow.calls a2 (wrap64 (1 + (wrap64 (Int.tmod a0 60)))) t128 t129 _ A42.out (Env.below ENV0.out (by repeat (first | (with_reducible first | exact HB.out | apply below_alloc | apply pw_below_drewN | apply below_drew1) | exact HB.out)))).mono ?_); rintro e w58 ⟨rfl, hb⟩; refine ⟨_, rfl, ?_⟩; have n0_ := Aside0.mk (below_step (by repeat (first | (with_reducible first | exact HB.out | apply below_alloc | apply pw_below_drewN | apply below_drew1) | exact HB.out)) hb); clear HB; have HB := n0_; clear n0_; (try clear hb); (try clear hb2); (try clear hk); (try clear hi)) | ((with_reducible refine gate_callee (f := 11) rfl ?_); refine goesL_ (some 151) rfl rfl Tryd.func11 (by kernel_rfl) rfl #[.string a2, .int .i64 (Int.tmod (wrap64 (1 + (wrap64 (Int.tmod a0 60)))) 7)] rfl (by (try simp only [List.map_toArray, List.map_cons, List.map_nil]); first | done | rfl | (simp only [List.length_drop, List.length_take]; rfl)) ?_; (with_reducible refine (whole_Pow.calls a2 (Int.tmod (wrap64 (1 + (wrap64 (Int.tmod a0 60)))) 7) t130 t131 _ A43.out (Env.below ENV0.out (by repeat (first | (with_reducible first | exact HB.out | apply below_alloc | apply pw_below_drewN | apply below_drew1) | exact HB.out)))).mono ?_); rintro e w59 ⟨rfl, hb⟩; refine ⟨_, rfl, ?_⟩; have n0_ := Aside0.mk (below_step (by repeat (first | (with_reducible first | exact HB.out | apply below_alloc | apply pw_below_drewN | apply below_drew1) | exact HB.out)) hb); clear HB; have HB := n0_; clear n0_; (try clear hb); (try clear hb2); (try clear hk); (try clear hi)) | ((with_reducible refine gate_callee (f := 13) rfl ?_); refine goesL_ (some 157) rfl rfl Tryd.func13 (by kernel_rfl) rfl #[.string t128, .string t130] rfl (by (try simp only [List.map_toArray, List.map_cons, List.map_nil]); first | done | rfl | (simp only [List.length_drop, List.length_take]; rfl)) ?_; (with_reducible refine (whole_Mul.calls t128 t130 t132 t133 _ A44.out (Env.below ENV0.out (by repeat (first | (with_reducible first | exact HB.out | apply below_alloc | apply pw_below_drewN | apply below_drew1) | exact HB.out)))).mono ?_); rintro e w60 ⟨rfl, hb⟩; refine ⟨_, rfl, ?_⟩; have n0_ := Aside0.mk (below_step (by repeat (first | (with_reducible first | exact HB.out | apply below_alloc | apply pw_below_drewN | apply below_drew1) | exact HB.out)) hb); clear HB; have HB := n0_; clear n0_; (try clear hb); (try clear hb2); (try clear hk); (try clear hi)) | ((with_reducible refine gate_callee (f := 11) rfl ?_); refine goesL_ (some 166) rfl rfl Tryd.func11 (by kernel_rfl) rfl #[.string a2, .int .i64 (wrap64 ((wrap64 (1 + (wrap64 (Int.tmod a0 60)))) + (Int.tmod (wrap64 (1 + (wrap64 (Int.tmod a0 60)))) 7)))] rfl (by (try simp only [List.map_toArray, List.map_cons, List.map_nil]); first | done | rfl | (simp only [List.length_drop, List.length_take]; rfl)) ?_; (with_reducible refine (whole_Pow.calls a2 (wrap64 ((wrap64 (1 + (wrap64 (Int.tmod a0 60)))) + (Int.tmod (wrap64 (1 + (wrap64 (Int.tmod a0 60)))) 7))) t134 t135 _ A45.out (Env.below ENV0.out (by repeat (first | (with_reducible first | exact HB.out | apply below_alloc | apply pw_below_drewN | apply below_drew1) | exact HB.out)))).mono ?_); rintro e w61 ⟨rfl, hb⟩; refine ⟨_, rfl, ?_⟩; have n0_ := Aside0.mk (below_step (by repeat (first | (with_reducible first | exact HB.out | apply below_alloc | apply pw_below_drewN | apply below_drew1) | exact HB.out)) hb); clear HB; have HB := n0_; clear n0_; (try clear hb); (try clear hb2); (try clear hk); (try clear hi)))
                      go_ret
                      exact ⟨by first | rfl | (simp [errW_none, errW_some] <;> rfl) | (simp [*, errW_none, errW_some] <;> rfl), by repeat (first | (with_reducible first | exact HB.out | apply below_alloc | apply pw_below_drewN | apply below_drew1) | exact HB.out)⟩

end Go.Proofs.YtpkfnclbcmnckaaDoor.ZLH
