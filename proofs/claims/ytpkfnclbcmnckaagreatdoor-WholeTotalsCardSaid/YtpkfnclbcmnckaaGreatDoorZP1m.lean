import Derived.Test.YtpkfnclbcmnckaaGreatDoorProg
import Derived.Below
import Derived.Deep.Draws
import Derived.Deep.AppendLies
import Derived.Maps.AppendAt
import Derived.OwnWalk
import Derived.Laws.BytesArg
import Derived.Laws.MakeOwn
import Derived.Laws.OwnMore
import Derived.Deep.OwnRows
import Derived.Tactics
import Derived.Lib.ConvBytes
import Derived.Laws.Slices
import Derived.WalkKit
import Derived.KernelRfl
import Derived.RowKit3
import Derived.Deep.LoopGhost
import Derived.Deep.QuietTactic
import Derived.BigQuiet
import Derived.WideLaws
import Derived.Deep.DeepCutAuto
import Derived.Deep.CutBlock
import Derived.Deep.RegionHeld3
import Derived.Laws.Rows
import Derived.Lib.AppendStr
import Derived.ArgAppend
import Derived.Laws.IdiomCopy
import Derived.OrdersHeld
import Derived.Laws.BitsLemmas
import Derived.RowKit
import Derived.Test.YtpkfnclbcmnckaaGreatDoorA3
import Derived.Test.YtpkfnclbcmnckaaGreatDoorWWords
import Derived.Test.YtpkfnclbcmnckaaGreatDoorWLast
import Derived.Test.YtpkfnclbcmnckaaGreatDoorWTab
import Derived.Test.YtpkfnclbcmnckaaGreatDoorWFour
import Derived.Test.YtpkfnclbcmnckaaGreatDoorWQPut
import Derived.Test.YtpkfnclbcmnckaaGreatDoorWApart
import Derived.Test.YtpkfnclbcmnckaaGreatDoorWArr
import Derived.Test.YtpkfnclbcmnckaaGreatDoorWZeros
import Derived.Test.YtpkfnclbcmnckaaGreatDoorWFoot
import Derived.Test.YtpkfnclbcmnckaaGreatDoorWKept
import Derived.Test.YtpkfnclbcmnckaaGreatDoorWShare
import Derived.Test.YtpkfnclbcmnckaaGreatDoorWN
import Derived.Test.YtpkfnclbcmnckaaGreatDoorWFootNe
import Derived.Test.YtpkfnclbcmnckaaGreatDoorWAt
import Derived.Test.YtpkfnclbcmnckaaGreatDoorWEqStruct
import Derived.Test.YtpkfnclbcmnckaaGreatDoorWRepsOne
import Derived.Test.YtpkfnclbcmnckaaGreatDoorWInv
import Derived.Test.YtpkfnclbcmnckaaGreatDoorWInvWords
import Derived.Test.YtpkfnclbcmnckaaGreatDoorWGuard
import Derived.Test.YtpkfnclbcmnckaaGreatDoorWNEv
import Derived.Test.YtpkfnclbcmnckaaGreatDoorWMore
-- written by the session's px.py out of the translation; Lean checks it.
namespace Go.Proofs.YtpkfnclbcmnckaaGreatDoor.ZP
open Go.RowKit Go.Proofs.YtpkfnclbcmnckaaGreatDoorW.PrintWords Go.Proofs.YtpkfnclbcmnckaaGreatDoorW.PrintLast Go.Proofs.YtpkfnclbcmnckaaGreatDoorW.PrintMore
attribute [local go_sem] max2_int min2_int max_two min_two max_three min_three max_four min_four   -- for this text's walks alone
set_option linter.unusedVariables false
set_option linter.unusedSimpArgs false



def errW : Option Int → Value
  | none => .nilIface
  | some c => .iface 0 (.int .i64 c)
theorem errW_none : errW none = .nilIface := rfl
theorem errW_some (c : Int) : errW (some c) = .iface 0 (.int .i64 c) := rfl

theorem info5 : (Tryz.prog.info? 5).map (fun i => (i.zero, i.size, i.bytes)) = some (some (.int .u8 0), 1, 1) := by kernel_rfl
-- the values' own types

end Go.Proofs.YtpkfnclbcmnckaaGreatDoor.ZP
-- written by the session's px.py out of the translation; Lean checks it.
namespace Go.Proofs.YtpkfnclbcmnckaaGreatDoor.ZP
open Go.RowKit Go.Proofs.YtpkfnclbcmnckaaGreatDoorW.PrintWords Go.Proofs.YtpkfnclbcmnckaaGreatDoorW.PrintLast Go.Proofs.YtpkfnclbcmnckaaGreatDoorW.PrintMore
attribute [local go_sem] max2_int min2_int max_two min_two max_three min_three max_four min_four   -- for this text's walks alone
set_option linter.unusedVariables false
set_option linter.unusedSimpArgs false

/-! ### metrolabref01_size: function 58 -/
def metrolabref01_size.f (a0 : ByteArray) : Option (ByteArray) := if a0.toList = ([] : List UInt8) then (some a0) else (if 0 < (a0.size : Int) then (if (bt a0 0) = 45 then (if 1 ≤ (a0.size : Int) then (some (a0.extract 1 a0.size)) else (none)) else (some a0)) else (none))
set_option maxHeartbeats 8000000 in
set_option maxRecDepth 100000 in
theorem metrolabref01_size.calls (a0 : ByteArray) (r : ByteArray) (w : World) (h : metrolabref01_size.f a0 = some r) :
    Calls Tryz.prog 58 #[.string a0] w fun e w' => e = .returned (.string r) ∧ Drawn0 w w' := by
  have H : (if a0.toList = ([] : List UInt8) then (some a0) else (if 0 < (a0.size : Int) then (if (bt a0 0) = 45 then (if 1 ≤ (a0.size : Int) then (some (a0.extract 1 a0.size)) else (none)) else (some a0)) else (none))) = some r := h
  clear h
  by_cases c2 : a0.toList = ([] : List UInt8)
  · rw [if_pos c2] at H
    have c2b0 : (a0.toList == ([] : List UInt8)) = true := beq_iff_eq.mpr c2
    have c2b1 : (a0.toList != ([] : List UInt8)) = false := bne_eq_false_iff_eq.mpr c2
    clear c2
    obtain rfl := Option.some.inj H
    go_enter Tryz.func58, Tryz.ntmps58
    go_wp2
    go_ret
    exact ⟨by first | rfl | (simp; done) | (simp [*]; done), by repeat (first | exact Drawn0.refl _ | apply Drawn0.step)⟩
  · rw [if_neg c2] at H
    have c2b0 : (a0.toList == ([] : List UInt8)) = false := beq_eq_false_iff_ne.mpr c2
    have c2b1 : (a0.toList != ([] : List UInt8)) = true := bne_iff_ne.mpr c2
    by_cases c3 : 0 < (a0.size : Int)
    · rw [if_pos c3] at H
      have c3b0 : decide (0 < (a0.size : Int)) = true := decide_eq_true c3
      have c3b1 : decide (0 < a0.size) = true := decide_eq_true (by omega)
      clear c3
      by_cases c5 : (bt a0 0) = 45
      · rw [if_pos c5] at H
        have c5b0 : ((bt a0 0) == 45) = true := beq_iff_eq.mpr c5
        have c5b1 : ((bt a0 0) != 45) = false := bne_eq_false_iff_eq.mpr c5
        clear c5
        by_cases c6 : 1 ≤ (a0.size : Int)
        · rw [if_pos c6] at H
          have c6b0 := eq_true c6
          have c6b1 : decide (1 ≤ (a0.size : Int)) = true := decide_eq_true c6
          clear c6
          obtain rfl := Option.some.inj H
          have p4 : 0 ≤ (0 : Int) := (by omega)
          have q4 : 0 < a0.size := (by have : (0 : Int) < (a0.size : Int) := of_decide_eq_true (by first | (with_reducible assumption) | assumption); omega)
          have hx4 : ∀ h : 0 < a0.size, ((a0[0]'h).toNat : Int) = bt a0 0 := bt_at a0 0
          clear p4
          have qi4 : (0 < (a0.size : Int)) = True := eq_true (of_decide_eq_true (by first | (with_reducible assumption) | assumption))
          replace q4 := eq_true q4
          go_enter Tryz.func58, Tryz.ntmps58
          go_wp2
          go_ret
          exact ⟨by first | rfl | (simp; done) | (simp [*]; done), by repeat (first | exact Drawn0.refl _ | apply Drawn0.step)⟩
        · rw [if_neg c6] at H
          exact absurd H (by simp)
      · rw [if_neg c5] at H
        have c5b0 : ((bt a0 0) == 45) = false := beq_eq_false_iff_ne.mpr c5
        have c5b1 : ((bt a0 0) != 45) = true := bne_iff_ne.mpr c5
        obtain rfl := Option.some.inj H
        have p4 : 0 ≤ (0 : Int) := (by omega)
        have q4 : 0 < a0.size := (by have : (0 : Int) < (a0.size : Int) := of_decide_eq_true (by first | (with_reducible assumption) | assumption); omega)
        have hx4 : ∀ h : 0 < a0.size, ((a0[0]'h).toNat : Int) = bt a0 0 := bt_at a0 0
        clear p4
        have qi4 : (0 < (a0.size : Int)) = True := eq_true (of_decide_eq_true (by first | (with_reducible assumption) | assumption))
        replace q4 := eq_true q4
        go_enter Tryz.func58, Tryz.ntmps58
        go_wp2
        go_ret
        exact ⟨by first | rfl | (simp; done) | (simp [*]; done), by repeat (first | exact Drawn0.refl _ | apply Drawn0.step)⟩
    · rw [if_neg c3] at H
      exact absurd H (by simp)

/-! ### metrolabref01_Check: function 29 -/
mutual
def metrolabref01_Check.j0 : Nat → ByteArray → Bool → Option (Int)
  | 0, _, _ => none
  | k + 1, x3, x23 => if x23 = true then (some 3) else (metrolabref01_Check.l0 k x3 0)
def metrolabref01_Check.l0 : Nat → ByteArray → Int → Option (Int)
  | 0, _, _ => none
  | k + 1, x3, x4 => if x4 < (x3.size : Int) then (if 0 ≤ x4 then (if (bt x3 x4) < 48 then (some 3) else (if (bt x3 x4) > 57 then (some 3) else (metrolabref01_Check.l0 k x3 (wrap64 (x4 + 1))))) else (none)) else (if (x3.size : Int) > 1024 then (some 11) else (some 0))
end
def metrolabref01_Check.f (k : Nat) (a0 : ByteArray) : Option (Int) := (metrolabref01_size.f a0).bind fun t101 => (if t101.toList = ([] : List UInt8) then (metrolabref01_Check.j0 k t101 true) else (if 0 < (t101.size : Int) then (if (bt t101 0) = 48 then (if (t101.size : Int) > 1 then (metrolabref01_Check.j0 k t101 true) else (metrolabref01_Check.j0 k t101 (decide ((a0.size : Int) > 1)))) else (metrolabref01_Check.j0 k t101 false)) else (none)))
theorem metrolabref01_Check.mono_l : ∀ k, (∀ y0 y1, LeO (metrolabref01_Check.j0 k y0 y1) (metrolabref01_Check.j0 (k + 1) y0 y1)) ∧ (∀ y0 y1, LeO (metrolabref01_Check.l0 k y0 y1) (metrolabref01_Check.l0 (k + 1) y0 y1))
  | 0 => ⟨fun _ _ r h => by simp [metrolabref01_Check.j0] at h, fun _ _ r h => by simp [metrolabref01_Check.l0] at h⟩
  | k + 1 => by
    obtain ⟨ih0, ih1⟩ := metrolabref01_Check.mono_l k
    refine ⟨?_, ?_⟩
    · intro y0 y1
      unfold metrolabref01_Check.j0
      repeat' first
      | (with_reducible exact ih0 _ _)
      | (with_reducible exact ih1 _ _)
      | (with_reducible exact LeO.refl _)
      | (with_reducible exact LeO.none _)
      | (with_reducible refine LeO.ite ?_ ?_)
      | (with_reducible refine LeO.bind ?_ (fun _ => ?_))
      | exact ih0 _ _
      | exact ih1 _ _
      | exact LeO.none _
      | refine LeO.ite ?_ ?_
      | refine LeO.bind ?_ (fun _ => ?_)
    · intro y0 y1
      unfold metrolabref01_Check.l0
      repeat' first
      | (with_reducible exact ih0 _ _)
      | (with_reducible exact ih1 _ _)
      | (with_reducible exact LeO.refl _)
      | (with_reducible exact LeO.none _)
      | (with_reducible refine LeO.ite ?_ ?_)
      | (with_reducible refine LeO.bind ?_ (fun _ => ?_))
      | exact ih0 _ _
      | exact ih1 _ _
      | exact LeO.none _
      | refine LeO.ite ?_ ?_
      | refine LeO.bind ?_ (fun _ => ?_)
theorem metrolabref01_Check.mono : ∀ a0 k, LeO (metrolabref01_Check.f k a0) (metrolabref01_Check.f (k + 1) a0) := by
  intro a0 k
  obtain ⟨ih0, ih1⟩ := metrolabref01_Check.mono_l k
  unfold metrolabref01_Check.f
  repeat' first
      | (with_reducible exact ih0 _ _)
      | (with_reducible exact ih1 _ _)
      | (with_reducible exact LeO.refl _)
      | (with_reducible exact LeO.none _)
      | (with_reducible refine LeO.ite ?_ ?_)
      | (with_reducible refine LeO.bind ?_ (fun _ => ?_))
      | exact ih0 _ _
      | exact ih1 _ _
      | exact LeO.none _
      | refine LeO.ite ?_ ?_
      | refine LeO.bind ?_ (fun _ => ?_)
set_option maxHeartbeats 8000000 in
set_option maxRecDepth 100000 in
theorem metrolabref01_Check.calls (k : Nat) (a0 : ByteArray) (r : Int) (w : World) (h : metrolabref01_Check.f k a0 = some r) :
    Calls Tryz.prog 29 #[.string a0] w fun e w' => e = .returned (.int .i64 r) ∧ Drawn0 w w' := by
  have H : ((metrolabref01_size.f a0).bind fun t101 => (if t101.toList = ([] : List UInt8) then (metrolabref01_Check.j0 k t101 true) else (if 0 < (t101.size : Int) then (if (bt t101 0) = 48 then (if (t101.size : Int) > 1 then (metrolabref01_Check.j0 k t101 true) else (metrolabref01_Check.j0 k t101 (decide ((a0.size : Int) > 1)))) else (metrolabref01_Check.j0 k t101 false)) else (none)))) = some r := h
  clear h
  replace H := Option.bind_eq_some_iff.mp H
  obtain ⟨t101, A20, H⟩ := H
  replace H : (if t101.toList = ([] : List UInt8) then (metrolabref01_Check.j0 k t101 true) else (if 0 < (t101.size : Int) then (if (bt t101 0) = 48 then (if (t101.size : Int) > 1 then (metrolabref01_Check.j0 k t101 true) else (metrolabref01_Check.j0 k t101 (decide ((a0.size : Int) > 1)))) else (metrolabref01_Check.j0 k t101 false)) else (none))) = some r := H
  have A2 := Aside0.mk A20
  clear A20
  have HC3 := Aside0.mk H
  clear H
  go_enter Tryz.func29, Tryz.ntmps29
  go_upto_region 2 with (first | ((with_reducible refine gate_callee (f := 58) rfl ?_); refine goesL_ (some 6) rfl rfl Tryz.func58 (by kernel_rfl) rfl #[.string a0] rfl (by (try simp only [List.map_toArray, List.map_cons, List.map_nil]); first | done | rfl | (simp only [List.length_drop, List.length_take]; rfl)) ?_; (with_reducible refine (metrolabref01_size.calls a0 t101 _ A2.out).mono ?_); rintro e w' ⟨rfl, ⟨nd, rfl⟩⟩; refine ⟨_, rfl, ?_⟩))
  (try simp only [Act.put, List.setIfInBounds_toArray, List.set_cons_zero, List.set_cons_succ])
  go_cut [23] (fun v23 wc => ∃ (kq : Nat) (x23_2 : Bool), v23 = .bool x23_2 ∧ Aside0 (metrolabref01_Check.j0 kq t101 x23_2 = some r) ∧ Aside0 (kq ≤ k) ∧ Drawn0 w wc)
  case first =>
    have H := HC3.out
    clear HC3
    by_cases c4 : t101.toList = ([] : List UInt8)
    · rw [if_pos c4] at H
      have c4b0 : (t101.toList == ([] : List UInt8)) = true := beq_iff_eq.mpr c4
      have c4b1 : (t101.toList != ([] : List UInt8)) = false := bne_eq_false_iff_eq.mpr c4
      clear c4
      (first | rw [c4b0] | (simp only [i64_w, i32_w]; rw [c4b0]) | skip)
      have H' := Aside0.mk H
      clear H
      go_wp2
      go_meet
      case rel => exact ⟨_, (true), (by first | rfl | exact congrArg Value.bool (not_empty _) | exact congrArg Value.bool (is_empty _) | (simp; done) | (simp [*]; done)), H', ⟨by first | omega | exact Nat.le_refl _⟩, by repeat (first | exact Drawn0.refl _ | apply Drawn0.step)⟩
    · rw [if_neg c4] at H
      have c4b0 : (t101.toList == ([] : List UInt8)) = false := beq_eq_false_iff_ne.mpr c4
      have c4b1 : (t101.toList != ([] : List UInt8)) = true := bne_iff_ne.mpr c4
      (first | rw [c4b0] | (simp only [i64_w, i32_w]; rw [c4b0]) | skip)
      by_cases c5 : 0 < (t101.size : Int)
      · rw [if_pos c5] at H
        have c5b0 : decide (0 < (t101.size : Int)) = true := decide_eq_true c5
        have c5b1 : decide (0 < t101.size) = true := decide_eq_true (by omega)
        clear c5
        by_cases c7 : (bt t101 0) = 48
        · rw [if_pos c7] at H
          have c7b0 : ((bt t101 0) == 48) = true := beq_iff_eq.mpr c7
          have c7b1 : ((bt t101 0) != 48) = false := bne_eq_false_iff_eq.mpr c7
          clear c7
          by_cases c8 : (t101.size : Int) > 1
          · rw [if_pos c8] at H
            have c8b0 : decide (1 < (t101.size : Int)) = true := decide_eq_true c8
            have c8b1 : decide (1 < t101.size) = true := decide_eq_true (by omega)
            clear c8
            have H' := Aside0.mk H
            clear H
            have p6 : 0 ≤ (0 : Int) := (by omega)
            have q6 : 0 < t101.size := (by have : (0 : Int) < (t101.size : Int) := of_decide_eq_true (by first | (with_reducible assumption) | assumption); omega)
            have hx6 : ∀ h : 0 < t101.size, ((t101[0]'h).toNat : Int) = bt t101 0 := bt_at t101 0
            clear p6
            have qi6 : (0 < (t101.size : Int)) = True := eq_true (of_decide_eq_true (by first | (with_reducible assumption) | assumption))
            replace q6 := eq_true q6
            go_wp2
            go_meet
            case rel => exact ⟨_, (true), (by first | rfl | exact congrArg Value.bool (not_empty _) | exact congrArg Value.bool (is_empty _) | (simp; done) | (simp [*]; done)), H', ⟨by first | omega | exact Nat.le_refl _⟩, by repeat (first | exact Drawn0.refl _ | apply Drawn0.step)⟩
          · rw [if_neg c8] at H
            have c8b0 : decide (1 < (t101.size : Int)) = false := decide_eq_false c8
            have c8b1 : decide (1 < t101.size) = false := decide_eq_false (by omega)
            clear c8
            have H' := Aside0.mk H
            clear H
            have p6 : 0 ≤ (0 : Int) := (by omega)
            have q6 : 0 < t101.size := (by have : (0 : Int) < (t101.size : Int) := of_decide_eq_true (by first | (with_reducible assumption) | assumption); omega)
            have hx6 : ∀ h : 0 < t101.size, ((t101[0]'h).toNat : Int) = bt t101 0 := bt_at t101 0
            clear p6
            have qi6 : (0 < (t101.size : Int)) = True := eq_true (of_decide_eq_true (by first | (with_reducible assumption) | assumption))
            replace q6 := eq_true q6
            go_wp2
            go_meet
            case rel => exact ⟨_, (decide ((a0.size : Int) > 1)), (by first | rfl | exact congrArg Value.bool (not_empty _) | exact congrArg Value.bool (is_empty _) | (simp; done) | (simp [*]; done)), H', ⟨by first | omega | exact Nat.le_refl _⟩, by repeat (first | exact Drawn0.refl _ | apply Drawn0.step)⟩
        · rw [if_neg c7] at H
          have c7b0 : ((bt t101 0) == 48) = false := beq_eq_false_iff_ne.mpr c7
          have c7b1 : ((bt t101 0) != 48) = true := bne_iff_ne.mpr c7
          have H' := Aside0.mk H
          clear H
          have p6 : 0 ≤ (0 : Int) := (by omega)
          have q6 : 0 < t101.size := (by have : (0 : Int) < (t101.size : Int) := of_decide_eq_true (by first | (with_reducible assumption) | assumption); omega)
          have hx6 : ∀ h : 0 < t101.size, ((t101[0]'h).toNat : Int) = bt t101 0 := bt_at t101 0
          clear p6
          have qi6 : (0 < (t101.size : Int)) = True := eq_true (of_decide_eq_true (by first | (with_reducible assumption) | assumption))
          replace q6 := eq_true q6
          go_wp2
          go_meet
          case rel => exact ⟨_, (false), (by first | rfl | exact congrArg Value.bool (not_empty _) | exact congrArg Value.bool (is_empty _) | (simp; done) | (simp [*]; done)), H', ⟨by first | omega | exact Nat.le_refl _⟩, by repeat (first | exact Drawn0.refl _ | apply Drawn0.step)⟩
      · rw [if_neg c5] at H
        exact absurd H (by simp)
  case rest =>
    clear HC3
    try clear c2
    try clear p2
    try clear c4
    try clear c4b0
    try clear c4b1
    try clear c5
    try clear c5b0
    try clear c5b1
    try clear p6
    try clear q6
    try clear hx6
    try clear qi6
    try clear c7
    try clear c7b0
    try clear c7b1
    try clear c8
    try clear c8b0
    try clear c8b1
    try clear p6
    try clear q6
    obtain ⟨kq, x23_2, rfl, HA, HJ2, ⟨mc2, rfl⟩⟩ := hcut
    cases kq with
    | zero => exact absurd HA.out (by simp [metrolabref01_Check.j0])
    | succ kj2 =>
      have H := HA.out
      clear HA
      simp only [metrolabref01_Check.j0] at H
      by_cases c9 : x23_2 = true
      · subst c9
        have H1 : (some 3) = some r := by rw [if_pos rfl] at H; exact H
        clear H
        have H := H1
        clear H1
        obtain rfl := Option.some.inj H
        go_wp2
        go_ret
        exact ⟨by first | rfl | (simp; done) | (simp [*]; done), by repeat (first | exact Drawn0.refl _ | apply Drawn0.step)⟩
      · replace c9 := Bool.eq_false_iff.mpr c9
        subst c9
        have H1 : (metrolabref01_Check.l0 kj2 t101 0) = some r := by rw [if_neg (show ¬ (false = true) by decide)] at H; exact H
        clear H
        have H := H1
        clear H1
        have H' := Aside0.mk H
        clear H
        go_wp2
        go_loopg [4] kj2 (fun kq v4 w' => ∃ (x4_2 : Int), v4 = .int .i64 x4_2 ∧ Aside0 (metrolabref01_Check.l0 kq t101 x4_2 = some r) ∧ Aside0 (kq ≤ kj2) ∧ Drawn0 w w')
        case atStart => exact ⟨(0), (by first | rfl | exact congrArg Value.bool (not_empty _) | exact congrArg Value.bool (is_empty _) | (simp; done) | (simp [*]; done)), H', ⟨Nat.le_refl _⟩, by repeat (first | exact Drawn0.refl _ | apply Drawn0.step)⟩
        case round =>
          clear H'
          try clear c2
          try clear p2
          try clear c4
          try clear c4b0
          try clear c4b1
          try clear c5
          try clear c5b0
          try clear c5b1
          try clear p6
          try clear q6
          try clear hx6
          try clear qi6
          try clear c7
          try clear c7b0
          try clear c7b1
          try clear c8
          try clear c8b0
          try clear c8b1
          try clear c9
          try clear p2
          try clear p6
          try clear q6
          obtain ⟨x4_2, rfl, HA, HK2, ⟨m2, rfl⟩⟩ := hrel
          cases gk with
          | zero => exact absurd HA.out (by simp [metrolabref01_Check.l0])
          | succ k2 =>
            have H := HA.out
            clear HA
            simp only [metrolabref01_Check.l0] at H
            by_cases c10 : x4_2 < (t101.size : Int)
            · rw [if_pos c10] at H
              have c10b0 : decide (x4_2 < (t101.size : Int)) = true := decide_eq_true c10
              clear c10
              by_cases c11 : 0 ≤ x4_2
              · rw [if_pos c11] at H
                have c11b0 : decide (0 ≤ x4_2) = true := decide_eq_true c11
                clear c11
                by_cases c13 : (bt t101 x4_2) < 48
                · rw [if_pos c13] at H
                  have c13b0 : decide ((bt t101 x4_2) < 48) = true := decide_eq_true c13
                  clear c13
                  obtain rfl := Option.some.inj H
                  have p12 : 0 ≤ (x4_2 : Int) := of_decide_eq_true (by first | (with_reducible assumption) | assumption)
                  have q12 : x4_2 < (t101.size : Int) := of_decide_eq_true (by first | (with_reducible assumption) | assumption)
                  have hx12 := bt_at t101 x4_2
                  replace p12 := eq_true p12
                  replace q12 := eq_true q12
                  go_wp2
                  go_ret
                  exact ⟨by first | rfl | (simp; done) | (simp [*]; done), by repeat (first | exact Drawn0.refl _ | apply Drawn0.step)⟩
                · rw [if_neg c13] at H
                  have c13b0 : decide ((bt t101 x4_2) < 48) = false := decide_eq_false c13
                  clear c13
                  by_cases c15 : (bt t101 x4_2) > 57
                  · rw [if_pos c15] at H
                    have c15b0 : decide (57 < (bt t101 x4_2)) = true := decide_eq_true c15
                    clear c15
                    obtain rfl := Option.some.inj H
                    have p12 : 0 ≤ (x4_2 : Int) := of_decide_eq_true (by first | (with_reducible assumption) | assumption)
                    have q12 : x4_2 < (t101.size : Int) := of_decide_eq_true (by first | (with_reducible assumption) | assumption)
                    have hx12 := bt_at t101 x4_2
                    replace p12 := eq_true p12
                    replace q12 := eq_true q12
                    have p14 : 0 ≤ (x4_2 : Int) := of_decide_eq_true (by first | (with_reducible assumption) | assumption)
                    have q14 : x4_2 < (t101.size : Int) := of_decide_eq_true (by first | (with_reducible assumption) | assumption)
                    have hx14 := bt_at t101 x4_2
                    replace p14 := eq_true p14
                    replace q14 := eq_true q14
                    go_wp2
                    go_ret
                    exact ⟨by first | rfl | (simp; done) | (simp [*]; done), by repeat (first | exact Drawn0.refl _ | apply Drawn0.step)⟩
                  · rw [if_neg c15] at H
                    have c15b0 : decide (57 < (bt t101 x4_2)) = false := decide_eq_false c15
                    clear c15
                    have H' := Aside0.mk H
                    clear H
                    have p12 : 0 ≤ (x4_2 : Int) := of_decide_eq_true (by first | (with_reducible assumption) | assumption)
                    have q12 : x4_2 < (t101.size : Int) := of_decide_eq_true (by first | (with_reducible assumption) | assumption)
                    have hx12 := bt_at t101 x4_2
                    replace p12 := eq_true p12
                    replace q12 := eq_true q12
                    have p14 : 0 ≤ (x4_2 : Int) := of_decide_eq_true (by first | (with_reducible assumption) | assumption)
                    have q14 : x4_2 < (t101.size : Int) := of_decide_eq_true (by first | (with_reducible assumption) | assumption)
                    have hx14 := bt_at t101 x4_2
                    replace p14 := eq_true p14
                    replace q14 := eq_true q14
                    go_wp2
                    go_roundg k2
                    case measure => have := HJ2.out; have := HK2.out; omega
                    case rel => exact ⟨(wrap64 (x4_2 + 1)), (by first | rfl | exact congrArg Value.bool (not_empty _) | exact congrArg Value.bool (is_empty _) | (simp; done) | (simp [*]; done)), H', ⟨by have := HJ2.out; have := HK2.out; omega⟩, by repeat (first | exact Drawn0.refl _ | apply Drawn0.step)⟩
              · rw [if_neg c11] at H
                exact absurd H (by simp)
            · rw [if_neg c10] at H
              have c10b0 : decide (x4_2 < (t101.size : Int)) = false := decide_eq_false c10
              clear c10
              by_cases c16 : (t101.size : Int) > 1024
              · rw [if_pos c16] at H
                have c16b0 : decide (1024 < (t101.size : Int)) = true := decide_eq_true c16
                have c16b1 : decide (1024 < t101.size) = true := decide_eq_true (by omega)
                clear c16
                obtain rfl := Option.some.inj H
                go_wp2
                go_ret
                exact ⟨by first | rfl | (simp; done) | (simp [*]; done), by repeat (first | exact Drawn0.refl _ | apply Drawn0.step)⟩
              · rw [if_neg c16] at H
                have c16b0 : decide (1024 < (t101.size : Int)) = false := decide_eq_false c16
                have c16b1 : decide (1024 < t101.size) = false := decide_eq_false (by omega)
                clear c16
                obtain rfl := Option.some.inj H
                go_wp2
                go_ret
                exact ⟨by first | rfl | (simp; done) | (simp [*]; done), by repeat (first | exact Drawn0.refl _ | apply Drawn0.step)⟩

/-! ### metrolabref01_Few: function 8 -/
def metrolabref01_Few.f (k : Nat) (a0 : ByteArray) : Option (Bool) := if (a0.size : Int) ≤ 50 then (some true) else (if (a0.size : Int) ≤ 2048 then ((metrolabref01_Check.f k a0).bind fun t102 => (some (t102 == 3))) else (some false))
theorem metrolabref01_Few.mono : ∀ a0 k, LeO (metrolabref01_Few.f k a0) (metrolabref01_Few.f (k + 1) a0) := by
  intro a0 k
  unfold metrolabref01_Few.f
  repeat' first
      | (with_reducible exact metrolabref01_Check.mono _ _)
      | (with_reducible exact LeO.refl _)
      | (with_reducible exact LeO.none _)
      | (with_reducible refine LeO.ite ?_ ?_)
      | (with_reducible refine LeO.bind ?_ (fun _ => ?_))
      | exact metrolabref01_Check.mono _ _
      | exact LeO.none _
      | refine LeO.ite ?_ ?_
      | refine LeO.bind ?_ (fun _ => ?_)
set_option maxHeartbeats 8000000 in
set_option maxRecDepth 100000 in
theorem metrolabref01_Few.calls (k : Nat) (a0 : ByteArray) (r : Bool) (w : World) (h : metrolabref01_Few.f k a0 = some r) :
    Calls Tryz.prog 8 #[.string a0] w fun e w' => e = .returned (.bool r) ∧ Drawn0 w w' := by
  have H : (if (a0.size : Int) ≤ 50 then (some true) else (if (a0.size : Int) ≤ 2048 then ((metrolabref01_Check.f k a0).bind fun t102 => (some (t102 == 3))) else (some false))) = some r := h
  clear h
  by_cases c2 : (a0.size : Int) ≤ 50
  · rw [if_pos c2] at H
    have c2b0 : decide ((a0.size : Int) ≤ 50) = true := decide_eq_true c2
    have c2b1 : decide (a0.size ≤ 50) = true := decide_eq_true (by omega)
    clear c2
    obtain rfl := Option.some.inj H
    go_enter Tryz.func8, Tryz.ntmps8
    go_wp2
    go_ret
    exact ⟨by first | rfl | (simp; done) | (simp [*]; done), by repeat (first | exact Drawn0.refl _ | apply Drawn0.step)⟩
  · rw [if_neg c2] at H
    have c2b0 : decide ((a0.size : Int) ≤ 50) = false := decide_eq_false c2
    have c2b1 : decide (a0.size ≤ 50) = false := decide_eq_false (by omega)
    clear c2
    by_cases c3 : (a0.size : Int) ≤ 2048
    · rw [if_pos c3] at H
      have c3b0 : decide ((a0.size : Int) ≤ 2048) = true := decide_eq_true c3
      have c3b1 : decide (a0.size ≤ 2048) = true := decide_eq_true (by omega)
      clear c3
      replace H := Option.bind_eq_some_iff.mp H
      obtain ⟨t102, A40, H⟩ := H
      replace H : (some (t102 == 3)) = some r := H
      have A4 := Aside0.mk A40
      clear A40
      obtain rfl := Option.some.inj H
      go_enter Tryz.func8, Tryz.ntmps8
      go_wp2_with (first | (go_at_call 29; (with_reducible refine (metrolabref01_Check.calls k a0 t102 _ A4.out).mono ?_); rintro e w' ⟨rfl, ⟨nd, rfl⟩⟩))
      go_ret
      exact ⟨by first | rfl | (simp; done) | (simp [*]; done), by repeat (first | exact Drawn0.refl _ | apply Drawn0.step)⟩
    · rw [if_neg c3] at H
      have c3b0 : decide ((a0.size : Int) ≤ 2048) = false := decide_eq_false c3
      have c3b1 : decide (a0.size ≤ 2048) = false := decide_eq_false (by omega)
      clear c3
      obtain rfl := Option.some.inj H
      go_enter Tryz.func8, Tryz.ntmps8
      go_wp2
      go_ret
      exact ⟨by first | rfl | (simp; done) | (simp [*]; done), by repeat (first | exact Drawn0.refl _ | apply Drawn0.step)⟩

/-! ### metrolabref01_Kept: function 46 -/
def metrolabref01_Kept.f (a0 : ByteArray) : Option (ByteArray × Int) := (metrolabref01_size.f a0).bind fun t103 => (if (t103.size : Int) > 1024 then (some ((⟨#[]⟩ : ByteArray), 11)) else (some (a0, 0)))
set_option maxHeartbeats 8000000 in
set_option maxRecDepth 100000 in
theorem metrolabref01_Kept.calls (a0 : ByteArray) (r1 : ByteArray) (r2 : Int) (w : World) (h : metrolabref01_Kept.f a0 = some (r1, r2)) :
    Calls Tryz.prog 46 #[.string a0] w fun e w' => e = .returned (.tuple #[.string r1, .int .i64 r2]) ∧ Drawn0 w w' := by
  have H : ((metrolabref01_size.f a0).bind fun t103 => (if (t103.size : Int) > 1024 then (some ((⟨#[]⟩ : ByteArray), 11)) else (some (a0, 0)))) = some (r1, r2) := h
  clear h
  replace H := Option.bind_eq_some_iff.mp H
  obtain ⟨t103, A20, H⟩ := H
  replace H : (if (t103.size : Int) > 1024 then (some ((⟨#[]⟩ : ByteArray), 11)) else (some (a0, 0))) = some (r1, r2) := H
  have A2 := Aside0.mk A20
  clear A20
  by_cases c3 : (t103.size : Int) > 1024
  · rw [if_pos c3] at H
    have c3b0 : decide (1024 < (t103.size : Int)) = true := decide_eq_true c3
    have c3b1 : decide (1024 < t103.size) = true := decide_eq_true (by omega)
    clear c3
    simp only [Option.some.injEq, Prod.mk.injEq] at H
    obtain ⟨rfl, rfl⟩ := H
    go_enter Tryz.func46, Tryz.ntmps46
    go_wp2_with (first | ((with_reducible refine gate_callee (f := 58) rfl ?_); refine goesL_ (some 5) rfl rfl Tryz.func58 (by kernel_rfl) rfl #[.string a0] rfl (by (try simp only [List.map_toArray, List.map_cons, List.map_nil]); first | done | rfl | (simp only [List.length_drop, List.length_take]; rfl)) ?_; (with_reducible refine (metrolabref01_size.calls a0 t103 _ A2.out).mono ?_); rintro e w' ⟨rfl, ⟨nd, rfl⟩⟩; refine ⟨_, rfl, ?_⟩))
    go_ret2
    exact ⟨by first | rfl | (simp; done) | (simp [*]; done), by repeat (first | exact Drawn0.refl _ | apply Drawn0.step)⟩
  · rw [if_neg c3] at H
    have c3b0 : decide (1024 < (t103.size : Int)) = false := decide_eq_false c3
    have c3b1 : decide (1024 < t103.size) = false := decide_eq_false (by omega)
    clear c3
    simp only [Option.some.injEq, Prod.mk.injEq] at H
    obtain ⟨rfl, rfl⟩ := H
    go_enter Tryz.func46, Tryz.ntmps46
    go_wp2_with (first | ((with_reducible refine gate_callee (f := 58) rfl ?_); refine goesL_ (some 5) rfl rfl Tryz.func58 (by kernel_rfl) rfl #[.string a0] rfl (by (try simp only [List.map_toArray, List.map_cons, List.map_nil]); first | done | rfl | (simp only [List.length_drop, List.length_take]; rfl)) ?_; (with_reducible refine (metrolabref01_size.calls a0 t103 _ A2.out).mono ?_); rintro e w' ⟨rfl, ⟨nd, rfl⟩⟩; refine ⟨_, rfl, ?_⟩))
    go_ret2
    exact ⟨by first | rfl | (simp; done) | (simp [*]; done), by repeat (first | exact Drawn0.refl _ | apply Drawn0.step)⟩

/-! ### metrolabref01_Below: function 59 -/
def metrolabref01_Below.f (a0 : ByteArray) : Option (Bool) := if 0 < (a0.size : Int) then (some ((bt a0 0) == 45)) else (none)
set_option maxHeartbeats 8000000 in
set_option maxRecDepth 100000 in
theorem metrolabref01_Below.calls (a0 : ByteArray) (r : Bool) (w : World) (h : metrolabref01_Below.f a0 = some r) :
    Calls Tryz.prog 59 #[.string a0] w fun e w' => e = .returned (.bool r) ∧ Drawn0 w w' := by
  have H : (if 0 < (a0.size : Int) then (some ((bt a0 0) == 45)) else (none)) = some r := h
  clear h
  by_cases c2 : 0 < (a0.size : Int)
  · rw [if_pos c2] at H
    have c2b0 : decide (0 < (a0.size : Int)) = true := decide_eq_true c2
    have c2b1 : decide (0 < a0.size) = true := decide_eq_true (by omega)
    clear c2
    obtain rfl := Option.some.inj H
    have p3 : 0 ≤ (0 : Int) := (by omega)
    have q3 : 0 < a0.size := (by have : (0 : Int) < (a0.size : Int) := of_decide_eq_true (by first | (with_reducible assumption) | assumption); omega)
    have hx3 : ∀ h : 0 < a0.size, ((a0[0]'h).toNat : Int) = bt a0 0 := bt_at a0 0
    clear p3
    have qi3 : (0 < (a0.size : Int)) = True := eq_true (of_decide_eq_true (by first | (with_reducible assumption) | assumption))
    replace q3 := eq_true q3
    go_enter Tryz.func59, Tryz.ntmps59
    go_wp2
    go_ret
    exact ⟨by first | rfl | (simp; done) | (simp [*]; done), by repeat (first | exact Drawn0.refl _ | apply Drawn0.step)⟩
  · rw [if_neg c2] at H
    exact absurd H (by simp)

/-! ### metrolabref01_signed: function 72 -/
def metrolabref01_signed.f (a0 : ByteArray) (a1 : Bool) : Option (ByteArray) := if a1 = true then (if a0.toList = ([48] : List UInt8) then (some a0) else (if 1 + a0.size ≤ 9223372036854775807 then (some ((⟨#[45]⟩ : ByteArray) ++ a0)) else (none))) else (some a0)
set_option maxHeartbeats 8000000 in
set_option maxRecDepth 100000 in
theorem metrolabref01_signed.calls (a0 : ByteArray) (a1 : Bool) (r : ByteArray) (w : World) (h : metrolabref01_signed.f a0 a1 = some r) :
    Calls Tryz.prog 72 #[.string a0, .bool a1] w fun e w' => e = .returned (.string r) ∧ Drawn0 w w' := by
  have H : (if a1 = true then (if a0.toList = ([48] : List UInt8) then (some a0) else (if 1 + a0.size ≤ 9223372036854775807 then (some ((⟨#[45]⟩ : ByteArray) ++ a0)) else (none))) else (some a0)) = some r := h
  clear h
  by_cases c3 : a1 = true
  · subst c3
    have H1 : (if a0.toList = ([48] : List UInt8) then (some a0) else (if 1 + a0.size ≤ 9223372036854775807 then (some ((⟨#[45]⟩ : ByteArray) ++ a0)) else (none))) = some r := by rw [if_pos rfl] at H; exact H
    clear H
    have H := H1
    clear H1
    by_cases c4 : a0.toList = ([48] : List UInt8)
    · rw [if_pos c4] at H
      have c4b0 : (a0.toList == ([48] : List UInt8)) = true := beq_iff_eq.mpr c4
      have c4b1 : (a0.toList != ([48] : List UInt8)) = false := bne_eq_false_iff_eq.mpr c4
      clear c4
      obtain rfl := Option.some.inj H
      go_enter Tryz.func72, Tryz.ntmps72
      go_wp2
      go_ret
      exact ⟨by first | rfl | (simp; done) | (simp [*]; done), by repeat (first | exact Drawn0.refl _ | apply Drawn0.step)⟩
    · rw [if_neg c4] at H
      have c4b0 : (a0.toList == ([48] : List UInt8)) = false := beq_eq_false_iff_ne.mpr c4
      have c4b1 : (a0.toList != ([48] : List UInt8)) = true := bne_iff_ne.mpr c4
      by_cases c5 : 1 + a0.size ≤ 9223372036854775807
      · rw [if_pos c5] at H
        have c5b0 := eq_true c5
        have c5b1 : decide (1 + a0.size ≤ 9223372036854775807) = true := decide_eq_true c5
        try have c5b2 : (9223372036854775807 < 1 + a0.size) = False := eq_false (Nat.not_lt.2 c5)
        obtain rfl := Option.some.inj H
        go_enter Tryz.func72, Tryz.ntmps72
        go_wp2
        go_ret
        exact ⟨by first | rfl | (simp; done) | (simp [*]; done), by repeat (first | exact Drawn0.refl _ | apply Drawn0.step)⟩
      · rw [if_neg c5] at H
        exact absurd H (by simp)
  · replace c3 := Bool.eq_false_iff.mpr c3
    subst c3
    have H1 : (some a0) = some r := by rw [if_neg (show ¬ (false = true) by decide)] at H; exact H
    clear H
    have H := H1
    clear H1
    obtain rfl := Option.some.inj H
    go_enter Tryz.func72, Tryz.ntmps72
    go_wp2
    go_ret
    exact ⟨by first | rfl | (simp; done) | (simp [*]; done), by repeat (first | exact Drawn0.refl _ | apply Drawn0.step)⟩

/-! ### metrolabref01_Turned: function 64 -/
def metrolabref01_Turned.f (a0 : ByteArray) : Option (ByteArray) := (metrolabref01_size.f a0).bind fun t104 => ((metrolabref01_Below.f a0).bind fun t105 => ((metrolabref01_signed.f t104 (!t105)).bind fun t106 => (some t106)))
set_option maxHeartbeats 8000000 in
set_option maxRecDepth 100000 in
theorem metrolabref01_Turned.calls (a0 : ByteArray) (r : ByteArray) (w : World) (h : metrolabref01_Turned.f a0 = some r) :
    Calls Tryz.prog 64 #[.string a0] w fun e w' => e = .returned (.string r) ∧ Drawn0 w w' := by
  have H : ((metrolabref01_size.f a0).bind fun t104 => ((metrolabref01_Below.f a0).bind fun t105 => ((metrolabref01_signed.f t104 (!t105)).bind fun t106 => (some t106)))) = some r := h
  clear h
  replace H := Option.bind_eq_some_iff.mp H
  obtain ⟨t104, A20, H⟩ := H
  replace H : ((metrolabref01_Below.f a0).bind fun t105 => ((metrolabref01_signed.f t104 (!t105)).bind fun t106 => (some t106))) = some r := H
  have A2 := Aside0.mk A20
  clear A20
  replace H := Option.bind_eq_some_iff.mp H
  obtain ⟨t105, A30, H⟩ := H
  replace H : ((metrolabref01_signed.f t104 (!t105)).bind fun t106 => (some t106)) = some r := H
  have A3 := Aside0.mk A30
  clear A30
  replace H := Option.bind_eq_some_iff.mp H
  obtain ⟨t106, A40, H⟩ := H
  replace H : (some t106) = some r := H
  have A4 := Aside0.mk A40
  clear A40
  obtain rfl := Option.some.inj H
  go_enter Tryz.func64, Tryz.ntmps64
  go_wp2_with (first | ((with_reducible refine gate_callee (f := 58) rfl ?_); refine goesL_ (some 4) rfl rfl Tryz.func58 (by kernel_rfl) rfl #[.string a0] rfl (by (try simp only [List.map_toArray, List.map_cons, List.map_nil]); first | done | rfl | (simp only [List.length_drop, List.length_take]; rfl)) ?_; (with_reducible refine (metrolabref01_size.calls a0 t104 _ A2.out).mono ?_); rintro e w' ⟨rfl, ⟨nd, rfl⟩⟩; refine ⟨_, rfl, ?_⟩) | ((with_reducible refine gate_callee (f := 59) rfl ?_); refine goesL_ (some 6) rfl rfl Tryz.func59 (by kernel_rfl) rfl #[.string a0] rfl (by (try simp only [List.map_toArray, List.map_cons, List.map_nil]); first | done | rfl | (simp only [List.length_drop, List.length_take]; rfl)) ?_; (with_reducible refine (metrolabref01_Below.calls a0 t105 _ A3.out).mono ?_); rintro e w' ⟨rfl, ⟨nd, rfl⟩⟩; refine ⟨_, rfl, ?_⟩) | ((with_reducible refine gate_callee (f := 72) rfl ?_); refine goesL_ (some 8) rfl rfl Tryz.func72 (by kernel_rfl) rfl #[.string t104, .bool (!t105)] rfl (by (try simp only [List.map_toArray, List.map_cons, List.map_nil]); first | done | rfl | (simp only [List.length_drop, List.length_take]; rfl)) ?_; (with_reducible refine (metrolabref01_signed.calls t104 (!t105) t106 _ A4.out).mono ?_); rintro e w' ⟨rfl, ⟨nd, rfl⟩⟩; refine ⟨_, rfl, ?_⟩))
  go_ret
  exact ⟨by first | rfl | (simp; done) | (simp [*]; done), by repeat (first | exact Drawn0.refl _ | apply Drawn0.step)⟩

/-! ### metrolabref01_Of: function 31 -/
mutual
def metrolabref01_Of.j0 : Nat → Int → Bool → Option (ByteArray)
  | 0, _, _ => none
  | k + 1, x0, x11 => if x11 = true then (some (⟨#[45, 57, 50, 50, 51, 51, 55, 50, 48, 51, 54, 56, 53, 52, 55, 55, 53, 56, 48, 56]⟩ : ByteArray)) else (if x0 < 0 then ((metrolabref01_Of.f k (wrap64 (-x0))).bind fun t107 => ((metrolabref01_Turned.f t107).bind fun t108 => (some t108))) else (metrolabref01_Of.l0 k x0 (⟨#[]⟩ : ByteArray)))
def metrolabref01_Of.l0 : Nat → Int → ByteArray → Option (ByteArray)
  | 0, _, _ => none
  | k + 1, x0, x3 => if x0 > 9 then ((some (([(wrap64 (48 + (Int.tmod x0 10))) % 256] : List Int) : List Int)).bind fun y109 => (if (strOfNums y109).size + x3.size ≤ 9223372036854775807 then (metrolabref01_Of.l0 k (wrap64 (Int.tdiv x0 10)) ((strOfNums y109) ++ x3)) else (none))) else ((some (([(wrap64 (48 + x0)) % 256] : List Int) : List Int)).bind fun y112 => (if (strOfNums y112).size + x3.size ≤ 9223372036854775807 then (some ((strOfNums y112) ++ x3)) else (none)))
def metrolabref01_Of.f : Nat → Int → Option (ByteArray)
  | 0, _ => none
  | k + 1, a0 => if a0 = (wrap64 (-a0)) then (metrolabref01_Of.j0 k a0 (a0 != 0)) else (metrolabref01_Of.j0 k a0 false)
end
theorem metrolabref01_Of.mono_l : ∀ k, (∀ y0, LeO (metrolabref01_Of.f k y0) (metrolabref01_Of.f (k + 1) y0)) ∧ (∀ y0 y1, LeO (metrolabref01_Of.j0 k y0 y1) (metrolabref01_Of.j0 (k + 1) y0 y1)) ∧ (∀ y0 y1, LeO (metrolabref01_Of.l0 k y0 y1) (metrolabref01_Of.l0 (k + 1) y0 y1))
  | 0 => ⟨fun _ r h => by simp [metrolabref01_Of.f] at h, fun _ _ r h => by simp [metrolabref01_Of.j0] at h, fun _ _ r h => by simp [metrolabref01_Of.l0] at h⟩
  | k + 1 => by
    obtain ⟨ih0, ih1, ih2⟩ := metrolabref01_Of.mono_l k
    refine ⟨?_, ?_, ?_⟩
    · intro y0
      unfold metrolabref01_Of.f
      repeat' first
      | (with_reducible exact ih0 _)
      | (with_reducible exact ih1 _ _)
      | (with_reducible exact ih2 _ _)
      | (with_reducible exact LeO.refl _)
      | (with_reducible exact LeO.none _)
      | (with_reducible refine LeO.ite ?_ ?_)
      | (with_reducible refine LeO.bind ?_ (fun _ => ?_))
      | exact ih0 _
      | exact ih1 _ _
      | exact ih2 _ _
      | exact LeO.none _
      | refine LeO.ite ?_ ?_
      | refine LeO.bind ?_ (fun _ => ?_)
    · intro y0 y1
      unfold metrolabref01_Of.j0
      repeat' first
      | (with_reducible exact ih0 _)
      | (with_reducible exact ih1 _ _)
      | (with_reducible exact ih2 _ _)
      | (with_reducible exact LeO.refl _)
      | (with_reducible exact LeO.none _)
      | (with_reducible refine LeO.ite ?_ ?_)
      | (with_reducible refine LeO.bind ?_ (fun _ => ?_))
      | exact ih0 _
      | exact ih1 _ _
      | exact ih2 _ _
      | exact LeO.none _
      | refine LeO.ite ?_ ?_
      | refine LeO.bind ?_ (fun _ => ?_)
    · intro y0 y1
      unfold metrolabref01_Of.l0
      repeat' first
      | (with_reducible exact ih0 _)
      | (with_reducible exact ih1 _ _)
      | (with_reducible exact ih2 _ _)
      | (with_reducible exact LeO.refl _)
      | (with_reducible exact LeO.none _)
      | (with_reducible refine LeO.ite ?_ ?_)
      | (with_reducible refine LeO.bind ?_ (fun _ => ?_))
      | exact ih0 _
      | exact ih1 _ _
      | exact ih2 _ _
      | exact LeO.none _
      | refine LeO.ite ?_ ?_
      | refine LeO.bind ?_ (fun _ => ?_)
theorem metrolabref01_Of.mono : ∀ a0 k, LeO (metrolabref01_Of.f k a0) (metrolabref01_Of.f (k + 1) a0) := by
  intro a0 k
  obtain ⟨ih0, ih1, ih2⟩ := metrolabref01_Of.mono_l k
  exact ih0 a0
set_option maxHeartbeats 8000000 in
set_option maxRecDepth 100000 in
theorem metrolabref01_Of.calls (k : Nat) : ∀ (a0 : Int) (r : ByteArray) (w : World) (h : metrolabref01_Of.f k a0 = some r),
    Calls Tryz.prog 31 #[.int .i64 a0] w fun e w' => e = .returned (.string r) ∧ Below w.heap.size w w' := by
  induction k using Nat.strongRecOn with
  | _ k ih =>
  intro a0 r w h
  cases k with
  | zero => exact absurd h (by simp [metrolabref01_Of.f])
  | succ k =>
  simp only [metrolabref01_Of.f] at h
  have HB := Aside0.mk (Below.refl w.heap.size w)
  have H : (if a0 = (wrap64 (-a0)) then (metrolabref01_Of.j0 k a0 (a0 != 0)) else (metrolabref01_Of.j0 k a0 false)) = some r := h
  clear h
  have HC2 := Aside0.mk H
  clear H
  go_enter Tryz.func31, Tryz.ntmps31
  go_upto_region 1 with (fail)
  go_cut [11] (fun v11 wc => ∃ (kq : Nat) (x11_1 : Bool), v11 = .bool x11_1 ∧ Aside0 (metrolabref01_Of.j0 kq a0 x11_1 = some r) ∧ Aside0 (kq ≤ k) ∧ Aside0 (Below w.heap.size w wc))
  case first =>
    have H := HC2.out
    clear HC2
    by_cases c3 : a0 = (wrap64 (-a0))
    · rw [if_pos c3] at H
      have c3b0 : (a0 == (wrap64 (-a0))) = true := beq_iff_eq.mpr c3
      have c3b1 : (a0 != (wrap64 (-a0))) = false := bne_eq_false_iff_eq.mpr c3
      clear c3
      (first | rw [c3b0] | (simp only [i64_w, i32_w]; rw [c3b0]) | skip)
      have H' := Aside0.mk H
      clear H
      go_wp2
      go_meet
      case rel => exact ⟨_, ((a0 != 0)), (by first | rfl | exact congrArg Value.bool (not_empty _) | exact congrArg Value.bool (is_empty _) | (simp; done) | (simp [*]; done)), H', ⟨by first | omega | exact Nat.le_refl _⟩, ⟨by repeat (first | (with_reducible first | exact HB.out | apply below_alloc | apply pw_below_drewN | apply below_drew1) | exact HB.out)⟩⟩
    · rw [if_neg c3] at H
      have c3b0 : (a0 == (wrap64 (-a0))) = false := beq_eq_false_iff_ne.mpr c3
      have c3b1 : (a0 != (wrap64 (-a0))) = true := bne_iff_ne.mpr c3
      (first | rw [c3b0] | (simp only [i64_w, i32_w]; rw [c3b0]) | skip)
      have H' := Aside0.mk H
      clear H
      go_wp2
      go_meet
      case rel => exact ⟨_, (false), (by first | rfl | exact congrArg Value.bool (not_empty _) | exact congrArg Value.bool (is_empty _) | (simp; done) | (simp [*]; done)), H', ⟨by first | omega | exact Nat.le_refl _⟩, ⟨by repeat (first | (with_reducible first | exact HB.out | apply below_alloc | apply pw_below_drewN | apply below_drew1) | exact HB.out)⟩⟩
  case rest =>
    clear HC2
    try clear p2
    try clear c3
    try clear c3b0
    try clear c3b1
    obtain ⟨kq, x11_1, rfl, HA, HJ1, HB⟩ := hcut
    cases kq with
    | zero => exact absurd HA.out (by simp [metrolabref01_Of.j0])
    | succ kj1 =>
      have H := HA.out
      clear HA
      simp only [metrolabref01_Of.j0] at H
      by_cases c4 : x11_1 = true
      · subst c4
        have H1 : (some (⟨#[45, 57, 50, 50, 51, 51, 55, 50, 48, 51, 54, 56, 53, 52, 55, 55, 53, 56, 48, 56]⟩ : ByteArray)) = some r := by rw [if_pos rfl] at H; exact H
        clear H
        have H := H1
        clear H1
        obtain rfl := Option.some.inj H
        go_wp2
        go_ret
        exact ⟨by first | rfl | (simp [errW_none, errW_some] <;> rfl) | (simp [*, errW_none, errW_some] <;> rfl), by repeat (first | (with_reducible first | exact HB.out | apply below_alloc | apply pw_below_drewN | apply below_drew1) | exact HB.out)⟩
      · replace c4 := Bool.eq_false_iff.mpr c4
        subst c4
        have H1 : (if a0 < 0 then ((metrolabref01_Of.f kj1 (wrap64 (-a0))).bind fun t107 => ((metrolabref01_Turned.f t107).bind fun t108 => (some t108))) else (metrolabref01_Of.l0 kj1 a0 (⟨#[]⟩ : ByteArray))) = some r := by rw [if_neg (show ¬ (false = true) by decide)] at H; exact H
        clear H
        have H := H1
        clear H1
        by_cases c5 : a0 < 0
        · rw [if_pos c5] at H
          have c5b0 : decide (a0 < 0) = true := decide_eq_true c5
          clear c5
          replace H := Option.bind_eq_some_iff.mp H
          obtain ⟨t107, A60, H⟩ := H
          replace H : ((metrolabref01_Turned.f t107).bind fun t108 => (some t108)) = some r := H
          have A6 := Aside0.mk A60
          clear A60
          replace H := Option.bind_eq_some_iff.mp H
          obtain ⟨t108, A70, H⟩ := H
          replace H : (some t108) = some r := H
          have A7 := Aside0.mk A70
          clear A70
          obtain rfl := Option.some.inj H
          go_wp2_with (first | ((with_reducible refine gate_callee (f := 31) rfl ?_); refine goesL_ (some 16) rfl rfl Tryz.func31 (by kernel_rfl) rfl #[.int .i64 (wrap64 (-a0))] rfl (by (try simp only [List.map_toArray, List.map_cons, List.map_nil]); first | done | rfl | (simp only [List.length_drop, List.length_take]; rfl)) ?_; (with_reducible refine (ih kj1 (by have := HJ1.out; omega) (wrap64 (-a0)) t107 _ A6.out).mono ?_); rintro e w8 ⟨rfl, hb⟩; refine ⟨_, rfl, ?_⟩; have n0_ := Aside0.mk (below_step (by repeat (first | (with_reducible first | exact HB.out | apply below_alloc | apply pw_below_drewN | apply below_drew1) | exact HB.out)) hb); clear HB; have HB := n0_; clear n0_; (try clear hb); (try clear hb2); (try clear hk); (try clear hi)) | ((with_reducible refine gate_callee (f := 64) rfl ?_); refine goesL_ (some 17) rfl rfl Tryz.func64 (by kernel_rfl) rfl #[.string t107] rfl (by (try simp only [List.map_toArray, List.map_cons, List.map_nil]); first | done | rfl | (simp only [List.length_drop, List.length_take]; rfl)) ?_; (with_reducible refine (metrolabref01_Turned.calls t107 t108 _ A7.out).mono ?_); rintro e w' ⟨rfl, ⟨nd, rfl⟩⟩; refine ⟨_, rfl, ?_⟩))
          go_ret
          exact ⟨by first | rfl | (simp [errW_none, errW_some] <;> rfl) | (simp [*, errW_none, errW_some] <;> rfl), by repeat (first | (with_reducible first | exact HB.out | apply below_alloc | apply pw_below_drewN | apply below_drew1) | exact HB.out)⟩
        · rw [if_neg c5] at H
          have c5b0 : decide (a0 < 0) = false := decide_eq_false c5
          clear c5
          have H' := Aside0.mk H
          clear H
          go_wp2
          go_loopg [0, 3] kj1 (fun kq v0 v3 w' => ∃ (x0_2 : Int) (x3_2 : ByteArray), v0 = .int .i64 x0_2 ∧ v3 = .string x3_2 ∧ Aside0 (metrolabref01_Of.l0 kq x0_2 x3_2 = some r) ∧ Aside0 (kq ≤ kj1) ∧ Aside0 (Below w.heap.size w w'))
          case atStart => exact ⟨(a0), ((⟨#[]⟩ : ByteArray)), (by first | rfl | exact congrArg Value.bool (not_empty _) | exact congrArg Value.bool (is_empty _) | (simp; done) | (simp [*]; done)), (by first | rfl | exact congrArg Value.bool (not_empty _) | exact congrArg Value.bool (is_empty _) | (simp; done) | (simp [*]; done)), H', ⟨Nat.le_refl _⟩, ⟨by repeat (first | (with_reducible first | exact HB.out | apply below_alloc | apply pw_below_drewN | apply below_drew1) | exact HB.out)⟩⟩
          case round =>
            clear H'
            try clear p2
            try clear c3
            try clear c3b0
            try clear c3b1
            try clear c4
            try clear c5
            try clear c5b0
            try clear c6
            try clear p6
            try clear p2
            obtain ⟨x0_2, x3_2, rfl, rfl, HA, HK2, HB⟩ := hrel
            cases gk with
            | zero => exact absurd HA.out (by simp [metrolabref01_Of.l0])
            | succ k2 =>
              have H := HA.out
              clear HA
              simp only [metrolabref01_Of.l0] at H
              by_cases c9 : x0_2 > 9
              · rw [if_pos c9] at H
                have c9b0 : decide (9 < x0_2) = true := decide_eq_true c9
                clear c9
                obtain ⟨y109, hy109⟩ : ∃ y_ : List Int, y_ = (([(wrap64 (48 + (Int.tmod x0_2 10))) % 256] : List Int)) := ⟨_, rfl⟩
                replace H : (if (strOfNums y109).size + x3_2.size ≤ 9223372036854775807 then (metrolabref01_Of.l0 k2 (wrap64 (Int.tdiv x0_2 10)) ((strOfNums y109) ++ x3_2)) else (none)) = some r := by first | (rw [hy109]; with_reducible exact H) | (have H2_ := (Option.bind_some _ _).symm.trans H; rw [hy109]; with_reducible exact H2_) | (have H2_ := (Option.bind_some _ _).symm.trans H; with_reducible exact H2_) | with_reducible exact H | (rw [hy109]; exact H) | exact H
                have Ny109 := Aside0.mk hy109
                clear hy109
                by_cases c10 : (strOfNums y109).size + x3_2.size ≤ 9223372036854775807
                · rw [if_pos c10] at H
                  have c10b0 := eq_true c10
                  have c10b1 : decide ((strOfNums y109).size + x3_2.size ≤ 9223372036854775807) = true := decide_eq_true c10
                  try have c10b2 : (9223372036854775807 < (strOfNums y109).size + x3_2.size) = False := eq_false (Nat.not_lt.2 c10)
                  have H' := Aside0.mk H
                  clear H
                  go_wp2_with (first | ((with_reducible refine gate_dst (N := 24) rfl ?_); refine Kd.R_lit (Kd.int .u8) _ 5 ?hg (N := 24) ?hd (xs := ([(wrap64 (48 + (Int.tmod x0_2 10))) % 256] : List Int)) (inner := [.int .u8 ((wrap64 (48 + (Int.tmod x0_2 10))) % 256)]) (ok := fun _ => True) (okp := fun _ => True) ?hr ?hp (fun _ hk => hk) trivial (Below.refl _ _) (Nat.le_refl _) (by simp) ?_; (case hd => rfl); (case hg => rfl); (case hr => first | (go_simp; done) | (go_simp; rfl)); (case hp => exact (Reps.one (show Kd.M (Kd.int .u8) _ _ _ ((wrap64 (48 + (Int.tmod x0_2 10))) % 256) [.int .u8 ((wrap64 (48 + (Int.tmod x0_2 10))) % 256)] from rfl) (Reps.none _ _))); intro v110 w11 ho12 hb hg_ hnew_; clear hg_ hnew_; (first | rw [← Ny109.out] at ho12 | (simp only [Int.reduceToNat] at ho12; rw [← Ny109.out] at ho12)); have n0_ := Aside0.mk (Kd.R_lower ho12 (below_size (by repeat (first | (with_reducible first | exact HB.out | apply below_alloc | apply pw_below_drewN | apply below_drew1) | exact HB.out)))); have n1_ := Aside0.mk (below_step (by repeat (first | (with_reducible first | exact HB.out | apply below_alloc | apply pw_below_drewN | apply below_drew1) | exact HB.out)) hb); clear HB; have HO111 := n0_; have HB := n1_; clear n0_ n1_; clear hb ho12; have hcv13 := own_string (P := Tryz.prog) Tryz.underlying88 Tryz.underlying5 Tryz.underlying9 (Kd.own_of_R HO111.out)))
                  go_roundg k2
                  case measure => have := HJ1.out; have := HK2.out; omega
                  case rel => exact ⟨(wrap64 (Int.tdiv x0_2 10)), ((strOfNums y109) ++ x3_2), (by first | rfl | exact congrArg Value.bool (not_empty _) | exact congrArg Value.bool (is_empty _) | (simp; done) | (simp [*]; done)), (by first | rfl | exact congrArg Value.bool (not_empty _) | exact congrArg Value.bool (is_empty _) | (simp; done) | (simp [*]; done)), H', ⟨by have := HJ1.out; have := HK2.out; omega⟩, ⟨by repeat (first | (with_reducible first | exact HB.out | apply below_alloc | apply pw_below_drewN | apply below_drew1) | exact HB.out)⟩⟩
                · rw [if_neg c10] at H
                  exact absurd H (by simp)
              · rw [if_neg c9] at H
                have c9b0 : decide (9 < x0_2) = false := decide_eq_false c9
                clear c9
                obtain ⟨y112, hy112⟩ : ∃ y_ : List Int, y_ = (([(wrap64 (48 + x0_2)) % 256] : List Int)) := ⟨_, rfl⟩
                replace H : (if (strOfNums y112).size + x3_2.size ≤ 9223372036854775807 then (some ((strOfNums y112) ++ x3_2)) else (none)) = some r := by first | (rw [hy112]; with_reducible exact H) | (have H2_ := (Option.bind_some _ _).symm.trans H; rw [hy112]; with_reducible exact H2_) | (have H2_ := (Option.bind_some _ _).symm.trans H; with_reducible exact H2_) | with_reducible exact H | (rw [hy112]; exact H) | exact H
                have Ny112 := Aside0.mk hy112
                clear hy112
                by_cases c14 : (strOfNums y112).size + x3_2.size ≤ 9223372036854775807
                · rw [if_pos c14] at H
                  have c14b0 := eq_true c14
                  have c14b1 : decide ((strOfNums y112).size + x3_2.size ≤ 9223372036854775807) = true := decide_eq_true c14
                  try have c14b2 : (9223372036854775807 < (strOfNums y112).size + x3_2.size) = False := eq_false (Nat.not_lt.2 c14)
                  obtain rfl := Option.some.inj H
                  go_wp2_with (first | ((with_reducible refine gate_dst (N := 33) rfl ?_); refine Kd.R_lit (Kd.int .u8) _ 5 ?hg (N := 33) ?hd (xs := ([(wrap64 (48 + x0_2)) % 256] : List Int)) (inner := [.int .u8 ((wrap64 (48 + x0_2)) % 256)]) (ok := fun _ => True) (okp := fun _ => True) ?hr ?hp (fun _ hk => hk) trivial (Below.refl _ _) (Nat.le_refl _) (by simp) ?_; (case hd => rfl); (case hg => rfl); (case hr => first | (go_simp; done) | (go_simp; rfl)); (case hp => exact (Reps.one (show Kd.M (Kd.int .u8) _ _ _ ((wrap64 (48 + x0_2)) % 256) [.int .u8 ((wrap64 (48 + x0_2)) % 256)] from rfl) (Reps.none _ _))); intro v113 w15 ho16 hb hg_ hnew_; clear hg_ hnew_; (first | rw [← Ny112.out] at ho16 | (simp only [Int.reduceToNat] at ho16; rw [← Ny112.out] at ho16)); have n0_ := Aside0.mk (Kd.R_lower ho16 (below_size (by repeat (first | (with_reducible first | exact HB.out | apply below_alloc | apply pw_below_drewN | apply below_drew1) | exact HB.out)))); have n1_ := Aside0.mk (below_step (by repeat (first | (with_reducible first | exact HB.out | apply below_alloc | apply pw_below_drewN | apply below_drew1) | exact HB.out)) hb); clear HB; have HO114 := n0_; have HB := n1_; clear n0_ n1_; clear hb ho16; have hcv17 := own_string (P := Tryz.prog) Tryz.underlying88 Tryz.underlying5 Tryz.underlying9 (Kd.own_of_R HO114.out)))
                  go_ret
                  exact ⟨by first | rfl | (simp [errW_none, errW_some] <;> rfl) | (simp [*, errW_none, errW_some] <;> rfl), by repeat (first | (with_reducible first | exact HB.out | apply below_alloc | apply pw_below_drewN | apply below_drew1) | exact HB.out)⟩
                · rw [if_neg c14] at H
                  exact absurd H (by simp)

end Go.Proofs.YtpkfnclbcmnckaaGreatDoor.ZP
