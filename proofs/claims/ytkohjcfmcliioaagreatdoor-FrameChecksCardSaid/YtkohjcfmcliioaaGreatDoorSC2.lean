/- A part of what the claim's last text leans on. -/
import Derived.Test.YtkohjcfmcliioaaGreatDoorSC1
import Derived.Lib.ConvBytes
import Derived.LoopTactic
import Derived.Deep.LoopGhost
import Derived.Shelf.SlicesQ.IndexFunc
import Derived.Laws.Rows
import Derived.Test.YtkohjcfmcliioaaGreatDoorProg
import Derived.Below
import Derived.Deep.Draws
import Derived.Deep.AppendLies
import Derived.Maps.AppendAt
import Derived.OwnWalk
import Derived.Laws.BytesArg
import Derived.Laws.MakeOwn
import Derived.Laws.OwnMore
import Derived.Deep.OwnRows
import Derived.Tactics
import Derived.Laws.Slices
import Derived.WalkKit
import Derived.KernelRfl
import Derived.RowKit3
import Derived.Deep.QuietTactic
import Derived.BigQuiet
import Derived.WideLaws
import Derived.Deep.DeepCutAuto
import Derived.Deep.CutBlock
import Derived.Deep.RegionHeld3
import Derived.Lib.AppendStr
import Derived.ArgAppend
import Derived.Laws.IdiomCopy
import Derived.OrdersHeld
import Derived.Laws.BitsLemmas
import Derived.RowKit
import Derived.WalkLawsBesides
namespace Go.Proofs.YtkohjcfmcliioaaGreatDoor.ZA
open Go.RowKit Go.Proofs.YtkohjcfmcliioaaGreatDoorW.PrintWords Go.Proofs.YtkohjcfmcliioaaGreatDoorW.PrintLast Go.Proofs.YtkohjcfmcliioaaGreatDoorW.PrintMore
attribute [local go_sem] max2_int min2_int max_two min_two max_three min_three max_four min_four   -- for this text's walks alone
set_option linter.unusedVariables false
set_option linter.unusedSimpArgs false
mutual
def metrolabref19_datums.l0 : Nat → List (S76) → Int → Option (Int)
  | 0, _, _ => none
  | k + 1, x0, x3 => if x3 < (x0.length : Int) then (if 0 ≤ x3 then ((metrolabref17_Name.f k ((rd_T76 x0 x3).f0)).bind fun t145 => (if t145 = 0 then (metrolabref19_datums.l1 k x0 x3 0) else (some t145))) else (none)) else (some 0)
def metrolabref19_datums.l1 : Nat → List (S76) → Int → Int → Option (Int)
  | 0, _, _, _ => none
  | k + 1, x0, x3, x5 => if x5 < x3 then (if 0 ≤ x5 then (if x5 < (x0.length : Int) then (if 0 ≤ x3 then (if x3 < (x0.length : Int) then (if ((rd_T76 x0 x5).f0).toList = ((rd_T76 x0 x3).f0).toList then (some 7) else (metrolabref19_datums.l1 k x0 x3 (wrap64 (x5 + 1)))) else (none)) else (none)) else (none)) else (none)) else (if 0 ≤ x3 then (if x3 < (x0.length : Int) then ((metrolabref19_material.f ((rd_T76 x0 x3).f1)).bind fun t149 => (if t149 = 0 then (metrolabref19_datums.l0 k x0 (wrap64 (x3 + 1))) else (some t149))) else (none)) else (none))
end
def metrolabref19_datums.f (k : Nat) (l0 : List (S76)) : Option (Int) := if (l0.length : Int) > 3 then (some 5) else (metrolabref19_datums.l0 k l0 0)
theorem metrolabref19_datums.mono_l : ∀ k, (∀ y0 y1, LeO (metrolabref19_datums.l0 k y0 y1) (metrolabref19_datums.l0 (k + 1) y0 y1)) ∧ (∀ y0 y1 y2, LeO (metrolabref19_datums.l1 k y0 y1 y2) (metrolabref19_datums.l1 (k + 1) y0 y1 y2))
  | 0 => ⟨fun _ _ r h => by simp [metrolabref19_datums.l0] at h, fun _ _ _ r h => by simp [metrolabref19_datums.l1] at h⟩
  | k + 1 => by
    obtain ⟨ih0, ih1⟩ := metrolabref19_datums.mono_l k
    refine ⟨?_, ?_⟩
    · intro y0 y1
      unfold metrolabref19_datums.l0
      repeat' first
      | (with_reducible exact ih0 _ _)
      | (with_reducible exact ih1 _ _ _)
      | (with_reducible exact metrolabref17_Name.mono _ _)
      | (with_reducible exact LeO.refl _)
      | (with_reducible exact LeO.none _)
      | (with_reducible refine LeO.ite ?_ ?_)
      | (with_reducible refine LeO.bind ?_ (fun _ => ?_))
      | exact ih0 _ _
      | exact ih1 _ _ _
      | exact metrolabref17_Name.mono _ _
      | exact LeO.none _
      | refine LeO.ite ?_ ?_
      | refine LeO.bind ?_ (fun _ => ?_)
    · intro y0 y1 y2
      unfold metrolabref19_datums.l1
      repeat' first
      | (with_reducible exact ih0 _ _)
      | (with_reducible exact ih1 _ _ _)
      | (with_reducible exact metrolabref17_Name.mono _ _)
      | (with_reducible exact LeO.refl _)
      | (with_reducible exact LeO.none _)
      | (with_reducible refine LeO.ite ?_ ?_)
      | (with_reducible refine LeO.bind ?_ (fun _ => ?_))
      | exact ih0 _ _
      | exact ih1 _ _ _
      | exact metrolabref17_Name.mono _ _
      | exact LeO.none _
      | refine LeO.ite ?_ ?_
      | refine LeO.bind ?_ (fun _ => ?_)
theorem metrolabref19_datums.mono : ∀ a0 k, LeO (metrolabref19_datums.f k a0) (metrolabref19_datums.f (k + 1) a0) := by
  intro a0 k
  obtain ⟨ih0, ih1⟩ := metrolabref19_datums.mono_l k
  unfold metrolabref19_datums.f
  repeat' first
      | (with_reducible exact ih0 _ _)
      | (with_reducible exact ih1 _ _ _)
      | (with_reducible exact metrolabref17_Name.mono _ _)
      | (with_reducible exact LeO.refl _)
      | (with_reducible exact LeO.none _)
      | (with_reducible refine LeO.ite ?_ ?_)
      | (with_reducible refine LeO.bind ?_ (fun _ => ?_))
      | exact ih0 _ _
      | exact ih1 _ _ _
      | exact metrolabref17_Name.mono _ _
      | exact LeO.none _
      | refine LeO.ite ?_ ?_
      | refine LeO.bind ?_ (fun _ => ?_)
set_option maxHeartbeats 8000000 in
set_option maxRecDepth 100000 in
theorem metrolabref19_datums.calls (k : Nat) (A0 : Option Addr) (c0 : Nat) (l0 : List (S76)) (r : Int) (w : World) (hr0 : Kd.C k76 w A0 l0.length l0) (hc0 : l0.length ≤ c0) (h : metrolabref19_datums.f k l0 = some r) :
    Calls Tryz.prog 51 #[.slice A0 l0.length c0] w fun e w' => e = .returned (.int .i64 r) ∧ Drawn0 w w' := by
  have HR0 := Aside0.mk hr0
  have HC0 := Aside0.mk hc0
  clear hr0 hc0
  have H : (if (l0.length : Int) > 3 then (some 5) else (metrolabref19_datums.l0 k l0 0)) = some r := h
  clear h
  by_cases c2 : (l0.length : Int) > 3
  · rw [if_pos c2] at H
    have c2b0 : decide (3 < (l0.length : Int)) = true := decide_eq_true c2
    have c2b1 : decide (3 < l0.length) = true := decide_eq_true (by omega)
    clear c2
    obtain rfl := Option.some.inj H
    go_enter Tryz.func51, Tryz.ntmps51
    go_wp2
    repeat (go_quiet (fail); try go_wp2)
    go_ret
    exact ⟨by first | rfl | (simp; done) | (simp [*]; done), by repeat (first | exact Drawn0.refl _ | apply Drawn0.step)⟩
  · rw [if_neg c2] at H
    have c2b0 : decide (3 < (l0.length : Int)) = false := decide_eq_false c2
    have c2b1 : decide (3 < l0.length) = false := decide_eq_false (by omega)
    clear c2
    have H' := Aside0.mk H
    clear H
    go_enter Tryz.func51, Tryz.ntmps51
    go_wp2
    repeat (go_quiet (fail); try go_wp2)
    go_loopg [3] k (fun kq v3 w' => ∃ (x3_1 : Int), v3 = .int .i64 x3_1 ∧ Aside0 (metrolabref19_datums.l0 kq l0 x3_1 = some r) ∧ Aside0 (kq ≤ k) ∧ Drawn0 w w')
    case atStart => exact ⟨(0), (by first | rfl | exact congrArg Value.bool (not_empty _) | exact congrArg Value.bool (is_empty _) | (simp; done) | (simp [*]; done)), H', ⟨Nat.le_refl _⟩, by repeat (first | exact Drawn0.refl _ | apply Drawn0.step)⟩
    case round =>
      clear H'
      try clear c2
      try clear c2b0
      try clear c2b1
      try clear p2
      obtain ⟨x3_1, rfl, HA, HK1, ⟨m1, rfl⟩⟩ := hrel
      cases gk with
      | zero => exact absurd HA.out (by simp [metrolabref19_datums.l0])
      | succ k1 =>
        have H := HA.out
        clear HA
        simp only [metrolabref19_datums.l0] at H
        by_cases c3 : x3_1 < (l0.length : Int)
        · rw [if_pos c3] at H
          have c3b0 : decide (x3_1 < (l0.length : Int)) = true := decide_eq_true c3
          clear c3
          by_cases c4 : 0 ≤ x3_1
          · rw [if_pos c4] at H
            have c4b0 : decide (0 ≤ x3_1) = true := decide_eq_true c4
            clear c4
            replace H := Option.bind_eq_some_iff.mp H
            obtain ⟨t145, A50, H⟩ := H
            replace H : (if t145 = 0 then (metrolabref19_datums.l1 k1 l0 x3_1 0) else (some t145)) = some r := H
            have A5 := Aside0.mk A50
            clear A50
            by_cases c6 : t145 = 0
            · rw [if_pos c6] at H
              have c6b0 : (t145 == 0) = true := beq_iff_eq.mpr c6
              have c6b1 : (t145 != 0) = false := bne_eq_false_iff_eq.mpr c6
              clear c6
              have H' := Aside0.mk H
              clear H
              have p144 : 0 ≤ (x3_1 : Int) := of_decide_eq_true (by first | (with_reducible assumption) | assumption)
              have q144 : x3_1 < (l0.length : Int) := of_decide_eq_true (by first | (with_reducible assumption) | assumption)
              obtain ⟨ad144, e144, hx144_0, hx144_1⟩ := at_T76 HR0.out x3_1 p144 q144
              cases e144
              replace p144 := eq_true p144
              replace q144 := eq_true q144
              go_wp2_with (first | (go_at_call 80; (with_reducible refine (metrolabref17_Name.calls k1 ((rd_T76 l0 x3_1).f0) t145 _ A5.out).mono ?_); rintro e w' ⟨rfl, ⟨nd, rfl⟩⟩; (try first | exact ⟨rfl, _, World.drewN_drewN _ _ _⟩ | exact ⟨rfl, _, Eq.trans (World.drewN_drewN _ _ _) (congrArg (World.drewN _) (Nat.add_assoc _ _ _))⟩)))
              repeat (go_quiet (first | (go_at_call 80; (with_reducible refine (metrolabref17_Name.calls k1 ((rd_T76 l0 x3_1).f0) t145 _ A5.out).mono ?_); rintro e w' ⟨rfl, ⟨nd, rfl⟩⟩; (try first | exact ⟨rfl, _, World.drewN_drewN _ _ _⟩ | exact ⟨rfl, _, Eq.trans (World.drewN_drewN _ _ _) (congrArg (World.drewN _) (Nat.add_assoc _ _ _))⟩))); try go_wp2_with (first | (go_at_call 80; (with_reducible refine (metrolabref17_Name.calls k1 ((rd_T76 l0 x3_1).f0) t145 _ A5.out).mono ?_); rintro e w' ⟨rfl, ⟨nd, rfl⟩⟩; (try first | exact ⟨rfl, _, World.drewN_drewN _ _ _⟩ | exact ⟨rfl, _, Eq.trans (World.drewN_drewN _ _ _) (congrArg (World.drewN _) (Nat.add_assoc _ _ _))⟩))))
              go_loopg [5] k1 (fun kq v5 w' => ∃ (x5_2 : Int), v5 = .int .i64 x5_2 ∧ Aside0 (metrolabref19_datums.l1 kq l0 x3_1 x5_2 = some r) ∧ Aside0 (kq ≤ k1) ∧ Drawn0 w w')
              case atStart => exact ⟨(0), (by first | rfl | exact congrArg Value.bool (not_empty _) | exact congrArg Value.bool (is_empty _) | (simp; done) | (simp [*]; done)), H', ⟨Nat.le_refl _⟩, by repeat (first | exact Drawn0.refl _ | apply Drawn0.step)⟩
              case round =>
                clear H'
                try clear p1
                try clear q1
                try clear hx1
                try clear c2
                try clear c2b0
                try clear c2b1
                try clear p2
                try clear c3
                try clear c3b0
                try clear c4
                try clear c4b0
                try clear c5
                try clear c6
                try clear c6b0
                try clear c6b1
                try clear hx144_0
                try clear hx144_1
                try clear p144
                try clear p2
                try clear q144
                obtain ⟨x5_2, rfl, HA, HK2, ⟨m2, rfl⟩⟩ := hrel
                cases gk with
                | zero => exact absurd HA.out (by simp [metrolabref19_datums.l1])
                | succ k2 =>
                  have H := HA.out
                  clear HA
                  simp only [metrolabref19_datums.l1] at H
                  by_cases c7 : x5_2 < x3_1
                  · rw [if_pos c7] at H
                    have c7b0 : decide (x5_2 < x3_1) = true := decide_eq_true c7
                    clear c7
                    by_cases c8 : 0 ≤ x5_2
                    · rw [if_pos c8] at H
                      have c8b0 : decide (0 ≤ x5_2) = true := decide_eq_true c8
                      clear c8
                      by_cases c9 : x5_2 < (l0.length : Int)
                      · rw [if_pos c9] at H
                        have c9b0 : decide (x5_2 < (l0.length : Int)) = true := decide_eq_true c9
                        clear c9
                        by_cases c10 : 0 ≤ x3_1
                        · rw [if_pos c10] at H
                          have c10b0 : decide (0 ≤ x3_1) = true := decide_eq_true c10
                          clear c10
                          by_cases c11 : x3_1 < (l0.length : Int)
                          · rw [if_pos c11] at H
                            have c11b0 : decide (x3_1 < (l0.length : Int)) = true := decide_eq_true c11
                            clear c11
                            by_cases c12 : ((rd_T76 l0 x5_2).f0).toList = ((rd_T76 l0 x3_1).f0).toList
                            · rw [if_pos c12] at H
                              have c12b0 : (((rd_T76 l0 x5_2).f0).toList == ((rd_T76 l0 x3_1).f0).toList) = true := beq_iff_eq.mpr c12
                              have c12b1 : (((rd_T76 l0 x5_2).f0).toList != ((rd_T76 l0 x3_1).f0).toList) = false := bne_eq_false_iff_eq.mpr c12
                              clear c12
                              obtain rfl := Option.some.inj H
                              have p146 : 0 ≤ (x5_2 : Int) := of_decide_eq_true (by first | (with_reducible assumption) | assumption)
                              have q146 : x5_2 < (l0.length : Int) := of_decide_eq_true (by first | (with_reducible assumption) | assumption)
                              obtain ⟨ad146, e146, hx146_0, hx146_1⟩ := at_T76 HR0.out x5_2 p146 q146
                              obtain rfl : ad144 = ad146 := (by injection e146)
                              replace p146 := eq_true p146
                              replace q146 := eq_true q146
                              have p147 : 0 ≤ (x3_1 : Int) := of_decide_eq_true (by first | (with_reducible assumption) | assumption)
                              have q147 : x3_1 < (l0.length : Int) := of_decide_eq_true (by first | (with_reducible assumption) | assumption)
                              obtain ⟨ad147, e147, hx147_0, hx147_1⟩ := at_T76 HR0.out x3_1 p147 q147
                              obtain rfl : ad144 = ad147 := (by injection e147)
                              replace p147 := eq_true p147
                              replace q147 := eq_true q147
                              go_wp2
                              repeat (go_quiet (fail); try go_wp2)
                              go_ret
                              exact ⟨by first | rfl | (simp; done) | (simp [*]; done), by repeat (first | exact Drawn0.refl _ | apply Drawn0.step)⟩
                            · rw [if_neg c12] at H
                              have c12b0 : (((rd_T76 l0 x5_2).f0).toList == ((rd_T76 l0 x3_1).f0).toList) = false := beq_eq_false_iff_ne.mpr c12
                              have c12b1 : (((rd_T76 l0 x5_2).f0).toList != ((rd_T76 l0 x3_1).f0).toList) = true := bne_iff_ne.mpr c12
                              have H' := Aside0.mk H
                              clear H
                              have p146 : 0 ≤ (x5_2 : Int) := of_decide_eq_true (by first | (with_reducible assumption) | assumption)
                              have q146 : x5_2 < (l0.length : Int) := of_decide_eq_true (by first | (with_reducible assumption) | assumption)
                              obtain ⟨ad146, e146, hx146_0, hx146_1⟩ := at_T76 HR0.out x5_2 p146 q146
                              obtain rfl : ad144 = ad146 := (by injection e146)
                              replace p146 := eq_true p146
                              replace q146 := eq_true q146
                              have p147 : 0 ≤ (x3_1 : Int) := of_decide_eq_true (by first | (with_reducible assumption) | assumption)
                              have q147 : x3_1 < (l0.length : Int) := of_decide_eq_true (by first | (with_reducible assumption) | assumption)
                              obtain ⟨ad147, e147, hx147_0, hx147_1⟩ := at_T76 HR0.out x3_1 p147 q147
                              obtain rfl : ad144 = ad147 := (by injection e147)
                              replace p147 := eq_true p147
                              replace q147 := eq_true q147
                              go_wp2
                              repeat (go_quiet (fail); try go_wp2)
                              go_roundg k2
                              case measure => have := HK1.out; have := HK2.out; omega
                              case rel => exact ⟨(wrap64 (x5_2 + 1)), (by first | rfl | exact congrArg Value.bool (not_empty _) | exact congrArg Value.bool (is_empty _) | (simp; done) | (simp [*]; done)), H', ⟨by have := HK1.out; have := HK2.out; omega⟩, by repeat (first | exact Drawn0.refl _ | apply Drawn0.step)⟩
                          · rw [if_neg c11] at H
                            exact absurd H (by simp)
                        · rw [if_neg c10] at H
                          exact absurd H (by simp)
                      · rw [if_neg c9] at H
                        exact absurd H (by simp)
                    · rw [if_neg c8] at H
                      exact absurd H (by simp)
                  · rw [if_neg c7] at H
                    have c7b0 : decide (x5_2 < x3_1) = false := decide_eq_false c7
                    clear c7
                    by_cases c13 : 0 ≤ x3_1
                    · rw [if_pos c13] at H
                      have c13b0 : decide (0 ≤ x3_1) = true := decide_eq_true c13
                      clear c13
                      by_cases c14 : x3_1 < (l0.length : Int)
                      · rw [if_pos c14] at H
                        have c14b0 : decide (x3_1 < (l0.length : Int)) = true := decide_eq_true c14
                        clear c14
                        replace H := Option.bind_eq_some_iff.mp H
                        obtain ⟨t149, A150, H⟩ := H
                        replace H : (if t149 = 0 then (metrolabref19_datums.l0 k2 l0 (wrap64 (x3_1 + 1))) else (some t149)) = some r := H
                        have A15 := Aside0.mk A150
                        clear A150
                        by_cases c16 : t149 = 0
                        · rw [if_pos c16] at H
                          have c16b0 : (t149 == 0) = true := beq_iff_eq.mpr c16
                          have c16b1 : (t149 != 0) = false := bne_eq_false_iff_eq.mpr c16
                          clear c16
                          have H' := Aside0.mk H
                          clear H
                          have p148 : 0 ≤ (x3_1 : Int) := of_decide_eq_true (by first | (with_reducible assumption) | assumption)
                          have q148 : x3_1 < (l0.length : Int) := of_decide_eq_true (by first | (with_reducible assumption) | assumption)
                          obtain ⟨ad148, e148, hx148_0, hx148_1⟩ := at_T76 HR0.out x3_1 p148 q148
                          obtain rfl : ad144 = ad148 := (by injection e148)
                          replace p148 := eq_true p148
                          replace q148 := eq_true q148
                          go_wp2_with (first | (go_at_call 50; (with_reducible refine (metrolabref19_material.calls ((rd_T76 l0 x3_1).f1) t149 _ A15.out).mono ?_); rintro e w' ⟨rfl, ⟨nd, rfl⟩⟩; (try first | exact ⟨rfl, _, World.drewN_drewN _ _ _⟩ | exact ⟨rfl, _, Eq.trans (World.drewN_drewN _ _ _) (congrArg (World.drewN _) (Nat.add_assoc _ _ _))⟩)))
                          repeat (go_quiet (first | (go_at_call 50; (with_reducible refine (metrolabref19_material.calls ((rd_T76 l0 x3_1).f1) t149 _ A15.out).mono ?_); rintro e w' ⟨rfl, ⟨nd, rfl⟩⟩; (try first | exact ⟨rfl, _, World.drewN_drewN _ _ _⟩ | exact ⟨rfl, _, Eq.trans (World.drewN_drewN _ _ _) (congrArg (World.drewN _) (Nat.add_assoc _ _ _))⟩))); try go_wp2_with (first | (go_at_call 50; (with_reducible refine (metrolabref19_material.calls ((rd_T76 l0 x3_1).f1) t149 _ A15.out).mono ?_); rintro e w' ⟨rfl, ⟨nd, rfl⟩⟩; (try first | exact ⟨rfl, _, World.drewN_drewN _ _ _⟩ | exact ⟨rfl, _, Eq.trans (World.drewN_drewN _ _ _) (congrArg (World.drewN _) (Nat.add_assoc _ _ _))⟩))))
                          go_roundg k2
                          case measure => have := HK1.out; have := HK2.out; omega
                          case rel => exact ⟨(wrap64 (x3_1 + 1)), (by first | rfl | exact congrArg Value.bool (not_empty _) | exact congrArg Value.bool (is_empty _) | (simp; done) | (simp [*]; done)), H', ⟨by have := HK1.out; have := HK2.out; omega⟩, by repeat (first | exact Drawn0.refl _ | apply Drawn0.step)⟩
                        · rw [if_neg c16] at H
                          have c16b0 : (t149 == 0) = false := beq_eq_false_iff_ne.mpr c16
                          have c16b1 : (t149 != 0) = true := bne_iff_ne.mpr c16
                          obtain rfl := Option.some.inj H
                          have p148 : 0 ≤ (x3_1 : Int) := of_decide_eq_true (by first | (with_reducible assumption) | assumption)
                          have q148 : x3_1 < (l0.length : Int) := of_decide_eq_true (by first | (with_reducible assumption) | assumption)
                          obtain ⟨ad148, e148, hx148_0, hx148_1⟩ := at_T76 HR0.out x3_1 p148 q148
                          obtain rfl : ad144 = ad148 := (by injection e148)
                          replace p148 := eq_true p148
                          replace q148 := eq_true q148
                          go_wp2_with (first | (go_at_call 50; (with_reducible refine (metrolabref19_material.calls ((rd_T76 l0 x3_1).f1) t149 _ A15.out).mono ?_); rintro e w' ⟨rfl, ⟨nd, rfl⟩⟩; (try first | exact ⟨rfl, _, World.drewN_drewN _ _ _⟩ | exact ⟨rfl, _, Eq.trans (World.drewN_drewN _ _ _) (congrArg (World.drewN _) (Nat.add_assoc _ _ _))⟩)))
                          repeat (go_quiet (first | (go_at_call 50; (with_reducible refine (metrolabref19_material.calls ((rd_T76 l0 x3_1).f1) t149 _ A15.out).mono ?_); rintro e w' ⟨rfl, ⟨nd, rfl⟩⟩; (try first | exact ⟨rfl, _, World.drewN_drewN _ _ _⟩ | exact ⟨rfl, _, Eq.trans (World.drewN_drewN _ _ _) (congrArg (World.drewN _) (Nat.add_assoc _ _ _))⟩))); try go_wp2_with (first | (go_at_call 50; (with_reducible refine (metrolabref19_material.calls ((rd_T76 l0 x3_1).f1) t149 _ A15.out).mono ?_); rintro e w' ⟨rfl, ⟨nd, rfl⟩⟩; (try first | exact ⟨rfl, _, World.drewN_drewN _ _ _⟩ | exact ⟨rfl, _, Eq.trans (World.drewN_drewN _ _ _) (congrArg (World.drewN _) (Nat.add_assoc _ _ _))⟩))))
                          go_ret
                          exact ⟨by first | rfl | (simp; done) | (simp [*]; done), by repeat (first | exact Drawn0.refl _ | apply Drawn0.step)⟩
                      · rw [if_neg c14] at H
                        exact absurd H (by simp)
                    · rw [if_neg c13] at H
                      exact absurd H (by simp)
            · rw [if_neg c6] at H
              have c6b0 : (t145 == 0) = false := beq_eq_false_iff_ne.mpr c6
              have c6b1 : (t145 != 0) = true := bne_iff_ne.mpr c6
              obtain rfl := Option.some.inj H
              have p144 : 0 ≤ (x3_1 : Int) := of_decide_eq_true (by first | (with_reducible assumption) | assumption)
              have q144 : x3_1 < (l0.length : Int) := of_decide_eq_true (by first | (with_reducible assumption) | assumption)
              obtain ⟨ad144, e144, hx144_0, hx144_1⟩ := at_T76 HR0.out x3_1 p144 q144
              cases e144
              replace p144 := eq_true p144
              replace q144 := eq_true q144
              go_wp2_with (first | (go_at_call 80; (with_reducible refine (metrolabref17_Name.calls k1 ((rd_T76 l0 x3_1).f0) t145 _ A5.out).mono ?_); rintro e w' ⟨rfl, ⟨nd, rfl⟩⟩; (try first | exact ⟨rfl, _, World.drewN_drewN _ _ _⟩ | exact ⟨rfl, _, Eq.trans (World.drewN_drewN _ _ _) (congrArg (World.drewN _) (Nat.add_assoc _ _ _))⟩)))
              repeat (go_quiet (first | (go_at_call 80; (with_reducible refine (metrolabref17_Name.calls k1 ((rd_T76 l0 x3_1).f0) t145 _ A5.out).mono ?_); rintro e w' ⟨rfl, ⟨nd, rfl⟩⟩; (try first | exact ⟨rfl, _, World.drewN_drewN _ _ _⟩ | exact ⟨rfl, _, Eq.trans (World.drewN_drewN _ _ _) (congrArg (World.drewN _) (Nat.add_assoc _ _ _))⟩))); try go_wp2_with (first | (go_at_call 80; (with_reducible refine (metrolabref17_Name.calls k1 ((rd_T76 l0 x3_1).f0) t145 _ A5.out).mono ?_); rintro e w' ⟨rfl, ⟨nd, rfl⟩⟩; (try first | exact ⟨rfl, _, World.drewN_drewN _ _ _⟩ | exact ⟨rfl, _, Eq.trans (World.drewN_drewN _ _ _) (congrArg (World.drewN _) (Nat.add_assoc _ _ _))⟩))))
              go_ret
              exact ⟨by first | rfl | (simp; done) | (simp [*]; done), by repeat (first | exact Drawn0.refl _ | apply Drawn0.step)⟩
          · rw [if_neg c4] at H
            exact absurd H (by simp)
        · rw [if_neg c3] at H
          have c3b0 : decide (x3_1 < (l0.length : Int)) = false := decide_eq_false c3
          clear c3
          obtain rfl := Option.some.inj H
          go_wp2
          repeat (go_quiet (fail); try go_wp2)
          go_ret
          exact ⟨by first | rfl | (simp; done) | (simp [*]; done), by repeat (first | exact Drawn0.refl _ | apply Drawn0.step)⟩
def metrolabref19_Plain.j0 : Nat → Bool → Int → Bool → Int → Int → List (S76) → Option (Int)
  | 0, _, _, _, _, _, _ => none
  | k + 1, x11, x151000, x151001, x151002, x151003, x151004 => if x11 = true then (some 1) else ((metrolabref19_material.f x151003).bind fun t151 => (if t151 = 0 then (if x151002 < 0 then (some 2) else (if x151002 > 100000 then (some 2) else ((metrolabref19_datums.f k x151004).bind fun t152 => (some t152)))) else (some t151)))
def metrolabref19_Plain.f (k : Nat) (a0_0 : Int) (a0_1 : Bool) (a0_2 : Int) (a0_3 : Int) (l0_4 : List (S76)) : Option (Int) := if a0_0 < 0 then (metrolabref19_Plain.j0 k true a0_0 a0_1 a0_2 a0_3 l0_4) else (metrolabref19_Plain.j0 k (decide (a0_0 ≥ 9)) a0_0 a0_1 a0_2 a0_3 l0_4)
theorem metrolabref19_Plain.mono_l : ∀ k, (∀ y0 y1 y2 y3 y4 y5, LeO (metrolabref19_Plain.j0 k y0 y1 y2 y3 y4 y5) (metrolabref19_Plain.j0 (k + 1) y0 y1 y2 y3 y4 y5))
  | 0 => fun _ _ _ _ _ _ r h => by simp [metrolabref19_Plain.j0] at h
  | k + 1 => by
    have ih0 := metrolabref19_Plain.mono_l k
    · intro y0 y1 y2 y3 y4 y5
      unfold metrolabref19_Plain.j0
      repeat' first
      | (with_reducible exact ih0 _ _ _ _ _ _)
      | (with_reducible exact metrolabref19_datums.mono _ _)
      | (with_reducible exact LeO.refl _)
      | (with_reducible exact LeO.none _)
      | (with_reducible refine LeO.ite ?_ ?_)
      | (with_reducible refine LeO.bind ?_ (fun _ => ?_))
      | exact ih0 _ _ _ _ _ _
      | exact metrolabref19_datums.mono _ _
      | exact LeO.none _
      | refine LeO.ite ?_ ?_
      | refine LeO.bind ?_ (fun _ => ?_)
theorem metrolabref19_Plain.mono : ∀ a0 a1 a2 a3 a4 k, LeO (metrolabref19_Plain.f k a0 a1 a2 a3 a4) (metrolabref19_Plain.f (k + 1) a0 a1 a2 a3 a4) := by
  intro a0 a1 a2 a3 a4 k
  have ih0 := metrolabref19_Plain.mono_l k
  unfold metrolabref19_Plain.f
  repeat' first
      | (with_reducible exact ih0 _ _ _ _ _ _)
      | (with_reducible exact metrolabref19_datums.mono _ _)
      | (with_reducible exact LeO.refl _)
      | (with_reducible exact LeO.none _)
      | (with_reducible refine LeO.ite ?_ ?_)
      | (with_reducible refine LeO.bind ?_ (fun _ => ?_))
      | exact ih0 _ _ _ _ _ _
      | exact metrolabref19_datums.mono _ _
      | exact LeO.none _
      | refine LeO.ite ?_ ?_
      | refine LeO.bind ?_ (fun _ => ?_)
set_option maxHeartbeats 8000000 in
set_option maxRecDepth 100000 in
theorem metrolabref19_Plain.calls (k : Nat) (a0_0 : Int) (a0_1 : Bool) (a0_2 : Int) (a0_3 : Int) (A0_4 : Option Addr) (c0_4 : Nat) (l0_4 : List (S76)) (r : Int) (w : World) (hr0_4 : Kd.C k76 w A0_4 l0_4.length l0_4) (hc0_4 : l0_4.length ≤ c0_4) (h : metrolabref19_Plain.f k a0_0 a0_1 a0_2 a0_3 l0_4 = some r) :
    Calls Tryz.prog 16 #[.agg #[.int .i64 a0_0, .bool a0_1, .int .i64 a0_2, .int .i64 a0_3, .slice A0_4 l0_4.length c0_4]] w fun e w' => e = .returned (.int .i64 r) ∧ Below w.heap.size w w' := by
  have hu31 := Tryz.underlying31
  have HR0_4 := Aside0.mk hr0_4
  have HC0_4 := Aside0.mk hc0_4
  clear hr0_4 hc0_4
  have HB := Aside0.mk (Below.refl w.heap.size w)
  have H : (if a0_0 < 0 then (metrolabref19_Plain.j0 k true a0_0 a0_1 a0_2 a0_3 l0_4) else (metrolabref19_Plain.j0 k (decide (a0_0 ≥ 9)) a0_0 a0_1 a0_2 a0_3 l0_4)) = some r := h
  clear h
  have HC2 := Aside0.mk H
  clear H
  go_enter Tryz.func16, Tryz.ntmps16
  go_upto_region 1 with (first | ((with_reducible refine gate_dst (N := 1) rfl ?_); refine box_event ?hg (N := 1) ?hd (cs := #[.int .i64 a0_0, .bool a0_1, .int .i64 a0_2, .int .i64 a0_3, .slice A0_4 l0_4.length c0_4]) (t := 31) ?hr ?_; (case hd => rfl); (case hg => rfl); (case hr => first | (go_simp; done) | (go_simp; rfl)); intro gb150 hg w3 hbox hb; have n0_ := Aside0.mk (below_step (by repeat (first | (with_reducible first | exact HB.out | apply below_alloc | apply pw_below_drewN | apply below_drew1) | exact HB.out)) hb); have n1_ := Aside0.mk (hbox); have n2_ := Aside0.mk ((by rw [hg]; exact (below_size (by repeat (first | (with_reducible first | exact HB.out | apply below_alloc | apply pw_below_drewN | apply below_drew1) | exact HB.out))) : w.heap.size ≤ gb150)); have n3_ := Aside0.mk ((by rw [hg]; exact (below_size (by repeat (first | (with_reducible first | exact HB.out | apply below_alloc | apply pw_below_drewN | apply below_drew1) | exact HB.out))) : w.heap.size ≤ gb150)); clear HB; have HB := n0_; have BK150 := n1_; have GW150 := n2_; have GE150 := n3_; clear n0_ n1_ n2_ n3_; clear hb hbox hg))
  (try simp only [Act.put, List.setIfInBounds_toArray, List.set_cons_zero, List.set_cons_succ])
  go_cut [11] (fun v11 wc => ∃ (kq : Nat) (x11_1 : Bool), v11 = .bool x11_1 ∧ Aside0 (metrolabref19_Plain.j0 kq x11_1 a0_0 a0_1 a0_2 a0_3 l0_4 = some r) ∧ Aside0 (kq ≤ k) ∧ Aside0 (wc.heap[gb150]? = some (.cells #[.int .i64 a0_0, .bool a0_1, .int .i64 a0_2, .int .i64 a0_3, (.slice A0_4 l0_4.length c0_4)] 31 (0, 0))) ∧ Aside0 (Below w.heap.size w wc))
  case first =>
    have H := HC2.out
    clear HC2
    by_cases c4 : a0_0 < 0
    · rw [if_pos c4] at H
      have c4b0 : decide (a0_0 < 0) = true := decide_eq_true c4
      clear c4
      (first | rw [c4b0] | (simp only [i64_w, i32_w]; rw [c4b0]) | skip)
      have H' := Aside0.mk H
      clear H
      have hcz5_0 : w3.cell? ⟨gb150, 0, none⟩ = some (.int .i64 a0_0) := (blk_cell BK150.out 0).trans rfl
      have hcz5_1 : w3.cell? ⟨gb150, 1, none⟩ = some (.bool a0_1) := (blk_cell BK150.out 1).trans rfl
      have hcz5_2 : w3.cell? ⟨gb150, 2, none⟩ = some (.int .i64 a0_2) := (blk_cell BK150.out 2).trans rfl
      have hcz5_3 : w3.cell? ⟨gb150, 3, none⟩ = some (.int .i64 a0_3) := (blk_cell BK150.out 3).trans rfl
      have hcz5_4 : w3.cell? ⟨gb150, 4, none⟩ = some (.slice A0_4 l0_4.length c0_4) := (blk_cell BK150.out 4).trans rfl
      have hfz5_0 := blk_frozen BK150.out 0
      have hfz5_1 := blk_frozen BK150.out 1
      have hfz5_2 := blk_frozen BK150.out 2
      have hfz5_3 := blk_frozen BK150.out 3
      have hfz5_4 := blk_frozen BK150.out 4
      go_wp2
      go_meet
      case rel => exact ⟨_, (true), (by first | rfl | exact congrArg Value.bool (not_empty _) | exact congrArg Value.bool (is_empty _) | (simp; done) | (simp [*]; done)), H', ⟨by first | omega | exact Nat.le_refl _⟩, ⟨by (with_reducible repeat (first | refine blk_drewN ?_ _ | refine blk_drew ?_ | refine blk_alloc ?_ _)); exact BK150.out⟩, ⟨by repeat (first | (with_reducible first | exact HB.out | apply below_alloc | apply pw_below_drewN | apply below_drew1 | refine below_set ?_ GE150.out) | exact HB.out)⟩⟩
    · rw [if_neg c4] at H
      have c4b0 : decide (a0_0 < 0) = false := decide_eq_false c4
      clear c4
      (first | rw [c4b0] | (simp only [i64_w, i32_w]; rw [c4b0]) | skip)
      have H' := Aside0.mk H
      clear H
      have hcz6_0 : w3.cell? ⟨gb150, 0, none⟩ = some (.int .i64 a0_0) := (blk_cell BK150.out 0).trans rfl
      have hcz6_1 : w3.cell? ⟨gb150, 1, none⟩ = some (.bool a0_1) := (blk_cell BK150.out 1).trans rfl
      have hcz6_2 : w3.cell? ⟨gb150, 2, none⟩ = some (.int .i64 a0_2) := (blk_cell BK150.out 2).trans rfl
      have hcz6_3 : w3.cell? ⟨gb150, 3, none⟩ = some (.int .i64 a0_3) := (blk_cell BK150.out 3).trans rfl
      have hcz6_4 : w3.cell? ⟨gb150, 4, none⟩ = some (.slice A0_4 l0_4.length c0_4) := (blk_cell BK150.out 4).trans rfl
      have hfz6_0 := blk_frozen BK150.out 0
      have hfz6_1 := blk_frozen BK150.out 1
      have hfz6_2 := blk_frozen BK150.out 2
      have hfz6_3 := blk_frozen BK150.out 3
      have hfz6_4 := blk_frozen BK150.out 4
      go_wp2
      go_meet
      case rel => exact ⟨_, (decide (a0_0 ≥ 9)), (by first | rfl | exact congrArg Value.bool (not_empty _) | exact congrArg Value.bool (is_empty _) | (simp; done) | (simp [*]; done)), H', ⟨by first | omega | exact Nat.le_refl _⟩, ⟨by (with_reducible repeat (first | refine blk_drewN ?_ _ | refine blk_drew ?_ | refine blk_alloc ?_ _)); exact BK150.out⟩, ⟨by repeat (first | (with_reducible first | exact HB.out | apply below_alloc | apply pw_below_drewN | apply below_drew1 | refine below_set ?_ GE150.out) | exact HB.out)⟩⟩
  case rest =>
    clear HC2
    try clear c1
    try clear p2
    try clear c4
    try clear c4b0
    try clear hcz5_0
    try clear hcz5_1
    try clear hcz5_2
    try clear hcz5_3
    try clear hcz5_4
    try clear hcz6_0
    try clear hcz6_1
    try clear hcz6_2
    try clear hcz6_3
    try clear hcz6_4
    try clear hfz5_0
    try clear hfz5_1
    try clear hfz5_2
    try clear hfz5_3
    try clear hfz5_4
    try clear hfz6_0
    try clear hfz6_1
    try clear hfz6_2
    try clear hfz6_3
    try clear hfz6_4
    obtain ⟨kq, x11_1, rfl, HA, HJ1, BK150, HB⟩ := hcut
    cases kq with
    | zero => exact absurd HA.out (by simp [metrolabref19_Plain.j0])
    | succ kj1 =>
      have H := HA.out
      clear HA
      simp only [metrolabref19_Plain.j0] at H
      by_cases c7 : x11_1 = true
      · subst c7
        have H1 : (some 1) = some r := by rw [if_pos rfl] at H; exact H
        clear H
        have H := H1
        clear H1
        obtain rfl := Option.some.inj H
        go_wp2
        go_ret
        exact ⟨by first | rfl | (simp [errW_none, errW_some] <;> rfl) | (simp [*, errW_none, errW_some] <;> rfl), by repeat (first | (with_reducible first | exact HB.out | apply below_alloc | apply pw_below_drewN | apply below_drew1 | refine below_set ?_ GE150.out) | exact HB.out)⟩
      · replace c7 := Bool.eq_false_iff.mpr c7
        subst c7
        have H1 : ((metrolabref19_material.f a0_3).bind fun t151 => (if t151 = 0 then (if a0_2 < 0 then (some 2) else (if a0_2 > 100000 then (some 2) else ((metrolabref19_datums.f kj1 l0_4).bind fun t152 => (some t152)))) else (some t151))) = some r := by rw [if_neg (show ¬ (false = true) by decide)] at H; exact H
        clear H
        have H := H1
        clear H1
        replace H := Option.bind_eq_some_iff.mp H
        obtain ⟨t151, A80, H⟩ := H
        replace H : (if t151 = 0 then (if a0_2 < 0 then (some 2) else (if a0_2 > 100000 then (some 2) else ((metrolabref19_datums.f kj1 l0_4).bind fun t152 => (some t152)))) else (some t151)) = some r := H
        have A8 := Aside0.mk A80
        clear A80
        by_cases c9 : t151 = 0
        · rw [if_pos c9] at H
          have c9b0 : (t151 == 0) = true := beq_iff_eq.mpr c9
          have c9b1 : (t151 != 0) = false := bne_eq_false_iff_eq.mpr c9
          clear c9
          by_cases c10 : a0_2 < 0
          · rw [if_pos c10] at H
            have c10b0 : decide (a0_2 < 0) = true := decide_eq_true c10
            clear c10
            obtain rfl := Option.some.inj H
            have hcz11_0 : wc.cell? ⟨gb150, 0, none⟩ = some (.int .i64 a0_0) := (blk_cell BK150.out 0).trans rfl
            have hcz11_1 : wc.cell? ⟨gb150, 1, none⟩ = some (.bool a0_1) := (blk_cell BK150.out 1).trans rfl
            have hcz11_2 : wc.cell? ⟨gb150, 2, none⟩ = some (.int .i64 a0_2) := (blk_cell BK150.out 2).trans rfl
            have hcz11_3 : wc.cell? ⟨gb150, 3, none⟩ = some (.int .i64 a0_3) := (blk_cell BK150.out 3).trans rfl
            have hcz11_4 : wc.cell? ⟨gb150, 4, none⟩ = some (.slice A0_4 l0_4.length c0_4) := (blk_cell BK150.out 4).trans rfl
            have hfz11_0 := blk_frozen BK150.out 0
            have hfz11_1 := blk_frozen BK150.out 1
            have hfz11_2 := blk_frozen BK150.out 2
            have hfz11_3 := blk_frozen BK150.out 3
            have hfz11_4 := blk_frozen BK150.out 4
            go_wp2_with (first | ((with_reducible refine gate_callee (f := 50) rfl ?_); refine goesL_ (some 14) rfl rfl Tryz.func50 (by kernel_rfl) rfl #[.int .i64 a0_3] rfl (by (try simp only [List.map_toArray, List.map_cons, List.map_nil]); first | done | rfl | (simp only [List.length_drop, List.length_take]; rfl)) ?_; (with_reducible refine (metrolabref19_material.calls a0_3 t151 _ A8.out).mono ?_); rintro e w' ⟨rfl, ⟨nd, rfl⟩⟩; refine ⟨_, rfl, ?_⟩))
            go_ret
            exact ⟨by first | rfl | (simp [errW_none, errW_some] <;> rfl) | (simp [*, errW_none, errW_some] <;> rfl), by repeat (first | (with_reducible first | exact HB.out | apply below_alloc | apply pw_below_drewN | apply below_drew1 | refine below_set ?_ GE150.out) | exact HB.out)⟩
          · rw [if_neg c10] at H
            have c10b0 : decide (a0_2 < 0) = false := decide_eq_false c10
            clear c10
            by_cases c12 : a0_2 > 100000
            · rw [if_pos c12] at H
              have c12b0 : decide (100000 < a0_2) = true := decide_eq_true c12
              clear c12
              obtain rfl := Option.some.inj H
              have hcz13_0 : wc.cell? ⟨gb150, 0, none⟩ = some (.int .i64 a0_0) := (blk_cell BK150.out 0).trans rfl
              have hcz13_1 : wc.cell? ⟨gb150, 1, none⟩ = some (.bool a0_1) := (blk_cell BK150.out 1).trans rfl
              have hcz13_2 : wc.cell? ⟨gb150, 2, none⟩ = some (.int .i64 a0_2) := (blk_cell BK150.out 2).trans rfl
              have hcz13_3 : wc.cell? ⟨gb150, 3, none⟩ = some (.int .i64 a0_3) := (blk_cell BK150.out 3).trans rfl
              have hcz13_4 : wc.cell? ⟨gb150, 4, none⟩ = some (.slice A0_4 l0_4.length c0_4) := (blk_cell BK150.out 4).trans rfl
              have hfz13_0 := blk_frozen BK150.out 0
              have hfz13_1 := blk_frozen BK150.out 1
              have hfz13_2 := blk_frozen BK150.out 2
              have hfz13_3 := blk_frozen BK150.out 3
              have hfz13_4 := blk_frozen BK150.out 4
              go_wp2_with (first | ((with_reducible refine gate_callee (f := 50) rfl ?_); refine goesL_ (some 14) rfl rfl Tryz.func50 (by kernel_rfl) rfl #[.int .i64 a0_3] rfl (by (try simp only [List.map_toArray, List.map_cons, List.map_nil]); first | done | rfl | (simp only [List.length_drop, List.length_take]; rfl)) ?_; (with_reducible refine (metrolabref19_material.calls a0_3 t151 _ A8.out).mono ?_); rintro e w' ⟨rfl, ⟨nd, rfl⟩⟩; refine ⟨_, rfl, ?_⟩))
              go_ret
              exact ⟨by first | rfl | (simp [errW_none, errW_some] <;> rfl) | (simp [*, errW_none, errW_some] <;> rfl), by repeat (first | (with_reducible first | exact HB.out | apply below_alloc | apply pw_below_drewN | apply below_drew1 | refine below_set ?_ GE150.out) | exact HB.out)⟩
            · rw [if_neg c12] at H
              have c12b0 : decide (100000 < a0_2) = false := decide_eq_false c12
              clear c12
              replace H := Option.bind_eq_some_iff.mp H
              obtain ⟨t152, A140, H⟩ := H
              replace H : (some t152) = some r := H
              have A14 := Aside0.mk A140
              clear A140
              obtain rfl := Option.some.inj H
              have hcz15_0 : wc.cell? ⟨gb150, 0, none⟩ = some (.int .i64 a0_0) := (blk_cell BK150.out 0).trans rfl
              have hcz15_1 : wc.cell? ⟨gb150, 1, none⟩ = some (.bool a0_1) := (blk_cell BK150.out 1).trans rfl
              have hcz15_2 : wc.cell? ⟨gb150, 2, none⟩ = some (.int .i64 a0_2) := (blk_cell BK150.out 2).trans rfl
              have hcz15_3 : wc.cell? ⟨gb150, 3, none⟩ = some (.int .i64 a0_3) := (blk_cell BK150.out 3).trans rfl
              have hcz15_4 : wc.cell? ⟨gb150, 4, none⟩ = some (.slice A0_4 l0_4.length c0_4) := (blk_cell BK150.out 4).trans rfl
              have hfz15_0 := blk_frozen BK150.out 0
              have hfz15_1 := blk_frozen BK150.out 1
              have hfz15_2 := blk_frozen BK150.out 2
              have hfz15_3 := blk_frozen BK150.out 3
              have hfz15_4 := blk_frozen BK150.out 4
              go_wp2_with (first | ((with_reducible refine gate_callee (f := 50) rfl ?_); refine goesL_ (some 14) rfl rfl Tryz.func50 (by kernel_rfl) rfl #[.int .i64 a0_3] rfl (by (try simp only [List.map_toArray, List.map_cons, List.map_nil]); first | done | rfl | (simp only [List.length_drop, List.length_take]; rfl)) ?_; (with_reducible refine (metrolabref19_material.calls a0_3 t151 _ A8.out).mono ?_); rintro e w' ⟨rfl, ⟨nd, rfl⟩⟩; refine ⟨_, rfl, ?_⟩) | ((with_reducible refine gate_callee (f := 51) rfl ?_); refine goesL_ (some 28) rfl rfl Tryz.func51 (by kernel_rfl) rfl #[.slice A0_4 l0_4.length c0_4] rfl (by (try simp only [List.map_toArray, List.map_cons, List.map_nil]); first | done | rfl | (simp only [List.length_drop, List.length_take]; rfl)) ?_; (with_reducible refine (metrolabref19_datums.calls kj1 _ _ l0_4 t152 _ ?side1 ?side2 A14.out).mono ?_); (case side1 => repeat (first | exact (Kd.C_below HR0_4.out (by repeat (first | (with_reducible first | exact HB.out | apply below_alloc | apply pw_below_drewN | apply below_drew1 | refine below_set ?_ GE150.out) | exact HB.out))) | (with_reducible refine Kd.C_alloc ?_ _) | (with_reducible refine Kd.C_drewN ?_ _) | (with_reducible refine Kd.C_drew ?_))); (case side2 => exact HC0_4.out); rintro e w' ⟨rfl, ⟨nd, rfl⟩⟩; refine ⟨_, rfl, ?_⟩))
              go_ret
              exact ⟨by first | rfl | (simp [errW_none, errW_some] <;> rfl) | (simp [*, errW_none, errW_some] <;> rfl), by repeat (first | (with_reducible first | exact HB.out | apply below_alloc | apply pw_below_drewN | apply below_drew1 | refine below_set ?_ GE150.out) | exact HB.out)⟩
        · rw [if_neg c9] at H
          have c9b0 : (t151 == 0) = false := beq_eq_false_iff_ne.mpr c9
          have c9b1 : (t151 != 0) = true := bne_iff_ne.mpr c9
          obtain rfl := Option.some.inj H
          have hcz16_0 : wc.cell? ⟨gb150, 0, none⟩ = some (.int .i64 a0_0) := (blk_cell BK150.out 0).trans rfl
          have hcz16_1 : wc.cell? ⟨gb150, 1, none⟩ = some (.bool a0_1) := (blk_cell BK150.out 1).trans rfl
          have hcz16_2 : wc.cell? ⟨gb150, 2, none⟩ = some (.int .i64 a0_2) := (blk_cell BK150.out 2).trans rfl
          have hcz16_3 : wc.cell? ⟨gb150, 3, none⟩ = some (.int .i64 a0_3) := (blk_cell BK150.out 3).trans rfl
          have hcz16_4 : wc.cell? ⟨gb150, 4, none⟩ = some (.slice A0_4 l0_4.length c0_4) := (blk_cell BK150.out 4).trans rfl
          have hfz16_0 := blk_frozen BK150.out 0
          have hfz16_1 := blk_frozen BK150.out 1
          have hfz16_2 := blk_frozen BK150.out 2
          have hfz16_3 := blk_frozen BK150.out 3
          have hfz16_4 := blk_frozen BK150.out 4
          go_wp2_with (first | ((with_reducible refine gate_callee (f := 50) rfl ?_); refine goesL_ (some 14) rfl rfl Tryz.func50 (by kernel_rfl) rfl #[.int .i64 a0_3] rfl (by (try simp only [List.map_toArray, List.map_cons, List.map_nil]); first | done | rfl | (simp only [List.length_drop, List.length_take]; rfl)) ?_; (with_reducible refine (metrolabref19_material.calls a0_3 t151 _ A8.out).mono ?_); rintro e w' ⟨rfl, ⟨nd, rfl⟩⟩; refine ⟨_, rfl, ?_⟩))
          go_ret
          exact ⟨by first | rfl | (simp [errW_none, errW_some] <;> rfl) | (simp [*, errW_none, errW_some] <;> rfl), by repeat (first | (with_reducible first | exact HB.out | apply below_alloc | apply pw_below_drewN | apply below_drew1 | refine below_set ?_ GE150.out) | exact HB.out)⟩
def metrolabref19_Rows.f  : Option ((List (S124))) := some (([(⟨(⟨#[115, 116, 114, 97, 105, 103, 104, 116]⟩ : ByteArray), (⟨#[72, 73]⟩ : ByteArray), 0, 0, (⟨#[72, 73]⟩ : ByteArray)⟩ : S124), (⟨(⟨#[102, 108, 97, 116]⟩ : ByteArray), (⟨#[80, 83]⟩ : ByteArray), 0, 0, (⟨#[]⟩ : ByteArray)⟩ : S124), (⟨(⟨#[112, 97, 114, 97, 108, 108, 101, 108]⟩ : ByteArray), (⟨#[80, 72, 73, 83]⟩ : ByteArray), 1, 2, (⟨#[72, 73]⟩ : ByteArray)⟩ : S124), (⟨(⟨#[115, 113, 117, 97, 114, 101]⟩ : ByteArray), (⟨#[80, 72, 73, 83]⟩ : ByteArray), 1, 2, (⟨#[72, 73]⟩ : ByteArray)⟩ : S124), (⟨(⟨#[114, 111, 117, 110, 100]⟩ : ByteArray), (⟨#[72, 73, 66]⟩ : ByteArray), 0, 0, (⟨#[]⟩ : ByteArray)⟩ : S124), (⟨(⟨#[115, 112, 104, 101, 114, 101]⟩ : ByteArray), (⟨#[66]⟩ : ByteArray), 0, 0, (⟨#[]⟩ : ByteArray)⟩ : S124), (⟨(⟨#[112, 114, 111, 102, 105, 108, 101]⟩ : ByteArray), (⟨#[80]⟩ : ByteArray), 0, 3, (⟨#[]⟩ : ByteArray)⟩ : S124), (⟨(⟨#[114, 117, 110, 111, 117, 116]⟩ : ByteArray), (⟨#[80, 72, 73]⟩ : ByteArray), 1, 1, (⟨#[]⟩ : ByteArray)⟩ : S124), (⟨(⟨#[112, 111, 115, 105, 116, 105, 111, 110]⟩ : ByteArray), (⟨#[80, 72, 73, 83, 66]⟩ : ByteArray), 0, 3, (⟨#[72, 73, 66]⟩ : ByteArray)⟩ : S124)] : List (S124)))
set_option maxHeartbeats 8000000 in
set_option maxRecDepth 100000 in
theorem metrolabref19_Rows.calls  (r : List (S124)) (w : World) (h : metrolabref19_Rows.f  = some r) :
    Calls Tryz.prog 83 #[] w fun e w' => ∃ v0_ : Value, e = .returned (v0_) ∧ Kd.R k124 124 w' w.heap.size (fun _ => True) v0_ r ∧ Below w.heap.size w w' := by
  have hu124 := Tryz.underlying124
  have HB := Aside0.mk (Below.refl w.heap.size w)
  have H : (some (([(⟨(⟨#[115, 116, 114, 97, 105, 103, 104, 116]⟩ : ByteArray), (⟨#[72, 73]⟩ : ByteArray), 0, 0, (⟨#[72, 73]⟩ : ByteArray)⟩ : S124), (⟨(⟨#[102, 108, 97, 116]⟩ : ByteArray), (⟨#[80, 83]⟩ : ByteArray), 0, 0, (⟨#[]⟩ : ByteArray)⟩ : S124), (⟨(⟨#[112, 97, 114, 97, 108, 108, 101, 108]⟩ : ByteArray), (⟨#[80, 72, 73, 83]⟩ : ByteArray), 1, 2, (⟨#[72, 73]⟩ : ByteArray)⟩ : S124), (⟨(⟨#[115, 113, 117, 97, 114, 101]⟩ : ByteArray), (⟨#[80, 72, 73, 83]⟩ : ByteArray), 1, 2, (⟨#[72, 73]⟩ : ByteArray)⟩ : S124), (⟨(⟨#[114, 111, 117, 110, 100]⟩ : ByteArray), (⟨#[72, 73, 66]⟩ : ByteArray), 0, 0, (⟨#[]⟩ : ByteArray)⟩ : S124), (⟨(⟨#[115, 112, 104, 101, 114, 101]⟩ : ByteArray), (⟨#[66]⟩ : ByteArray), 0, 0, (⟨#[]⟩ : ByteArray)⟩ : S124), (⟨(⟨#[112, 114, 111, 102, 105, 108, 101]⟩ : ByteArray), (⟨#[80]⟩ : ByteArray), 0, 3, (⟨#[]⟩ : ByteArray)⟩ : S124), (⟨(⟨#[114, 117, 110, 111, 117, 116]⟩ : ByteArray), (⟨#[80, 72, 73]⟩ : ByteArray), 1, 1, (⟨#[]⟩ : ByteArray)⟩ : S124), (⟨(⟨#[112, 111, 115, 105, 116, 105, 111, 110]⟩ : ByteArray), (⟨#[80, 72, 73, 83, 66]⟩ : ByteArray), 0, 3, (⟨#[72, 73, 66]⟩ : ByteArray)⟩ : S124)] : List (S124)))) = some r := h
  clear h
  obtain ⟨y153, hy153⟩ : ∃ y_ : List (S124), y_ = (([(⟨(⟨#[115, 116, 114, 97, 105, 103, 104, 116]⟩ : ByteArray), (⟨#[72, 73]⟩ : ByteArray), 0, 0, (⟨#[72, 73]⟩ : ByteArray)⟩ : S124), (⟨(⟨#[102, 108, 97, 116]⟩ : ByteArray), (⟨#[80, 83]⟩ : ByteArray), 0, 0, (⟨#[]⟩ : ByteArray)⟩ : S124), (⟨(⟨#[112, 97, 114, 97, 108, 108, 101, 108]⟩ : ByteArray), (⟨#[80, 72, 73, 83]⟩ : ByteArray), 1, 2, (⟨#[72, 73]⟩ : ByteArray)⟩ : S124), (⟨(⟨#[115, 113, 117, 97, 114, 101]⟩ : ByteArray), (⟨#[80, 72, 73, 83]⟩ : ByteArray), 1, 2, (⟨#[72, 73]⟩ : ByteArray)⟩ : S124), (⟨(⟨#[114, 111, 117, 110, 100]⟩ : ByteArray), (⟨#[72, 73, 66]⟩ : ByteArray), 0, 0, (⟨#[]⟩ : ByteArray)⟩ : S124), (⟨(⟨#[115, 112, 104, 101, 114, 101]⟩ : ByteArray), (⟨#[66]⟩ : ByteArray), 0, 0, (⟨#[]⟩ : ByteArray)⟩ : S124), (⟨(⟨#[112, 114, 111, 102, 105, 108, 101]⟩ : ByteArray), (⟨#[80]⟩ : ByteArray), 0, 3, (⟨#[]⟩ : ByteArray)⟩ : S124), (⟨(⟨#[114, 117, 110, 111, 117, 116]⟩ : ByteArray), (⟨#[80, 72, 73]⟩ : ByteArray), 1, 1, (⟨#[]⟩ : ByteArray)⟩ : S124), (⟨(⟨#[112, 111, 115, 105, 116, 105, 111, 110]⟩ : ByteArray), (⟨#[80, 72, 73, 83, 66]⟩ : ByteArray), 0, 3, (⟨#[72, 73, 66]⟩ : ByteArray)⟩ : S124)] : List (S124))) := ⟨_, rfl⟩
  replace H : (some y153) = some r := by first | (rw [hy153]; with_reducible exact H) | (have H2_ := (Option.bind_some _ _).symm.trans H; rw [hy153]; with_reducible exact H2_) | (have H2_ := (Option.bind_some _ _).symm.trans H; with_reducible exact H2_) | with_reducible exact H | (rw [hy153]; exact H) | exact H
  have Ny153 := Aside0.mk hy153
  clear hy153
  obtain rfl := Option.some.inj H
  go_enter Tryz.func83, Tryz.ntmps83
  go_wp2_with (first | ((with_reducible refine gate_dst (N := 10) rfl ?_); refine Kd.R_lit k124 _ 124 ?hg (N := 10) ?hd (xs := ([(⟨(⟨#[115, 116, 114, 97, 105, 103, 104, 116]⟩ : ByteArray), (⟨#[72, 73]⟩ : ByteArray), 0, 0, (⟨#[72, 73]⟩ : ByteArray)⟩ : S124), (⟨(⟨#[102, 108, 97, 116]⟩ : ByteArray), (⟨#[80, 83]⟩ : ByteArray), 0, 0, (⟨#[]⟩ : ByteArray)⟩ : S124), (⟨(⟨#[112, 97, 114, 97, 108, 108, 101, 108]⟩ : ByteArray), (⟨#[80, 72, 73, 83]⟩ : ByteArray), 1, 2, (⟨#[72, 73]⟩ : ByteArray)⟩ : S124), (⟨(⟨#[115, 113, 117, 97, 114, 101]⟩ : ByteArray), (⟨#[80, 72, 73, 83]⟩ : ByteArray), 1, 2, (⟨#[72, 73]⟩ : ByteArray)⟩ : S124), (⟨(⟨#[114, 111, 117, 110, 100]⟩ : ByteArray), (⟨#[72, 73, 66]⟩ : ByteArray), 0, 0, (⟨#[]⟩ : ByteArray)⟩ : S124), (⟨(⟨#[115, 112, 104, 101, 114, 101]⟩ : ByteArray), (⟨#[66]⟩ : ByteArray), 0, 0, (⟨#[]⟩ : ByteArray)⟩ : S124), (⟨(⟨#[112, 114, 111, 102, 105, 108, 101]⟩ : ByteArray), (⟨#[80]⟩ : ByteArray), 0, 3, (⟨#[]⟩ : ByteArray)⟩ : S124), (⟨(⟨#[114, 117, 110, 111, 117, 116]⟩ : ByteArray), (⟨#[80, 72, 73]⟩ : ByteArray), 1, 1, (⟨#[]⟩ : ByteArray)⟩ : S124), (⟨(⟨#[112, 111, 115, 105, 116, 105, 111, 110]⟩ : ByteArray), (⟨#[80, 72, 73, 83, 66]⟩ : ByteArray), 0, 3, (⟨#[72, 73, 66]⟩ : ByteArray)⟩ : S124)] : List (S124))) (inner := [.string (⟨#[115, 116, 114, 97, 105, 103, 104, 116]⟩ : ByteArray), .string (⟨#[72, 73]⟩ : ByteArray), .int .i64 0, .int .i64 0, .string (⟨#[72, 73]⟩ : ByteArray), .string (⟨#[102, 108, 97, 116]⟩ : ByteArray), .string (⟨#[80, 83]⟩ : ByteArray), .int .i64 0, .int .i64 0, .string (⟨#[]⟩ : ByteArray), .string (⟨#[112, 97, 114, 97, 108, 108, 101, 108]⟩ : ByteArray), .string (⟨#[80, 72, 73, 83]⟩ : ByteArray), .int .i64 1, .int .i64 2, .string (⟨#[72, 73]⟩ : ByteArray), .string (⟨#[115, 113, 117, 97, 114, 101]⟩ : ByteArray), .string (⟨#[80, 72, 73, 83]⟩ : ByteArray), .int .i64 1, .int .i64 2, .string (⟨#[72, 73]⟩ : ByteArray), .string (⟨#[114, 111, 117, 110, 100]⟩ : ByteArray), .string (⟨#[72, 73, 66]⟩ : ByteArray), .int .i64 0, .int .i64 0, .string (⟨#[]⟩ : ByteArray), .string (⟨#[115, 112, 104, 101, 114, 101]⟩ : ByteArray), .string (⟨#[66]⟩ : ByteArray), .int .i64 0, .int .i64 0, .string (⟨#[]⟩ : ByteArray), .string (⟨#[112, 114, 111, 102, 105, 108, 101]⟩ : ByteArray), .string (⟨#[80]⟩ : ByteArray), .int .i64 0, .int .i64 3, .string (⟨#[]⟩ : ByteArray), .string (⟨#[114, 117, 110, 111, 117, 116]⟩ : ByteArray), .string (⟨#[80, 72, 73]⟩ : ByteArray), .int .i64 1, .int .i64 1, .string (⟨#[]⟩ : ByteArray), .string (⟨#[112, 111, 115, 105, 116, 105, 111, 110]⟩ : ByteArray), .string (⟨#[80, 72, 73, 83, 66]⟩ : ByteArray), .int .i64 0, .int .i64 3, .string (⟨#[72, 73, 66]⟩ : ByteArray)]) (ok := fun _ => True) (okp := fun _ => True) ?hr ?hp (fun _ hk => hk) trivial (Below.refl _ _) (Nat.le_refl _) (by simp) ?_; (case hd => rfl); (case hg => rfl); (case hr => first | (go_simp; done) | (go_simp; rfl)); (case hp => exact (Reps.c5 (show Kd.M k124 _ _ _ (⟨(⟨#[115, 116, 114, 97, 105, 103, 104, 116]⟩ : ByteArray), (⟨#[72, 73]⟩ : ByteArray), 0, 0, (⟨#[72, 73]⟩ : ByteArray)⟩ : S124) [.string (⟨#[115, 116, 114, 97, 105, 103, 104, 116]⟩ : ByteArray), .string (⟨#[72, 73]⟩ : ByteArray), .int .i64 0, .int .i64 0, .string (⟨#[72, 73]⟩ : ByteArray)] from (k124_mkM _ _ _ (⟨(⟨#[115, 116, 114, 97, 105, 103, 104, 116]⟩ : ByteArray), (⟨#[72, 73]⟩ : ByteArray), 0, 0, (⟨#[72, 73]⟩ : ByteArray)⟩ : S124) )) (Reps.c5 (show Kd.M k124 _ _ _ (⟨(⟨#[102, 108, 97, 116]⟩ : ByteArray), (⟨#[80, 83]⟩ : ByteArray), 0, 0, (⟨#[]⟩ : ByteArray)⟩ : S124) [.string (⟨#[102, 108, 97, 116]⟩ : ByteArray), .string (⟨#[80, 83]⟩ : ByteArray), .int .i64 0, .int .i64 0, .string (⟨#[]⟩ : ByteArray)] from (k124_mkM _ _ _ (⟨(⟨#[102, 108, 97, 116]⟩ : ByteArray), (⟨#[80, 83]⟩ : ByteArray), 0, 0, (⟨#[]⟩ : ByteArray)⟩ : S124) )) (Reps.c5 (show Kd.M k124 _ _ _ (⟨(⟨#[112, 97, 114, 97, 108, 108, 101, 108]⟩ : ByteArray), (⟨#[80, 72, 73, 83]⟩ : ByteArray), 1, 2, (⟨#[72, 73]⟩ : ByteArray)⟩ : S124) [.string (⟨#[112, 97, 114, 97, 108, 108, 101, 108]⟩ : ByteArray), .string (⟨#[80, 72, 73, 83]⟩ : ByteArray), .int .i64 1, .int .i64 2, .string (⟨#[72, 73]⟩ : ByteArray)] from (k124_mkM _ _ _ (⟨(⟨#[112, 97, 114, 97, 108, 108, 101, 108]⟩ : ByteArray), (⟨#[80, 72, 73, 83]⟩ : ByteArray), 1, 2, (⟨#[72, 73]⟩ : ByteArray)⟩ : S124) )) (Reps.c5 (show Kd.M k124 _ _ _ (⟨(⟨#[115, 113, 117, 97, 114, 101]⟩ : ByteArray), (⟨#[80, 72, 73, 83]⟩ : ByteArray), 1, 2, (⟨#[72, 73]⟩ : ByteArray)⟩ : S124) [.string (⟨#[115, 113, 117, 97, 114, 101]⟩ : ByteArray), .string (⟨#[80, 72, 73, 83]⟩ : ByteArray), .int .i64 1, .int .i64 2, .string (⟨#[72, 73]⟩ : ByteArray)] from (k124_mkM _ _ _ (⟨(⟨#[115, 113, 117, 97, 114, 101]⟩ : ByteArray), (⟨#[80, 72, 73, 83]⟩ : ByteArray), 1, 2, (⟨#[72, 73]⟩ : ByteArray)⟩ : S124) )) (Reps.c5 (show Kd.M k124 _ _ _ (⟨(⟨#[114, 111, 117, 110, 100]⟩ : ByteArray), (⟨#[72, 73, 66]⟩ : ByteArray), 0, 0, (⟨#[]⟩ : ByteArray)⟩ : S124) [.string (⟨#[114, 111, 117, 110, 100]⟩ : ByteArray), .string (⟨#[72, 73, 66]⟩ : ByteArray), .int .i64 0, .int .i64 0, .string (⟨#[]⟩ : ByteArray)] from (k124_mkM _ _ _ (⟨(⟨#[114, 111, 117, 110, 100]⟩ : ByteArray), (⟨#[72, 73, 66]⟩ : ByteArray), 0, 0, (⟨#[]⟩ : ByteArray)⟩ : S124) )) (Reps.c5 (show Kd.M k124 _ _ _ (⟨(⟨#[115, 112, 104, 101, 114, 101]⟩ : ByteArray), (⟨#[66]⟩ : ByteArray), 0, 0, (⟨#[]⟩ : ByteArray)⟩ : S124) [.string (⟨#[115, 112, 104, 101, 114, 101]⟩ : ByteArray), .string (⟨#[66]⟩ : ByteArray), .int .i64 0, .int .i64 0, .string (⟨#[]⟩ : ByteArray)] from (k124_mkM _ _ _ (⟨(⟨#[115, 112, 104, 101, 114, 101]⟩ : ByteArray), (⟨#[66]⟩ : ByteArray), 0, 0, (⟨#[]⟩ : ByteArray)⟩ : S124) )) (Reps.c5 (show Kd.M k124 _ _ _ (⟨(⟨#[112, 114, 111, 102, 105, 108, 101]⟩ : ByteArray), (⟨#[80]⟩ : ByteArray), 0, 3, (⟨#[]⟩ : ByteArray)⟩ : S124) [.string (⟨#[112, 114, 111, 102, 105, 108, 101]⟩ : ByteArray), .string (⟨#[80]⟩ : ByteArray), .int .i64 0, .int .i64 3, .string (⟨#[]⟩ : ByteArray)] from (k124_mkM _ _ _ (⟨(⟨#[112, 114, 111, 102, 105, 108, 101]⟩ : ByteArray), (⟨#[80]⟩ : ByteArray), 0, 3, (⟨#[]⟩ : ByteArray)⟩ : S124) )) (Reps.c5 (show Kd.M k124 _ _ _ (⟨(⟨#[114, 117, 110, 111, 117, 116]⟩ : ByteArray), (⟨#[80, 72, 73]⟩ : ByteArray), 1, 1, (⟨#[]⟩ : ByteArray)⟩ : S124) [.string (⟨#[114, 117, 110, 111, 117, 116]⟩ : ByteArray), .string (⟨#[80, 72, 73]⟩ : ByteArray), .int .i64 1, .int .i64 1, .string (⟨#[]⟩ : ByteArray)] from (k124_mkM _ _ _ (⟨(⟨#[114, 117, 110, 111, 117, 116]⟩ : ByteArray), (⟨#[80, 72, 73]⟩ : ByteArray), 1, 1, (⟨#[]⟩ : ByteArray)⟩ : S124) )) (Reps.c5 (show Kd.M k124 _ _ _ (⟨(⟨#[112, 111, 115, 105, 116, 105, 111, 110]⟩ : ByteArray), (⟨#[80, 72, 73, 83, 66]⟩ : ByteArray), 0, 3, (⟨#[72, 73, 66]⟩ : ByteArray)⟩ : S124) [.string (⟨#[112, 111, 115, 105, 116, 105, 111, 110]⟩ : ByteArray), .string (⟨#[80, 72, 73, 83, 66]⟩ : ByteArray), .int .i64 0, .int .i64 3, .string (⟨#[72, 73, 66]⟩ : ByteArray)] from (k124_mkM _ _ _ (⟨(⟨#[112, 111, 115, 105, 116, 105, 111, 110]⟩ : ByteArray), (⟨#[80, 72, 73, 83, 66]⟩ : ByteArray), 0, 3, (⟨#[72, 73, 66]⟩ : ByteArray)⟩ : S124) )) (Reps.none _ _))))))))))); intro v154 w1 ho2 hb hg_ hnew_; clear hg_ hnew_; (first | rw [← Ny153.out] at ho2 | (simp only [Int.reduceToNat] at ho2; rw [← Ny153.out] at ho2)); have n0_ := Aside0.mk (Kd.R_lower ho2 (below_size (by repeat (first | (with_reducible first | exact HB.out | apply below_alloc | apply pw_below_drewN | apply below_drew1) | exact HB.out)))); have n1_ := Aside0.mk (below_step (by repeat (first | (with_reducible first | exact HB.out | apply below_alloc | apply pw_below_drewN | apply below_drew1) | exact HB.out)) hb); clear HB; have HO155 := n0_; have HB := n1_; clear n0_ n1_; clear hb ho2))
  go_ret
  exact ⟨_, by first | rfl | (simp [errW_none, errW_some] <;> rfl) | (simp [*, errW_none, errW_some] <;> rfl), by (with_reducible repeat (first | apply Kd.R_alloc | apply Kd.R_drewN | apply Kd.R_drew)); exact HO155.out, by repeat (first | (with_reducible first | exact HB.out | apply below_alloc | apply pw_below_drewN | apply below_drew1) | exact HB.out)⟩
def metrolabref19_has.l0 : Nat → ByteArray → Int → Int → Option (Bool)
  | 0, _, _, _ => none
  | k + 1, x0, x1, x5 => if x5 < (x0.size : Int) then (if 0 ≤ x5 then (if 0 ≤ x1 then (if x1 < 5 then (if (bt x0 x5) = (bt (⟨#[80, 72, 73, 83, 66]⟩ : ByteArray) x1) then (some true) else (metrolabref19_has.l0 k x0 x1 (wrap64 (x5 + 1)))) else (none)) else (none)) else (none)) else (some false)
def metrolabref19_has.f (k : Nat) (a0 : ByteArray) (a1 : Int) : Option (Bool) := metrolabref19_has.l0 k a0 a1 0
theorem metrolabref19_has.mono_l : ∀ k, (∀ y0 y1 y2, LeO (metrolabref19_has.l0 k y0 y1 y2) (metrolabref19_has.l0 (k + 1) y0 y1 y2))
  | 0 => fun _ _ _ r h => by simp [metrolabref19_has.l0] at h
  | k + 1 => by
    have ih0 := metrolabref19_has.mono_l k
    · intro y0 y1 y2
      unfold metrolabref19_has.l0
      repeat' first
      | (with_reducible exact ih0 _ _ _)
      | (with_reducible exact LeO.refl _)
      | (with_reducible exact LeO.none _)
      | (with_reducible refine LeO.ite ?_ ?_)
      | (with_reducible refine LeO.bind ?_ (fun _ => ?_))
      | exact ih0 _ _ _
      | exact LeO.none _
      | refine LeO.ite ?_ ?_
      | refine LeO.bind ?_ (fun _ => ?_)
theorem metrolabref19_has.mono : ∀ a0 a1 k, LeO (metrolabref19_has.f k a0 a1) (metrolabref19_has.f (k + 1) a0 a1) := by
  intro a0 a1 k
  have ih0 := metrolabref19_has.mono_l k
  unfold metrolabref19_has.f
  repeat' first
      | (with_reducible exact ih0 _ _ _)
      | (with_reducible exact LeO.refl _)
      | (with_reducible exact LeO.none _)
      | (with_reducible refine LeO.ite ?_ ?_)
      | (with_reducible refine LeO.bind ?_ (fun _ => ?_))
      | exact ih0 _ _ _
      | exact LeO.none _
      | refine LeO.ite ?_ ?_
      | refine LeO.bind ?_ (fun _ => ?_)
set_option maxHeartbeats 8000000 in
set_option maxRecDepth 100000 in
theorem metrolabref19_has.calls (k : Nat) (a0 : ByteArray) (a1 : Int) (r : Bool) (w : World) (h : metrolabref19_has.f k a0 a1 = some r) :
    Calls Tryz.prog 84 #[.string a0, .int .i64 a1] w fun e w' => e = .returned (.bool r) ∧ Drawn0 w w' := by
  have H : (metrolabref19_has.l0 k a0 a1 0) = some r := h
  clear h
  have H' := Aside0.mk H
  clear H
  go_enter Tryz.func84, Tryz.ntmps84
  go_wp2
  repeat (go_quiet (fail); try go_wp2)
  go_loopg [5] k (fun kq v5 w' => ∃ (x5_1 : Int), v5 = .int .i64 x5_1 ∧ Aside0 (metrolabref19_has.l0 kq a0 a1 x5_1 = some r) ∧ Aside0 (kq ≤ k) ∧ Drawn0 w w')
  case atStart => exact ⟨(0), (by first | rfl | exact congrArg Value.bool (not_empty _) | exact congrArg Value.bool (is_empty _) | (simp; done) | (simp [*]; done)), H', ⟨Nat.le_refl _⟩, by repeat (first | exact Drawn0.refl _ | apply Drawn0.step)⟩
  case round =>
    clear H'
    try clear p2
    obtain ⟨x5_1, rfl, HA, HK1, ⟨m1, rfl⟩⟩ := hrel
    cases gk with
    | zero => exact absurd HA.out (by simp [metrolabref19_has.l0])
    | succ k1 =>
      have H := HA.out
      clear HA
      simp only [metrolabref19_has.l0] at H
      by_cases c3 : x5_1 < (a0.size : Int)
      · rw [if_pos c3] at H
        have c3b0 : decide (x5_1 < (a0.size : Int)) = true := decide_eq_true c3
        clear c3
        by_cases c4 : 0 ≤ x5_1
        · rw [if_pos c4] at H
          have c4b0 : decide (0 ≤ x5_1) = true := decide_eq_true c4
          clear c4
          by_cases c6 : 0 ≤ a1
          · rw [if_pos c6] at H
            have c6b0 : decide (0 ≤ a1) = true := decide_eq_true c6
            clear c6
            by_cases c7 : a1 < 5
            · rw [if_pos c7] at H
              have c7b0 : decide (a1 < 5) = true := decide_eq_true c7
              clear c7
              by_cases c9 : (bt a0 x5_1) = (bt (⟨#[80, 72, 73, 83, 66]⟩ : ByteArray) a1)
              · rw [if_pos c9] at H
                have c9b0 : ((bt a0 x5_1) == (bt (⟨#[80, 72, 73, 83, 66]⟩ : ByteArray) a1)) = true := beq_iff_eq.mpr c9
                have c9b1 : ((bt a0 x5_1) != (bt (⟨#[80, 72, 73, 83, 66]⟩ : ByteArray) a1)) = false := bne_eq_false_iff_eq.mpr c9
                clear c9
                obtain rfl := Option.some.inj H
                have p5 : 0 ≤ (x5_1 : Int) := of_decide_eq_true (by first | (with_reducible assumption) | assumption)
                have q5 : x5_1 < (a0.size : Int) := of_decide_eq_true (by first | (with_reducible assumption) | assumption)
                have hx5 := bt_at a0 x5_1
                replace p5 := eq_true p5
                replace q5 := eq_true q5
                have p8 : 0 ≤ (a1 : Int) := of_decide_eq_true (by first | (with_reducible assumption) | assumption)
                have q8 : a1 < (5 : Int) := of_decide_eq_true (by first | (with_reducible assumption) | assumption)
                have hx8 := bt_at (⟨#[80, 72, 73, 83, 66]⟩ : ByteArray) a1
                replace p8 := eq_true p8
                replace q8 := eq_true q8
                go_wp2
                repeat (go_quiet (fail); try go_wp2)
                go_ret
                exact ⟨by first | rfl | (simp; done) | (simp [*]; done), by repeat (first | exact Drawn0.refl _ | apply Drawn0.step)⟩
              · rw [if_neg c9] at H
                have c9b0 : ((bt a0 x5_1) == (bt (⟨#[80, 72, 73, 83, 66]⟩ : ByteArray) a1)) = false := beq_eq_false_iff_ne.mpr c9
                have c9b1 : ((bt a0 x5_1) != (bt (⟨#[80, 72, 73, 83, 66]⟩ : ByteArray) a1)) = true := bne_iff_ne.mpr c9
                have H' := Aside0.mk H
                clear H
                have p5 : 0 ≤ (x5_1 : Int) := of_decide_eq_true (by first | (with_reducible assumption) | assumption)
                have q5 : x5_1 < (a0.size : Int) := of_decide_eq_true (by first | (with_reducible assumption) | assumption)
                have hx5 := bt_at a0 x5_1
                replace p5 := eq_true p5
                replace q5 := eq_true q5
                have p8 : 0 ≤ (a1 : Int) := of_decide_eq_true (by first | (with_reducible assumption) | assumption)
                have q8 : a1 < (5 : Int) := of_decide_eq_true (by first | (with_reducible assumption) | assumption)
                have hx8 := bt_at (⟨#[80, 72, 73, 83, 66]⟩ : ByteArray) a1
                replace p8 := eq_true p8
                replace q8 := eq_true q8
                go_wp2
                repeat (go_quiet (fail); try go_wp2)
                go_roundg k1
                case measure => have := HK1.out; omega
                case rel => exact ⟨(wrap64 (x5_1 + 1)), (by first | rfl | exact congrArg Value.bool (not_empty _) | exact congrArg Value.bool (is_empty _) | (simp; done) | (simp [*]; done)), H', ⟨by have := HK1.out; omega⟩, by repeat (first | exact Drawn0.refl _ | apply Drawn0.step)⟩
            · rw [if_neg c7] at H
              exact absurd H (by simp)
          · rw [if_neg c6] at H
            exact absurd H (by simp)
        · rw [if_neg c4] at H
          exact absurd H (by simp)
      · rw [if_neg c3] at H
        have c3b0 : decide (x5_1 < (a0.size : Int)) = false := decide_eq_false c3
        clear c3
        obtain rfl := Option.some.inj H
        go_wp2
        repeat (go_quiet (fail); try go_wp2)
        go_ret
        exact ⟨by first | rfl | (simp; done) | (simp [*]; done), by repeat (first | exact Drawn0.refl _ | apply Drawn0.step)⟩
def metrolabref19_mayMaterial.f (a0_0 : ByteArray) (a0_1 : Int) (a0_2 : Int) (a0_3 : Int) (a0_4 : Int) (a0_5 : Int) (a0_6 : Int) (a0_7 : Int) (l0_8 : List (S31)) (a1 : Int) : Option (Bool) := if a0_1 = 0 then (some false) else (if a1 = 0 then (some true) else (if a1 = 2 then (some true) else (if a1 = 3 then (some true) else (some (a1 == 8)))))
set_option maxHeartbeats 8000000 in
set_option maxRecDepth 100000 in
theorem metrolabref19_mayMaterial.calls (a0_0 : ByteArray) (a0_1 : Int) (a0_2 : Int) (a0_3 : Int) (a0_4 : Int) (a0_5 : Int) (a0_6 : Int) (a0_7 : Int) (A0_8 : Option Addr) (c0_8 : Nat) (l0_8 : List (S31)) (a1 : Int) (r : Bool) (w : World) (hr0_8 : Kd.C k31 w A0_8 l0_8.length l0_8) (hc0_8 : l0_8.length ≤ c0_8) (h : metrolabref19_mayMaterial.f a0_0 a0_1 a0_2 a0_3 a0_4 a0_5 a0_6 a0_7 l0_8 a1 = some r) :
    Calls Tryz.prog 85 #[.agg #[.string a0_0, .int .i64 a0_1, .int .i64 a0_2, .int .i64 a0_3, .int .i64 a0_4, .int .i64 a0_5, .int .i64 a0_6, .int .i64 a0_7, .slice A0_8 l0_8.length c0_8], .int .i64 a1] w fun e w' => e = .returned (.bool r) ∧ Below w.heap.size w w' := by
  have hu28 := Tryz.underlying28
  have HR0_8 := Aside0.mk hr0_8
  have HC0_8 := Aside0.mk hc0_8
  clear hr0_8 hc0_8
  have HB := Aside0.mk (Below.refl w.heap.size w)
  have H : (if a0_1 = 0 then (some false) else (if a1 = 0 then (some true) else (if a1 = 2 then (some true) else (if a1 = 3 then (some true) else (some (a1 == 8)))))) = some r := h
  clear h
  by_cases c3 : a0_1 = 0
  · rw [if_pos c3] at H
    have c3b0 : (a0_1 == 0) = true := beq_iff_eq.mpr c3
    have c3b1 : (a0_1 != 0) = false := bne_eq_false_iff_eq.mpr c3
    clear c3
    obtain rfl := Option.some.inj H
    go_enter Tryz.func85, Tryz.ntmps85
    go_wp2_with (first | ((with_reducible refine gate_dst (N := 2) rfl ?_); refine box_event ?hg (N := 2) ?hd (cs := #[.string a0_0, .int .i64 a0_1, .int .i64 a0_2, .int .i64 a0_3, .int .i64 a0_4, .int .i64 a0_5, .int .i64 a0_6, .int .i64 a0_7, .slice A0_8 l0_8.length c0_8]) (t := 28) ?hr ?_; (case hd => rfl); (case hg => rfl); (case hr => first | (go_simp; done) | (go_simp; rfl)); intro gb156 hg w4 hbox hb; have n0_ := Aside0.mk (below_step (by repeat (first | (with_reducible first | exact HB.out | apply below_alloc | apply pw_below_drewN | apply below_drew1) | exact HB.out)) hb); have n1_ := Aside0.mk (hbox); have n2_ := Aside0.mk ((by rw [hg]; exact (below_size (by repeat (first | (with_reducible first | exact HB.out | apply below_alloc | apply pw_below_drewN | apply below_drew1) | exact HB.out))) : w.heap.size ≤ gb156)); have n3_ := Aside0.mk ((by rw [hg]; exact (below_size (by repeat (first | (with_reducible first | exact HB.out | apply below_alloc | apply pw_below_drewN | apply below_drew1) | exact HB.out))) : w.heap.size ≤ gb156)); clear HB; have HB := n0_; have BK156 := n1_; have GW156 := n2_; have GE156 := n3_; clear n0_ n1_ n2_ n3_; clear hb hbox hg; have hcz5_0 : w4.cell? ⟨gb156, 0, none⟩ = some (.string a0_0) := (blk_cell BK156.out 0).trans rfl; have hcz5_1 : w4.cell? ⟨gb156, 1, none⟩ = some (.int .i64 a0_1) := (blk_cell BK156.out 1).trans rfl; have hcz5_2 : w4.cell? ⟨gb156, 2, none⟩ = some (.int .i64 a0_2) := (blk_cell BK156.out 2).trans rfl; have hcz5_3 : w4.cell? ⟨gb156, 3, none⟩ = some (.int .i64 a0_3) := (blk_cell BK156.out 3).trans rfl; have hcz5_4 : w4.cell? ⟨gb156, 4, none⟩ = some (.int .i64 a0_4) := (blk_cell BK156.out 4).trans rfl; have hcz5_5 : w4.cell? ⟨gb156, 5, none⟩ = some (.int .i64 a0_5) := (blk_cell BK156.out 5).trans rfl; have hcz5_6 : w4.cell? ⟨gb156, 6, none⟩ = some (.int .i64 a0_6) := (blk_cell BK156.out 6).trans rfl; have hcz5_7 : w4.cell? ⟨gb156, 7, none⟩ = some (.int .i64 a0_7) := (blk_cell BK156.out 7).trans rfl; have hcz5_8 : w4.cell? ⟨gb156, 8, none⟩ = some (.slice A0_8 l0_8.length c0_8) := (blk_cell BK156.out 8).trans rfl; have hfz5_0 := blk_frozen BK156.out 0; have hfz5_1 := blk_frozen BK156.out 1; have hfz5_2 := blk_frozen BK156.out 2; have hfz5_3 := blk_frozen BK156.out 3; have hfz5_4 := blk_frozen BK156.out 4; have hfz5_5 := blk_frozen BK156.out 5; have hfz5_6 := blk_frozen BK156.out 6; have hfz5_7 := blk_frozen BK156.out 7; have hfz5_8 := blk_frozen BK156.out 8))
    go_ret
    exact ⟨by first | rfl | (simp [errW_none, errW_some] <;> rfl) | (simp [*, errW_none, errW_some] <;> rfl), by repeat (first | (with_reducible first | exact HB.out | apply below_alloc | apply pw_below_drewN | apply below_drew1 | refine below_set ?_ GE156.out) | exact HB.out)⟩
  · rw [if_neg c3] at H
    have c3b0 : (a0_1 == 0) = false := beq_eq_false_iff_ne.mpr c3
    have c3b1 : (a0_1 != 0) = true := bne_iff_ne.mpr c3
    by_cases c6 : a1 = 0
    · rw [if_pos c6] at H
      have c6b0 : (a1 == 0) = true := beq_iff_eq.mpr c6
      have c6b1 : (a1 != 0) = false := bne_eq_false_iff_eq.mpr c6
      clear c6
      obtain rfl := Option.some.inj H
      go_enter Tryz.func85, Tryz.ntmps85
      go_wp2_with (first | ((with_reducible refine gate_dst (N := 2) rfl ?_); refine box_event ?hg (N := 2) ?hd (cs := #[.string a0_0, .int .i64 a0_1, .int .i64 a0_2, .int .i64 a0_3, .int .i64 a0_4, .int .i64 a0_5, .int .i64 a0_6, .int .i64 a0_7, .slice A0_8 l0_8.length c0_8]) (t := 28) ?hr ?_; (case hd => rfl); (case hg => rfl); (case hr => first | (go_simp; done) | (go_simp; rfl)); intro gb156 hg w7 hbox hb; have n0_ := Aside0.mk (below_step (by repeat (first | (with_reducible first | exact HB.out | apply below_alloc | apply pw_below_drewN | apply below_drew1) | exact HB.out)) hb); have n1_ := Aside0.mk (hbox); have n2_ := Aside0.mk ((by rw [hg]; exact (below_size (by repeat (first | (with_reducible first | exact HB.out | apply below_alloc | apply pw_below_drewN | apply below_drew1) | exact HB.out))) : w.heap.size ≤ gb156)); have n3_ := Aside0.mk ((by rw [hg]; exact (below_size (by repeat (first | (with_reducible first | exact HB.out | apply below_alloc | apply pw_below_drewN | apply below_drew1) | exact HB.out))) : w.heap.size ≤ gb156)); clear HB; have HB := n0_; have BK156 := n1_; have GW156 := n2_; have GE156 := n3_; clear n0_ n1_ n2_ n3_; clear hb hbox hg; have hcz8_0 : w7.cell? ⟨gb156, 0, none⟩ = some (.string a0_0) := (blk_cell BK156.out 0).trans rfl; have hcz8_1 : w7.cell? ⟨gb156, 1, none⟩ = some (.int .i64 a0_1) := (blk_cell BK156.out 1).trans rfl; have hcz8_2 : w7.cell? ⟨gb156, 2, none⟩ = some (.int .i64 a0_2) := (blk_cell BK156.out 2).trans rfl; have hcz8_3 : w7.cell? ⟨gb156, 3, none⟩ = some (.int .i64 a0_3) := (blk_cell BK156.out 3).trans rfl; have hcz8_4 : w7.cell? ⟨gb156, 4, none⟩ = some (.int .i64 a0_4) := (blk_cell BK156.out 4).trans rfl; have hcz8_5 : w7.cell? ⟨gb156, 5, none⟩ = some (.int .i64 a0_5) := (blk_cell BK156.out 5).trans rfl; have hcz8_6 : w7.cell? ⟨gb156, 6, none⟩ = some (.int .i64 a0_6) := (blk_cell BK156.out 6).trans rfl; have hcz8_7 : w7.cell? ⟨gb156, 7, none⟩ = some (.int .i64 a0_7) := (blk_cell BK156.out 7).trans rfl; have hcz8_8 : w7.cell? ⟨gb156, 8, none⟩ = some (.slice A0_8 l0_8.length c0_8) := (blk_cell BK156.out 8).trans rfl; have hfz8_0 := blk_frozen BK156.out 0; have hfz8_1 := blk_frozen BK156.out 1; have hfz8_2 := blk_frozen BK156.out 2; have hfz8_3 := blk_frozen BK156.out 3; have hfz8_4 := blk_frozen BK156.out 4; have hfz8_5 := blk_frozen BK156.out 5; have hfz8_6 := blk_frozen BK156.out 6; have hfz8_7 := blk_frozen BK156.out 7; have hfz8_8 := blk_frozen BK156.out 8))
      go_ret
      exact ⟨by first | rfl | (simp [errW_none, errW_some] <;> rfl) | (simp [*, errW_none, errW_some] <;> rfl), by repeat (first | (with_reducible first | exact HB.out | apply below_alloc | apply pw_below_drewN | apply below_drew1 | refine below_set ?_ GE156.out) | exact HB.out)⟩
    · rw [if_neg c6] at H
      have c6b0 : (a1 == 0) = false := beq_eq_false_iff_ne.mpr c6
      have c6b1 : (a1 != 0) = true := bne_iff_ne.mpr c6
      by_cases c9 : a1 = 2
      · rw [if_pos c9] at H
        have c9b0 : (a1 == 2) = true := beq_iff_eq.mpr c9
        have c9b1 : (a1 != 2) = false := bne_eq_false_iff_eq.mpr c9
        clear c9
        obtain rfl := Option.some.inj H
        go_enter Tryz.func85, Tryz.ntmps85
        go_wp2_with (first | ((with_reducible refine gate_dst (N := 2) rfl ?_); refine box_event ?hg (N := 2) ?hd (cs := #[.string a0_0, .int .i64 a0_1, .int .i64 a0_2, .int .i64 a0_3, .int .i64 a0_4, .int .i64 a0_5, .int .i64 a0_6, .int .i64 a0_7, .slice A0_8 l0_8.length c0_8]) (t := 28) ?hr ?_; (case hd => rfl); (case hg => rfl); (case hr => first | (go_simp; done) | (go_simp; rfl)); intro gb156 hg w10 hbox hb; have n0_ := Aside0.mk (below_step (by repeat (first | (with_reducible first | exact HB.out | apply below_alloc | apply pw_below_drewN | apply below_drew1) | exact HB.out)) hb); have n1_ := Aside0.mk (hbox); have n2_ := Aside0.mk ((by rw [hg]; exact (below_size (by repeat (first | (with_reducible first | exact HB.out | apply below_alloc | apply pw_below_drewN | apply below_drew1) | exact HB.out))) : w.heap.size ≤ gb156)); have n3_ := Aside0.mk ((by rw [hg]; exact (below_size (by repeat (first | (with_reducible first | exact HB.out | apply below_alloc | apply pw_below_drewN | apply below_drew1) | exact HB.out))) : w.heap.size ≤ gb156)); clear HB; have HB := n0_; have BK156 := n1_; have GW156 := n2_; have GE156 := n3_; clear n0_ n1_ n2_ n3_; clear hb hbox hg; have hcz11_0 : w10.cell? ⟨gb156, 0, none⟩ = some (.string a0_0) := (blk_cell BK156.out 0).trans rfl; have hcz11_1 : w10.cell? ⟨gb156, 1, none⟩ = some (.int .i64 a0_1) := (blk_cell BK156.out 1).trans rfl; have hcz11_2 : w10.cell? ⟨gb156, 2, none⟩ = some (.int .i64 a0_2) := (blk_cell BK156.out 2).trans rfl; have hcz11_3 : w10.cell? ⟨gb156, 3, none⟩ = some (.int .i64 a0_3) := (blk_cell BK156.out 3).trans rfl; have hcz11_4 : w10.cell? ⟨gb156, 4, none⟩ = some (.int .i64 a0_4) := (blk_cell BK156.out 4).trans rfl; have hcz11_5 : w10.cell? ⟨gb156, 5, none⟩ = some (.int .i64 a0_5) := (blk_cell BK156.out 5).trans rfl; have hcz11_6 : w10.cell? ⟨gb156, 6, none⟩ = some (.int .i64 a0_6) := (blk_cell BK156.out 6).trans rfl; have hcz11_7 : w10.cell? ⟨gb156, 7, none⟩ = some (.int .i64 a0_7) := (blk_cell BK156.out 7).trans rfl; have hcz11_8 : w10.cell? ⟨gb156, 8, none⟩ = some (.slice A0_8 l0_8.length c0_8) := (blk_cell BK156.out 8).trans rfl; have hfz11_0 := blk_frozen BK156.out 0; have hfz11_1 := blk_frozen BK156.out 1; have hfz11_2 := blk_frozen BK156.out 2; have hfz11_3 := blk_frozen BK156.out 3; have hfz11_4 := blk_frozen BK156.out 4; have hfz11_5 := blk_frozen BK156.out 5; have hfz11_6 := blk_frozen BK156.out 6; have hfz11_7 := blk_frozen BK156.out 7; have hfz11_8 := blk_frozen BK156.out 8))
        go_ret
        exact ⟨by first | rfl | (simp [errW_none, errW_some] <;> rfl) | (simp [*, errW_none, errW_some] <;> rfl), by repeat (first | (with_reducible first | exact HB.out | apply below_alloc | apply pw_below_drewN | apply below_drew1 | refine below_set ?_ GE156.out) | exact HB.out)⟩
      · rw [if_neg c9] at H
        have c9b0 : (a1 == 2) = false := beq_eq_false_iff_ne.mpr c9
        have c9b1 : (a1 != 2) = true := bne_iff_ne.mpr c9
        by_cases c12 : a1 = 3
        · rw [if_pos c12] at H
          have c12b0 : (a1 == 3) = true := beq_iff_eq.mpr c12
          have c12b1 : (a1 != 3) = false := bne_eq_false_iff_eq.mpr c12
          clear c12
          obtain rfl := Option.some.inj H
          go_enter Tryz.func85, Tryz.ntmps85
          go_wp2_with (first | ((with_reducible refine gate_dst (N := 2) rfl ?_); refine box_event ?hg (N := 2) ?hd (cs := #[.string a0_0, .int .i64 a0_1, .int .i64 a0_2, .int .i64 a0_3, .int .i64 a0_4, .int .i64 a0_5, .int .i64 a0_6, .int .i64 a0_7, .slice A0_8 l0_8.length c0_8]) (t := 28) ?hr ?_; (case hd => rfl); (case hg => rfl); (case hr => first | (go_simp; done) | (go_simp; rfl)); intro gb156 hg w13 hbox hb; have n0_ := Aside0.mk (below_step (by repeat (first | (with_reducible first | exact HB.out | apply below_alloc | apply pw_below_drewN | apply below_drew1) | exact HB.out)) hb); have n1_ := Aside0.mk (hbox); have n2_ := Aside0.mk ((by rw [hg]; exact (below_size (by repeat (first | (with_reducible first | exact HB.out | apply below_alloc | apply pw_below_drewN | apply below_drew1) | exact HB.out))) : w.heap.size ≤ gb156)); have n3_ := Aside0.mk ((by rw [hg]; exact (below_size (by repeat (first | (with_reducible first | exact HB.out | apply below_alloc | apply pw_below_drewN | apply below_drew1) | exact HB.out))) : w.heap.size ≤ gb156)); clear HB; have HB := n0_; have BK156 := n1_; have GW156 := n2_; have GE156 := n3_; clear n0_ n1_ n2_ n3_; clear hb hbox hg; have hcz14_0 : w13.cell? ⟨gb156, 0, none⟩ = some (.string a0_0) := (blk_cell BK156.out 0).trans rfl; have hcz14_1 : w13.cell? ⟨gb156, 1, none⟩ = some (.int .i64 a0_1) := (blk_cell BK156.out 1).trans rfl; have hcz14_2 : w13.cell? ⟨gb156, 2, none⟩ = some (.int .i64 a0_2) := (blk_cell BK156.out 2).trans rfl; have hcz14_3 : w13.cell? ⟨gb156, 3, none⟩ = some (.int .i64 a0_3) := (blk_cell BK156.out 3).trans rfl; have hcz14_4 : w13.cell? ⟨gb156, 4, none⟩ = some (.int .i64 a0_4) := (blk_cell BK156.out 4).trans rfl; have hcz14_5 : w13.cell? ⟨gb156, 5, none⟩ = some (.int .i64 a0_5) := (blk_cell BK156.out 5).trans rfl; have hcz14_6 : w13.cell? ⟨gb156, 6, none⟩ = some (.int .i64 a0_6) := (blk_cell BK156.out 6).trans rfl; have hcz14_7 : w13.cell? ⟨gb156, 7, none⟩ = some (.int .i64 a0_7) := (blk_cell BK156.out 7).trans rfl; have hcz14_8 : w13.cell? ⟨gb156, 8, none⟩ = some (.slice A0_8 l0_8.length c0_8) := (blk_cell BK156.out 8).trans rfl; have hfz14_0 := blk_frozen BK156.out 0; have hfz14_1 := blk_frozen BK156.out 1; have hfz14_2 := blk_frozen BK156.out 2; have hfz14_3 := blk_frozen BK156.out 3; have hfz14_4 := blk_frozen BK156.out 4; have hfz14_5 := blk_frozen BK156.out 5; have hfz14_6 := blk_frozen BK156.out 6; have hfz14_7 := blk_frozen BK156.out 7; have hfz14_8 := blk_frozen BK156.out 8))
          go_ret
          exact ⟨by first | rfl | (simp [errW_none, errW_some] <;> rfl) | (simp [*, errW_none, errW_some] <;> rfl), by repeat (first | (with_reducible first | exact HB.out | apply below_alloc | apply pw_below_drewN | apply below_drew1 | refine below_set ?_ GE156.out) | exact HB.out)⟩
        · rw [if_neg c12] at H
          have c12b0 : (a1 == 3) = false := beq_eq_false_iff_ne.mpr c12
          have c12b1 : (a1 != 3) = true := bne_iff_ne.mpr c12
          obtain rfl := Option.some.inj H
          go_enter Tryz.func85, Tryz.ntmps85
          go_wp2_with (first | ((with_reducible refine gate_dst (N := 2) rfl ?_); refine box_event ?hg (N := 2) ?hd (cs := #[.string a0_0, .int .i64 a0_1, .int .i64 a0_2, .int .i64 a0_3, .int .i64 a0_4, .int .i64 a0_5, .int .i64 a0_6, .int .i64 a0_7, .slice A0_8 l0_8.length c0_8]) (t := 28) ?hr ?_; (case hd => rfl); (case hg => rfl); (case hr => first | (go_simp; done) | (go_simp; rfl)); intro gb156 hg w15 hbox hb; have n0_ := Aside0.mk (below_step (by repeat (first | (with_reducible first | exact HB.out | apply below_alloc | apply pw_below_drewN | apply below_drew1) | exact HB.out)) hb); have n1_ := Aside0.mk (hbox); have n2_ := Aside0.mk ((by rw [hg]; exact (below_size (by repeat (first | (with_reducible first | exact HB.out | apply below_alloc | apply pw_below_drewN | apply below_drew1) | exact HB.out))) : w.heap.size ≤ gb156)); have n3_ := Aside0.mk ((by rw [hg]; exact (below_size (by repeat (first | (with_reducible first | exact HB.out | apply below_alloc | apply pw_below_drewN | apply below_drew1) | exact HB.out))) : w.heap.size ≤ gb156)); clear HB; have HB := n0_; have BK156 := n1_; have GW156 := n2_; have GE156 := n3_; clear n0_ n1_ n2_ n3_; clear hb hbox hg; have hcz16_0 : w15.cell? ⟨gb156, 0, none⟩ = some (.string a0_0) := (blk_cell BK156.out 0).trans rfl; have hcz16_1 : w15.cell? ⟨gb156, 1, none⟩ = some (.int .i64 a0_1) := (blk_cell BK156.out 1).trans rfl; have hcz16_2 : w15.cell? ⟨gb156, 2, none⟩ = some (.int .i64 a0_2) := (blk_cell BK156.out 2).trans rfl; have hcz16_3 : w15.cell? ⟨gb156, 3, none⟩ = some (.int .i64 a0_3) := (blk_cell BK156.out 3).trans rfl; have hcz16_4 : w15.cell? ⟨gb156, 4, none⟩ = some (.int .i64 a0_4) := (blk_cell BK156.out 4).trans rfl; have hcz16_5 : w15.cell? ⟨gb156, 5, none⟩ = some (.int .i64 a0_5) := (blk_cell BK156.out 5).trans rfl; have hcz16_6 : w15.cell? ⟨gb156, 6, none⟩ = some (.int .i64 a0_6) := (blk_cell BK156.out 6).trans rfl; have hcz16_7 : w15.cell? ⟨gb156, 7, none⟩ = some (.int .i64 a0_7) := (blk_cell BK156.out 7).trans rfl; have hcz16_8 : w15.cell? ⟨gb156, 8, none⟩ = some (.slice A0_8 l0_8.length c0_8) := (blk_cell BK156.out 8).trans rfl; have hfz16_0 := blk_frozen BK156.out 0; have hfz16_1 := blk_frozen BK156.out 1; have hfz16_2 := blk_frozen BK156.out 2; have hfz16_3 := blk_frozen BK156.out 3; have hfz16_4 := blk_frozen BK156.out 4; have hfz16_5 := blk_frozen BK156.out 5; have hfz16_6 := blk_frozen BK156.out 6; have hfz16_7 := blk_frozen BK156.out 7; have hfz16_8 := blk_frozen BK156.out 8))
          go_ret
          exact ⟨by first | rfl | (simp [errW_none, errW_some] <;> rfl) | (simp [*, errW_none, errW_some] <;> rfl), by repeat (first | (with_reducible first | exact HB.out | apply below_alloc | apply pw_below_drewN | apply below_drew1 | refine below_set ?_ GE156.out) | exact HB.out)⟩
def metrolabref19_Same.f (k : Nat) (a0_0 : Int) (a0_1 : Bool) (a0_2 : Int) (a0_3 : Int) (l0_4 : List (S76)) (a1_0 : Int) (a1_1 : Bool) (a1_2 : Int) (a1_3 : Int) (l1_4 : List (S76)) : Option (Bool) := (metrolabref18_SameFrames.f k (([(⟨a0_0, a0_1, a0_2, a0_3, l0_4⟩ : S31)] : List (S31))) (([(⟨a1_0, a1_1, a1_2, a1_3, l1_4⟩ : S31)] : List (S31)))).bind fun t165 => (some t165)
theorem metrolabref19_Same.mono : ∀ a0 a1 a2 a3 a4 a5 a6 a7 a8 a9 k, LeO (metrolabref19_Same.f k a0 a1 a2 a3 a4 a5 a6 a7 a8 a9) (metrolabref19_Same.f (k + 1) a0 a1 a2 a3 a4 a5 a6 a7 a8 a9) := by
  intro a0 a1 a2 a3 a4 a5 a6 a7 a8 a9 k
  unfold metrolabref19_Same.f
  repeat' first
      | (with_reducible exact metrolabref18_SameFrames.mono _ _ _)
      | (with_reducible exact LeO.refl _)
      | (with_reducible exact LeO.none _)
      | (with_reducible refine LeO.ite ?_ ?_)
      | (with_reducible refine LeO.bind ?_ (fun _ => ?_))
      | exact metrolabref18_SameFrames.mono _ _ _
      | exact LeO.none _
      | refine LeO.ite ?_ ?_
      | refine LeO.bind ?_ (fun _ => ?_)
def metrolabref17_Has.f (a0_0 : Int) (a0_1 : Int) (a1 : Int) : Option (Bool) := if a1 ≥ a0_0 then (some (decide (a1 ≤ a0_1))) else (some false)
end Go.Proofs.YtkohjcfmcliioaaGreatDoor.ZA
namespace Go.Proofs.YtkohjcfmcliioaaGreatDoor.ZA
open Go.RowKit Go.Proofs.YtkohjcfmcliioaaGreatDoorW.PrintWords Go.Proofs.YtkohjcfmcliioaaGreatDoorW.PrintLast Go.Proofs.YtkohjcfmcliioaaGreatDoorW.PrintMore
attribute [local go_sem] max2_int min2_int max_two min_two max_three min_three max_four min_four   -- for this text's walks alone
set_option linter.unusedVariables false
set_option linter.unusedSimpArgs false
def metrolabref19_Digits.f : Nat → Int → Option (ByteArray)
  | 0, _ => none
  | k + 1, a0 => if a0 < 10 then (if 0 ≤ a0 then (if a0 ≤ (wrap64 (a0 + 1)) then (if (wrap64 (a0 + 1)) ≤ 10 then (some ((⟨#[48, 49, 50, 51, 52, 53, 54, 55, 56, 57]⟩ : ByteArray).extract (a0 : Int).toNat ((wrap64 (a0 + 1)) : Int).toNat)) else (none)) else (none)) else (none)) else ((metrolabref19_Digits.f k (wrap64 (Int.tdiv a0 10))).bind fun t167 => (if 0 ≤ (Int.tmod a0 10) then (if (Int.tmod a0 10) ≤ (wrap64 ((Int.tmod a0 10) + 1)) then (if (wrap64 ((Int.tmod a0 10) + 1)) ≤ 10 then (if t167.size + ((⟨#[48, 49, 50, 51, 52, 53, 54, 55, 56, 57]⟩ : ByteArray).extract ((Int.tmod a0 10) : Int).toNat ((wrap64 ((Int.tmod a0 10) + 1)) : Int).toNat).size ≤ 9223372036854775807 then (some (t167 ++ ((⟨#[48, 49, 50, 51, 52, 53, 54, 55, 56, 57]⟩ : ByteArray).extract ((Int.tmod a0 10) : Int).toNat ((wrap64 ((Int.tmod a0 10) + 1)) : Int).toNat))) else (none)) else (none)) else (none)) else (none)))
theorem metrolabref19_Digits.mono_l : ∀ k, (∀ y0, LeO (metrolabref19_Digits.f k y0) (metrolabref19_Digits.f (k + 1) y0))
  | 0 => fun _ r h => by simp [metrolabref19_Digits.f] at h
  | k + 1 => by
    have ih0 := metrolabref19_Digits.mono_l k
    · intro y0
      unfold metrolabref19_Digits.f
      repeat' first
      | (with_reducible exact ih0 _)
      | (with_reducible exact LeO.refl _)
      | (with_reducible exact LeO.none _)
      | (with_reducible refine LeO.ite ?_ ?_)
      | (with_reducible refine LeO.bind ?_ (fun _ => ?_))
      | exact ih0 _
      | exact LeO.none _
      | refine LeO.ite ?_ ?_
      | refine LeO.bind ?_ (fun _ => ?_)
theorem metrolabref19_Digits.mono : ∀ a0 k, LeO (metrolabref19_Digits.f k a0) (metrolabref19_Digits.f (k + 1) a0) := by
  intro a0 k
  have ih0 := metrolabref19_Digits.mono_l k
  exact ih0 a0
def metrolabref19_mark.f (a0 : Int) : Option (ByteArray) := (some (([(⟨#[]⟩ : ByteArray), (⟨#[40, 77, 41]⟩ : ByteArray), (⟨#[40, 76, 41]⟩ : ByteArray)] : List ByteArray) : List ByteArray)).bind fun y168 => (if 0 ≤ a0 then (if a0 < (y168.length : Int) then (some (rdOf ByteArray.empty y168 a0)) else (none)) else (none))
def metrolabref19_Split.l0 : Nat → ByteArray → List ByteArray → Int → Option (List ByteArray)
  | 0, _, _, _ => none
  | k + 1, x0, x3, x4 => if x4 < (x0.size : Int) then (if 0 ≤ x4 then (if (bt x0 x4) = 32 then (if x3.length < 8796093022208 then (metrolabref19_Split.l0 k x0 (x3 ++ [(⟨#[]⟩ : ByteArray)]) (wrap64 (x4 + 1))) else (none)) else (if 0 ≤ (wrap64 ((x3.length : Int) - 1)) then (if (wrap64 ((x3.length : Int) - 1)) < (x3.length : Int) then (if x4 ≤ (wrap64 (x4 + 1)) then (if (wrap64 (x4 + 1)) ≤ (x0.size : Int) then (if (rdOf ByteArray.empty x3 (wrap64 ((x3.length : Int) - 1))).size + (x0.extract (x4 : Int).toNat ((wrap64 (x4 + 1)) : Int).toNat).size ≤ 9223372036854775807 then (metrolabref19_Split.l0 k x0 (x3.set ((wrap64 ((x3.length : Int) - 1)) : Int).toNat ((rdOf ByteArray.empty x3 (wrap64 ((x3.length : Int) - 1))) ++ (x0.extract (x4 : Int).toNat ((wrap64 (x4 + 1)) : Int).toNat))) (wrap64 (x4 + 1))) else (none)) else (none)) else (none)) else (none)) else (none))) else (none)) else (some x3)
def metrolabref19_Split.f (k : Nat) (a0 : ByteArray) : Option (List ByteArray) := metrolabref19_Split.l0 k a0 (([(⟨#[]⟩ : ByteArray)] : List ByteArray)) 0
theorem metrolabref19_Split.mono_l : ∀ k, (∀ y0 y1 y2, LeO (metrolabref19_Split.l0 k y0 y1 y2) (metrolabref19_Split.l0 (k + 1) y0 y1 y2))
  | 0 => fun _ _ _ r h => by simp [metrolabref19_Split.l0] at h
  | k + 1 => by
    have ih0 := metrolabref19_Split.mono_l k
    · intro y0 y1 y2
      unfold metrolabref19_Split.l0
      repeat' first
      | (with_reducible exact ih0 _ _ _)
      | (with_reducible exact LeO.refl _)
      | (with_reducible exact LeO.none _)
      | (with_reducible refine LeO.ite ?_ ?_)
      | (with_reducible refine LeO.bind ?_ (fun _ => ?_))
      | exact ih0 _ _ _
      | exact LeO.none _
      | refine LeO.ite ?_ ?_
      | refine LeO.bind ?_ (fun _ => ?_)
theorem metrolabref19_Split.mono : ∀ a0 k, LeO (metrolabref19_Split.f k a0) (metrolabref19_Split.f (k + 1) a0) := by
  intro a0 k
  have ih0 := metrolabref19_Split.mono_l k
  unfold metrolabref19_Split.f
  repeat' first
      | (with_reducible exact ih0 _ _ _)
      | (with_reducible exact LeO.refl _)
      | (with_reducible exact LeO.none _)
      | (with_reducible refine LeO.ite ?_ ?_)
      | (with_reducible refine LeO.bind ?_ (fun _ => ?_))
      | exact ih0 _ _ _
      | exact LeO.none _
      | refine LeO.ite ?_ ?_
      | refine LeO.bind ?_ (fun _ => ?_)
end Go.Proofs.YtkohjcfmcliioaaGreatDoor.ZA
namespace Go.Proofs.YtkohjcfmcliioaaGreatDoor.ZA
open Go.RowKit Go.Proofs.YtkohjcfmcliioaaGreatDoorW.PrintWords Go.Proofs.YtkohjcfmcliioaaGreatDoorW.PrintLast Go.Proofs.YtkohjcfmcliioaaGreatDoorW.PrintMore
attribute [local go_sem] max2_int min2_int max_two min_two max_three min_three max_four min_four   -- for this text's walks alone
set_option linter.unusedVariables false
set_option linter.unusedSimpArgs false
def metrolabref19_Cut.l0 : Nat → ByteArray → Int → Option (ByteArray × Int)
  | 0, _, _ => none
  | k + 1, x0, x4 => if x4 < 3 then (if (wrap64 ((x0.size : Int) - 3)) ≥ 0 then (if 0 ≤ (wrap64 ((x0.size : Int) - 3)) then (if (wrap64 ((x0.size : Int) - 3)) ≤ (x0.size : Int) then ((metrolabref19_mark.f x4).bind fun t180 => (if (x0.extract ((wrap64 ((x0.size : Int) - 3)) : Int).toNat x0.size).toList = t180.toList then (some (x0.extract 0 ((wrap64 ((x0.size : Int) - 3)) : Int).toNat, x4)) else (metrolabref19_Cut.l0 k x0 (wrap64 (x4 + 1))))) else (none)) else (none)) else (metrolabref19_Cut.l0 k x0 (wrap64 (x4 + 1)))) else (some (x0, 0))
def metrolabref19_Cut.f (k : Nat) (a0 : ByteArray) : Option (ByteArray × Int) := metrolabref19_Cut.l0 k a0 1
theorem metrolabref19_Cut.mono_l : ∀ k, (∀ y0 y1, LeO (metrolabref19_Cut.l0 k y0 y1) (metrolabref19_Cut.l0 (k + 1) y0 y1))
  | 0 => fun _ _ r h => by simp [metrolabref19_Cut.l0] at h
  | k + 1 => by
    have ih0 := metrolabref19_Cut.mono_l k
    · intro y0 y1
      unfold metrolabref19_Cut.l0
      repeat' first
      | (with_reducible exact ih0 _ _)
      | (with_reducible exact LeO.refl _)
      | (with_reducible exact LeO.none _)
      | (with_reducible refine LeO.ite ?_ ?_)
      | (with_reducible refine LeO.bind ?_ (fun _ => ?_))
      | exact ih0 _ _
      | exact LeO.none _
      | refine LeO.ite ?_ ?_
      | refine LeO.bind ?_ (fun _ => ?_)
theorem metrolabref19_Cut.mono : ∀ a0 k, LeO (metrolabref19_Cut.f k a0) (metrolabref19_Cut.f (k + 1) a0) := by
  intro a0 k
  have ih0 := metrolabref19_Cut.mono_l k
  unfold metrolabref19_Cut.f
  repeat' first
      | (with_reducible exact ih0 _ _)
      | (with_reducible exact LeO.refl _)
      | (with_reducible exact LeO.none _)
      | (with_reducible refine LeO.ite ?_ ?_)
      | (with_reducible refine LeO.bind ?_ (fun _ => ?_))
      | exact ih0 _ _
      | exact LeO.none _
      | refine LeO.ite ?_ ?_
      | refine LeO.bind ?_ (fun _ => ?_)
mutual
def metrolabref19_Number.j0 : Nat → ByteArray → Bool → Option (Int)
  | 0, _, _ => none
  | k + 1, x0, x12 => if x12 = true then (some (-1)) else (metrolabref19_Number.l0 k x0 0 0)
def metrolabref19_Number.l0 : Nat → ByteArray → Int → Int → Option (Int)
  | 0, _, _, _ => none
  | k + 1, x0, x3, x4 => if x4 < (x0.size : Int) then (if 0 ≤ x4 then (if (bt x0 x4) < 48 then (some (-1)) else (if (bt x0 x4) > 57 then (some (-1)) else (metrolabref19_Number.l0 k x0 (wrap64 ((wrap64 (10 * x3)) + (((bt x0 x4) - 48) % 256))) (wrap64 (x4 + 1))))) else (none)) else (some x3)
end
def metrolabref19_Number.f (k : Nat) (a0 : ByteArray) : Option (Int) := if (a0.size : Int) = 0 then (metrolabref19_Number.j0 k a0 true) else (metrolabref19_Number.j0 k a0 (decide ((a0.size : Int) > 6)))
theorem metrolabref19_Number.mono_l : ∀ k, (∀ y0 y1, LeO (metrolabref19_Number.j0 k y0 y1) (metrolabref19_Number.j0 (k + 1) y0 y1)) ∧ (∀ y0 y1 y2, LeO (metrolabref19_Number.l0 k y0 y1 y2) (metrolabref19_Number.l0 (k + 1) y0 y1 y2))
  | 0 => ⟨fun _ _ r h => by simp [metrolabref19_Number.j0] at h, fun _ _ _ r h => by simp [metrolabref19_Number.l0] at h⟩
  | k + 1 => by
    obtain ⟨ih0, ih1⟩ := metrolabref19_Number.mono_l k
    refine ⟨?_, ?_⟩
    · intro y0 y1
      unfold metrolabref19_Number.j0
      repeat' first
      | (with_reducible exact ih0 _ _)
      | (with_reducible exact ih1 _ _ _)
      | (with_reducible exact LeO.refl _)
      | (with_reducible exact LeO.none _)
      | (with_reducible refine LeO.ite ?_ ?_)
      | (with_reducible refine LeO.bind ?_ (fun _ => ?_))
      | exact ih0 _ _
      | exact ih1 _ _ _
      | exact LeO.none _
      | refine LeO.ite ?_ ?_
      | refine LeO.bind ?_ (fun _ => ?_)
    · intro y0 y1 y2
      unfold metrolabref19_Number.l0
      repeat' first
      | (with_reducible exact ih0 _ _)
      | (with_reducible exact ih1 _ _ _)
      | (with_reducible exact LeO.refl _)
      | (with_reducible exact LeO.none _)
      | (with_reducible refine LeO.ite ?_ ?_)
      | (with_reducible refine LeO.bind ?_ (fun _ => ?_))
      | exact ih0 _ _
      | exact ih1 _ _ _
      | exact LeO.none _
      | refine LeO.ite ?_ ?_
      | refine LeO.bind ?_ (fun _ => ?_)
theorem metrolabref19_Number.mono : ∀ a0 k, LeO (metrolabref19_Number.f k a0) (metrolabref19_Number.f (k + 1) a0) := by
  intro a0 k
  obtain ⟨ih0, ih1⟩ := metrolabref19_Number.mono_l k
  unfold metrolabref19_Number.f
  repeat' first
      | (with_reducible exact ih0 _ _)
      | (with_reducible exact ih1 _ _ _)
      | (with_reducible exact LeO.refl _)
      | (with_reducible exact LeO.none _)
      | (with_reducible refine LeO.ite ?_ ?_)
      | (with_reducible refine LeO.bind ?_ (fun _ => ?_))
      | exact ih0 _ _
      | exact ih1 _ _ _
      | exact LeO.none _
      | refine LeO.ite ?_ ?_
      | refine LeO.bind ?_ (fun _ => ?_)
end Go.Proofs.YtkohjcfmcliioaaGreatDoor.ZA
namespace Go.Proofs.YtkohjcfmcliioaaGreatDoor.ZA
open Go.RowKit Go.Proofs.YtkohjcfmcliioaaGreatDoorW.PrintWords Go.Proofs.YtkohjcfmcliioaaGreatDoorW.PrintLast Go.Proofs.YtkohjcfmcliioaaGreatDoorW.PrintMore
attribute [local go_sem] max2_int min2_int max_two min_two max_three min_three max_four min_four   -- for this text's walks alone
set_option linter.unusedVariables false
set_option linter.unusedSimpArgs false
mutual
def metrolabref19_guess.l0 : Nat → List ByteArray → List (S124) → Int → Int → Bool → Int → Int → Option (Int × Bool × Int × Int × (List (S76)))
  | 0, _, _, _, _, _, _, _ => none
  | k + 1, x3, x5, x6, x186000, x186001, x186002, x186003 => if x6 < (x5.length : Int) then (if 0 ≤ x6 then (if 0 < (x3.length : Int) then (if ((rd_T124 x5 x6).f0).toList = (rdOf ByteArray.empty x3 0).toList then (metrolabref19_guess.l0 k x3 x5 (wrap64 (x6 + 1)) x6 x186001 x186002 x186003) else (metrolabref19_guess.l0 k x3 x5 (wrap64 (x6 + 1)) x186000 x186001 x186002 x186003)) else (none)) else (none)) else (if 1 ≤ (x3.length : Int) then ((some (x3.drop (1 : Int).toNat : List ByteArray)).bind fun y191 => (if (y191.length : Int) > 0 then (if 0 < (y191.length : Int) then (metrolabref19_guess.j1 k y191 ((rdOf ByteArray.empty y191 0).toList == ([100, 105, 115, 99] : List UInt8)) x186000 x186001 x186002 x186003) else (none)) else (metrolabref19_guess.j1 k y191 false x186000 x186001 x186002 x186003))) else (none))
def metrolabref19_guess.j1 : Nat → List ByteArray → Bool → Int → Bool → Int → Int → Option (Int × Bool × Int × Int × (List (S76)))
  | 0, _, _, _, _, _, _ => none
  | k + 1, x3, x43, x186000, x186001, x186002, x186003 => if x43 = true then (if 1 ≤ (x3.length : Int) then (metrolabref19_guess.j2 k (x3.drop (1 : Int).toNat) x186000 true x186002 x186003) else (none)) else (metrolabref19_guess.j2 k x3 x186000 x186001 x186002 x186003)
def metrolabref19_guess.j2 : Nat → List ByteArray → Int → Bool → Int → Int → Option (Int × Bool × Int × Int × (List (S76)))
  | 0, _, _, _, _, _ => none
  | k + 1, x3, x186000, x186001, x186002, x186003 => if (x3.length : Int) = 0 then (some ((-1), false, 0, 0, ([] : List (S76)))) else (if 0 < (x3.length : Int) then ((metrolabref19_Cut.f k (rdOf ByteArray.empty x3 0)).bind fun bt199 => ((metrolabref19_Number.f k bt199.1).bind fun t201 => (metrolabref19_guess.l1 k x3 1 x186000 x186001 t201 bt199.2 ([] : List (S76))))) else (none))
def metrolabref19_guess.l1 : Nat → List ByteArray → Int → Int → Bool → Int → Int → List (S76) → Option (Int × Bool × Int × Int × (List (S76)))
  | 0, _, _, _, _, _, _, _ => none
  | k + 1, x3, x9, x186000, x186001, x186002, x186003, x186004 => if x9 < (x3.length : Int) then (if x9 < 9 then (if 0 ≤ x9 then ((metrolabref19_Cut.f k (rdOf ByteArray.empty x3 x9)).bind fun bt203 => (if x186004.length < 5864062014805 then (metrolabref19_guess.l1 k x3 (wrap64 (x9 + 1)) x186000 x186001 x186002 x186003 (x186004 ++ [(⟨bt203.1, bt203.2⟩ : S76)])) else (none))) else (none)) else (some (x186000, x186001, x186002, x186003, x186004))) else (some (x186000, x186001, x186002, x186003, x186004))
end
def metrolabref19_guess.f (k : Nat) (a0 : ByteArray) : Option (Int × Bool × Int × Int × (List (S76))) := (metrolabref19_Split.f k a0).bind fun t182 => ((metrolabref19_Rows.f).bind fun t186 => (metrolabref19_guess.l0 k t182 t186 0 (-1) false 0 0))
theorem metrolabref19_guess.mono_l : ∀ k, (∀ y0 y1 y2 y3 y4 y5 y6, LeO (metrolabref19_guess.l0 k y0 y1 y2 y3 y4 y5 y6) (metrolabref19_guess.l0 (k + 1) y0 y1 y2 y3 y4 y5 y6)) ∧ (∀ y0 y1 y2 y3 y4 y5, LeO (metrolabref19_guess.j1 k y0 y1 y2 y3 y4 y5) (metrolabref19_guess.j1 (k + 1) y0 y1 y2 y3 y4 y5)) ∧ (∀ y0 y1 y2 y3 y4, LeO (metrolabref19_guess.j2 k y0 y1 y2 y3 y4) (metrolabref19_guess.j2 (k + 1) y0 y1 y2 y3 y4)) ∧ (∀ y0 y1 y2 y3 y4 y5 y6, LeO (metrolabref19_guess.l1 k y0 y1 y2 y3 y4 y5 y6) (metrolabref19_guess.l1 (k + 1) y0 y1 y2 y3 y4 y5 y6))
  | 0 => ⟨fun _ _ _ _ _ _ _ r h => by simp [metrolabref19_guess.l0] at h, fun _ _ _ _ _ _ r h => by simp [metrolabref19_guess.j1] at h, fun _ _ _ _ _ r h => by simp [metrolabref19_guess.j2] at h, fun _ _ _ _ _ _ _ r h => by simp [metrolabref19_guess.l1] at h⟩
  | k + 1 => by
    obtain ⟨ih0, ih1, ih2, ih3⟩ := metrolabref19_guess.mono_l k
    refine ⟨?_, ?_, ?_, ?_⟩
    · intro y0 y1 y2 y3 y4 y5 y6
      unfold metrolabref19_guess.l0
      repeat' first
      | (with_reducible exact ih0 _ _ _ _ _ _ _)
      | (with_reducible exact ih1 _ _ _ _ _ _)
      | (with_reducible exact ih2 _ _ _ _ _)
      | (with_reducible exact ih3 _ _ _ _ _ _ _)
      | (with_reducible exact metrolabref19_Cut.mono _ _)
      | (with_reducible exact metrolabref19_Number.mono _ _)
      | (with_reducible exact metrolabref19_Split.mono _ _)
      | (with_reducible exact LeO.refl _)
      | (with_reducible exact LeO.none _)
      | (with_reducible refine LeO.ite ?_ ?_)
      | (with_reducible refine LeO.bind ?_ (fun _ => ?_))
      | exact ih0 _ _ _ _ _ _ _
      | exact ih1 _ _ _ _ _ _
      | exact ih2 _ _ _ _ _
      | exact ih3 _ _ _ _ _ _ _
      | exact metrolabref19_Cut.mono _ _
      | exact metrolabref19_Number.mono _ _
      | exact metrolabref19_Split.mono _ _
      | exact LeO.none _
      | refine LeO.ite ?_ ?_
      | refine LeO.bind ?_ (fun _ => ?_)
    · intro y0 y1 y2 y3 y4 y5
      unfold metrolabref19_guess.j1
      repeat' first
      | (with_reducible exact ih0 _ _ _ _ _ _ _)
      | (with_reducible exact ih1 _ _ _ _ _ _)
      | (with_reducible exact ih2 _ _ _ _ _)
      | (with_reducible exact ih3 _ _ _ _ _ _ _)
      | (with_reducible exact metrolabref19_Cut.mono _ _)
      | (with_reducible exact metrolabref19_Number.mono _ _)
      | (with_reducible exact metrolabref19_Split.mono _ _)
      | (with_reducible exact LeO.refl _)
      | (with_reducible exact LeO.none _)
      | (with_reducible refine LeO.ite ?_ ?_)
      | (with_reducible refine LeO.bind ?_ (fun _ => ?_))
      | exact ih0 _ _ _ _ _ _ _
      | exact ih1 _ _ _ _ _ _
      | exact ih2 _ _ _ _ _
      | exact ih3 _ _ _ _ _ _ _
      | exact metrolabref19_Cut.mono _ _
      | exact metrolabref19_Number.mono _ _
      | exact metrolabref19_Split.mono _ _
      | exact LeO.none _
      | refine LeO.ite ?_ ?_
      | refine LeO.bind ?_ (fun _ => ?_)
    · intro y0 y1 y2 y3 y4
      unfold metrolabref19_guess.j2
      repeat' first
      | (with_reducible exact ih0 _ _ _ _ _ _ _)
      | (with_reducible exact ih1 _ _ _ _ _ _)
      | (with_reducible exact ih2 _ _ _ _ _)
      | (with_reducible exact ih3 _ _ _ _ _ _ _)
      | (with_reducible exact metrolabref19_Cut.mono _ _)
      | (with_reducible exact metrolabref19_Number.mono _ _)
      | (with_reducible exact metrolabref19_Split.mono _ _)
      | (with_reducible exact LeO.refl _)
      | (with_reducible exact LeO.none _)
      | (with_reducible refine LeO.ite ?_ ?_)
      | (with_reducible refine LeO.bind ?_ (fun _ => ?_))
      | exact ih0 _ _ _ _ _ _ _
      | exact ih1 _ _ _ _ _ _
      | exact ih2 _ _ _ _ _
      | exact ih3 _ _ _ _ _ _ _
      | exact metrolabref19_Cut.mono _ _
      | exact metrolabref19_Number.mono _ _
      | exact metrolabref19_Split.mono _ _
      | exact LeO.none _
      | refine LeO.ite ?_ ?_
      | refine LeO.bind ?_ (fun _ => ?_)
    · intro y0 y1 y2 y3 y4 y5 y6
      unfold metrolabref19_guess.l1
      repeat' first
      | (with_reducible exact ih0 _ _ _ _ _ _ _)
      | (with_reducible exact ih1 _ _ _ _ _ _)
      | (with_reducible exact ih2 _ _ _ _ _)
      | (with_reducible exact ih3 _ _ _ _ _ _ _)
      | (with_reducible exact metrolabref19_Cut.mono _ _)
      | (with_reducible exact metrolabref19_Number.mono _ _)
      | (with_reducible exact metrolabref19_Split.mono _ _)
      | (with_reducible exact LeO.refl _)
      | (with_reducible exact LeO.none _)
      | (with_reducible refine LeO.ite ?_ ?_)
      | (with_reducible refine LeO.bind ?_ (fun _ => ?_))
      | exact ih0 _ _ _ _ _ _ _
      | exact ih1 _ _ _ _ _ _
      | exact ih2 _ _ _ _ _
      | exact ih3 _ _ _ _ _ _ _
      | exact metrolabref19_Cut.mono _ _
      | exact metrolabref19_Number.mono _ _
      | exact metrolabref19_Split.mono _ _
      | exact LeO.none _
      | refine LeO.ite ?_ ?_
      | refine LeO.bind ?_ (fun _ => ?_)
theorem metrolabref19_guess.mono : ∀ a0 k, LeO (metrolabref19_guess.f k a0) (metrolabref19_guess.f (k + 1) a0) := by
  intro a0 k
  obtain ⟨ih0, ih1, ih2, ih3⟩ := metrolabref19_guess.mono_l k
  unfold metrolabref19_guess.f
  repeat' first
      | (with_reducible exact ih0 _ _ _ _ _ _ _)
      | (with_reducible exact ih1 _ _ _ _ _ _)
      | (with_reducible exact ih2 _ _ _ _ _)
      | (with_reducible exact ih3 _ _ _ _ _ _ _)
      | (with_reducible exact metrolabref19_Cut.mono _ _)
      | (with_reducible exact metrolabref19_Number.mono _ _)
      | (with_reducible exact metrolabref19_Split.mono _ _)
      | (with_reducible exact LeO.refl _)
      | (with_reducible exact LeO.none _)
      | (with_reducible refine LeO.ite ?_ ?_)
      | (with_reducible refine LeO.bind ?_ (fun _ => ?_))
      | exact ih0 _ _ _ _ _ _ _
      | exact ih1 _ _ _ _ _ _
      | exact ih2 _ _ _ _ _
      | exact ih3 _ _ _ _ _ _ _
      | exact metrolabref19_Cut.mono _ _
      | exact metrolabref19_Number.mono _ _
      | exact metrolabref19_Split.mono _ _
      | exact LeO.none _
      | refine LeO.ite ?_ ?_
      | refine LeO.bind ?_ (fun _ => ?_)
end Go.Proofs.YtkohjcfmcliioaaGreatDoor.ZA
namespace Go.Proofs.YtkohjcfmcliioaaGreatDoor.ZA
open Go.RowKit Go.Proofs.YtkohjcfmcliioaaGreatDoorW.PrintWords Go.Proofs.YtkohjcfmcliioaaGreatDoorW.PrintLast Go.Proofs.YtkohjcfmcliioaaGreatDoorW.PrintMore
attribute [local go_sem] max2_int min2_int max_two min_two max_three min_three max_four min_four   -- for this text's walks alone
set_option linter.unusedVariables false
set_option linter.unusedSimpArgs false
mutual
def metrolabref19_Put.l0 : Nat → List ByteArray → ByteArray → List ByteArray → Bool → Int → Option (List ByteArray)
  | 0, _, _, _, _, _ => none
  | k + 1, x0, x1, x5, x6, x7 => if x7 < (x0.length : Int) then (if x6 = true then (metrolabref19_Put.j1 k x0 x1 x5 x6 x7 false) else (if 0 ≤ x7 then (metrolabref19_Put.j1 k x0 x1 x5 x6 x7 (!(Op.bytesLess ((rdOf ByteArray.empty x0 x7).toList) x1.toList))) else (none))) else (if x6 = true then (some x5) else (if x5.length < 8796093022208 then (some (x5 ++ [x1])) else (none)))
def metrolabref19_Put.j1 : Nat → List ByteArray → ByteArray → List ByteArray → Bool → Int → Bool → Option (List ByteArray)
  | 0, _, _, _, _, _, _ => none
  | k + 1, x0, x1, x5, x6, x7, x23 => if x23 = true then (if x5.length < 8796093022208 then ((some (x5 ++ [x1] : List ByteArray)).bind fun y212 => (if 0 ≤ x7 then (if x7 < (x0.length : Int) then (if (rdOf ByteArray.empty x0 x7).toList = x1.toList then (metrolabref19_Put.l0 k x0 x1 y212 true (wrap64 (x7 + 1))) else (if y212.length < 8796093022208 then (metrolabref19_Put.l0 k x0 x1 (y212 ++ [rdOf ByteArray.empty x0 x7]) true (wrap64 (x7 + 1))) else (none))) else (none)) else (none))) else (none)) else (if 0 ≤ x7 then (if x7 < (x0.length : Int) then (if (rdOf ByteArray.empty x0 x7).toList = x1.toList then (metrolabref19_Put.l0 k x0 x1 x5 x6 (wrap64 (x7 + 1))) else (if x5.length < 8796093022208 then (metrolabref19_Put.l0 k x0 x1 (x5 ++ [rdOf ByteArray.empty x0 x7]) x6 (wrap64 (x7 + 1))) else (none))) else (none)) else (none))
end
def metrolabref19_Put.f (k : Nat) (l0 : List ByteArray) (a1 : ByteArray) : Option (List ByteArray) := metrolabref19_Put.l0 k l0 a1 ([] : List ByteArray) false 0
theorem metrolabref19_Put.mono_l : ∀ k, (∀ y0 y1 y2 y3 y4, LeO (metrolabref19_Put.l0 k y0 y1 y2 y3 y4) (metrolabref19_Put.l0 (k + 1) y0 y1 y2 y3 y4)) ∧ (∀ y0 y1 y2 y3 y4 y5, LeO (metrolabref19_Put.j1 k y0 y1 y2 y3 y4 y5) (metrolabref19_Put.j1 (k + 1) y0 y1 y2 y3 y4 y5))
  | 0 => ⟨fun _ _ _ _ _ r h => by simp [metrolabref19_Put.l0] at h, fun _ _ _ _ _ _ r h => by simp [metrolabref19_Put.j1] at h⟩
  | k + 1 => by
    obtain ⟨ih0, ih1⟩ := metrolabref19_Put.mono_l k
    refine ⟨?_, ?_⟩
    · intro y0 y1 y2 y3 y4
      unfold metrolabref19_Put.l0
      repeat' first
      | (with_reducible exact ih0 _ _ _ _ _)
      | (with_reducible exact ih1 _ _ _ _ _ _)
      | (with_reducible exact LeO.refl _)
      | (with_reducible exact LeO.none _)
      | (with_reducible refine LeO.ite ?_ ?_)
      | (with_reducible refine LeO.bind ?_ (fun _ => ?_))
      | exact ih0 _ _ _ _ _
      | exact ih1 _ _ _ _ _ _
      | exact LeO.none _
      | refine LeO.ite ?_ ?_
      | refine LeO.bind ?_ (fun _ => ?_)
    · intro y0 y1 y2 y3 y4 y5
      unfold metrolabref19_Put.j1
      repeat' first
      | (with_reducible exact ih0 _ _ _ _ _)
      | (with_reducible exact ih1 _ _ _ _ _ _)
      | (with_reducible exact LeO.refl _)
      | (with_reducible exact LeO.none _)
      | (with_reducible refine LeO.ite ?_ ?_)
      | (with_reducible refine LeO.bind ?_ (fun _ => ?_))
      | exact ih0 _ _ _ _ _
      | exact ih1 _ _ _ _ _ _
      | exact LeO.none _
      | refine LeO.ite ?_ ?_
      | refine LeO.bind ?_ (fun _ => ?_)
theorem metrolabref19_Put.mono : ∀ a0 a1 k, LeO (metrolabref19_Put.f k a0 a1) (metrolabref19_Put.f (k + 1) a0 a1) := by
  intro a0 a1 k
  obtain ⟨ih0, ih1⟩ := metrolabref19_Put.mono_l k
  unfold metrolabref19_Put.f
  repeat' first
      | (with_reducible exact ih0 _ _ _ _ _)
      | (with_reducible exact ih1 _ _ _ _ _ _)
      | (with_reducible exact LeO.refl _)
      | (with_reducible exact LeO.none _)
      | (with_reducible refine LeO.ite ?_ ?_)
      | (with_reducible refine LeO.bind ?_ (fun _ => ?_))
      | exact ih0 _ _ _ _ _
      | exact ih1 _ _ _ _ _ _
      | exact LeO.none _
      | refine LeO.ite ?_ ?_
      | refine LeO.bind ?_ (fun _ => ?_)
mutual
def metrolabref19_Named.l0 : Nat → List ByteArray → Int → ByteArray → Int → Int → Int → Int → Int → Int → Int → List (S31) → Option (List ByteArray)
  | 0, _, _, _, _, _, _, _, _, _, _, _ => none
  | k + 1, x3, x4, x226000, x226001, x226002, x226003, x226004, x226005, x226006, x226007, x226008 => if x4 < (x226008.length : Int) then (metrolabref19_Named.l1 k x3 x4 0 x226000 x226001 x226002 x226003 x226004 x226005 x226006 x226007 x226008) else (some x3)
def metrolabref19_Named.l1 : Nat → List ByteArray → Int → Int → ByteArray → Int → Int → Int → Int → Int → Int → Int → List (S31) → Option (List ByteArray)
  | 0, _, _, _, _, _, _, _, _, _, _, _, _ => none
  | k + 1, x3, x4, x5, x226000, x226001, x226002, x226003, x226004, x226005, x226006, x226007, x226008 => if 0 ≤ x4 then (if x4 < (x226008.length : Int) then (if x5 < (((rd_T31 x226008 x4).f4).length : Int) then (if 0 ≤ x5 then ((metrolabref19_Put.f k x3 ((rd_T76 ((rd_T31 x226008 x4).f4) x5).f0)).bind fun t229 => (metrolabref19_Named.l1 k t229 x4 (wrap64 (x5 + 1)) x226000 x226001 x226002 x226003 x226004 x226005 x226006 x226007 x226008)) else (none)) else (metrolabref19_Named.l0 k x3 (wrap64 (x4 + 1)) x226000 x226001 x226002 x226003 x226004 x226005 x226006 x226007 x226008)) else (none)) else (none)
end
def metrolabref19_Named.f (k : Nat) (a0_0 : ByteArray) (a0_1 : Int) (a0_2 : Int) (a0_3 : Int) (a0_4 : Int) (a0_5 : Int) (a0_6 : Int) (a0_7 : Int) (l0_8 : List (S31)) : Option (List ByteArray) := metrolabref19_Named.l0 k ([] : List ByteArray) 0 a0_0 a0_1 a0_2 a0_3 a0_4 a0_5 a0_6 a0_7 l0_8
theorem metrolabref19_Named.mono_l : ∀ k, (∀ y0 y1 y2 y3 y4 y5 y6 y7 y8 y9 y10, LeO (metrolabref19_Named.l0 k y0 y1 y2 y3 y4 y5 y6 y7 y8 y9 y10) (metrolabref19_Named.l0 (k + 1) y0 y1 y2 y3 y4 y5 y6 y7 y8 y9 y10)) ∧ (∀ y0 y1 y2 y3 y4 y5 y6 y7 y8 y9 y10 y11, LeO (metrolabref19_Named.l1 k y0 y1 y2 y3 y4 y5 y6 y7 y8 y9 y10 y11) (metrolabref19_Named.l1 (k + 1) y0 y1 y2 y3 y4 y5 y6 y7 y8 y9 y10 y11))
  | 0 => ⟨fun _ _ _ _ _ _ _ _ _ _ _ r h => by simp [metrolabref19_Named.l0] at h, fun _ _ _ _ _ _ _ _ _ _ _ _ r h => by simp [metrolabref19_Named.l1] at h⟩
  | k + 1 => by
    obtain ⟨ih0, ih1⟩ := metrolabref19_Named.mono_l k
    refine ⟨?_, ?_⟩
    · intro y0 y1 y2 y3 y4 y5 y6 y7 y8 y9 y10
      unfold metrolabref19_Named.l0
      repeat' first
      | (with_reducible exact ih0 _ _ _ _ _ _ _ _ _ _ _)
      | (with_reducible exact ih1 _ _ _ _ _ _ _ _ _ _ _ _)
      | (with_reducible exact metrolabref19_Put.mono _ _ _)
      | (with_reducible exact LeO.refl _)
      | (with_reducible exact LeO.none _)
      | (with_reducible refine LeO.ite ?_ ?_)
      | (with_reducible refine LeO.bind ?_ (fun _ => ?_))
      | exact ih0 _ _ _ _ _ _ _ _ _ _ _
      | exact ih1 _ _ _ _ _ _ _ _ _ _ _ _
      | exact metrolabref19_Put.mono _ _ _
      | exact LeO.none _
      | refine LeO.ite ?_ ?_
      | refine LeO.bind ?_ (fun _ => ?_)
    · intro y0 y1 y2 y3 y4 y5 y6 y7 y8 y9 y10 y11
      unfold metrolabref19_Named.l1
      repeat' first
      | (with_reducible exact ih0 _ _ _ _ _ _ _ _ _ _ _)
      | (with_reducible exact ih1 _ _ _ _ _ _ _ _ _ _ _ _)
      | (with_reducible exact metrolabref19_Put.mono _ _ _)
      | (with_reducible exact LeO.refl _)
      | (with_reducible exact LeO.none _)
      | (with_reducible refine LeO.ite ?_ ?_)
      | (with_reducible refine LeO.bind ?_ (fun _ => ?_))
      | exact ih0 _ _ _ _ _ _ _ _ _ _ _
      | exact ih1 _ _ _ _ _ _ _ _ _ _ _ _
      | exact metrolabref19_Put.mono _ _ _
      | exact LeO.none _
      | refine LeO.ite ?_ ?_
      | refine LeO.bind ?_ (fun _ => ?_)
theorem metrolabref19_Named.mono : ∀ a0 a1 a2 a3 a4 a5 a6 a7 a8 k, LeO (metrolabref19_Named.f k a0 a1 a2 a3 a4 a5 a6 a7 a8) (metrolabref19_Named.f (k + 1) a0 a1 a2 a3 a4 a5 a6 a7 a8) := by
  intro a0 a1 a2 a3 a4 a5 a6 a7 a8 k
  obtain ⟨ih0, ih1⟩ := metrolabref19_Named.mono_l k
  unfold metrolabref19_Named.f
  repeat' first
      | (with_reducible exact ih0 _ _ _ _ _ _ _ _ _ _ _)
      | (with_reducible exact ih1 _ _ _ _ _ _ _ _ _ _ _ _)
      | (with_reducible exact metrolabref19_Put.mono _ _ _)
      | (with_reducible exact LeO.refl _)
      | (with_reducible exact LeO.none _)
      | (with_reducible refine LeO.ite ?_ ?_)
      | (with_reducible refine LeO.bind ?_ (fun _ => ?_))
      | exact ih0 _ _ _ _ _ _ _ _ _ _ _
      | exact ih1 _ _ _ _ _ _ _ _ _ _ _ _
      | exact metrolabref19_Put.mono _ _ _
      | exact LeO.none _
      | refine LeO.ite ?_ ?_
      | refine LeO.bind ?_ (fun _ => ?_)
end Go.Proofs.YtkohjcfmcliioaaGreatDoor.ZA
namespace Go.Proofs.YtkohjcfmcliioaaGreatDoor.ZA
open Go.RowKit Go.Proofs.YtkohjcfmcliioaaGreatDoorW.PrintWords Go.Proofs.YtkohjcfmcliioaaGreatDoorW.PrintLast Go.Proofs.YtkohjcfmcliioaaGreatDoorW.PrintMore
attribute [local go_sem] max2_int min2_int max_two min_two max_three min_three max_four min_four   -- for this text's walks alone
set_option linter.unusedVariables false
set_option linter.unusedSimpArgs false
mutual
def metrolabref19_Written.j0 : Nat → ByteArray → Int → Bool → Int → Int → List (S76) → Option (ByteArray)
  | 0, _, _, _, _, _, _ => none
  | k + 1, x3, x233000, x233001, x233002, x233003, x233004 => (metrolabref19_Digits.f k x233002).bind fun t237 => (if 1 + t237.size ≤ 9223372036854775807 then ((metrolabref19_mark.f x233003).bind fun t238 => (if ((⟨#[32]⟩ : ByteArray) ++ t237).size + t238.size ≤ 9223372036854775807 then (if x3.size + (((⟨#[32]⟩ : ByteArray) ++ t237) ++ t238).size ≤ 9223372036854775807 then (metrolabref19_Written.l0 k (x3 ++ (((⟨#[32]⟩ : ByteArray) ++ t237) ++ t238)) 0 x233000 x233001 x233002 x233003 x233004) else (none)) else (none))) else (none))
def metrolabref19_Written.l0 : Nat → ByteArray → Int → Int → Bool → Int → Int → List (S76) → Option (ByteArray)
  | 0, _, _, _, _, _, _, _ => none
  | k + 1, x3, x4, x233000, x233001, x233002, x233003, x233004 => if x4 < (x233004.length : Int) then (if 0 ≤ x4 then (if 1 + ((rd_T76 x233004 x4).f0).size ≤ 9223372036854775807 then ((metrolabref19_mark.f ((rd_T76 x233004 x4).f1)).bind fun t241 => (if ((⟨#[32]⟩ : ByteArray) ++ ((rd_T76 x233004 x4).f0)).size + t241.size ≤ 9223372036854775807 then (if x3.size + (((⟨#[32]⟩ : ByteArray) ++ ((rd_T76 x233004 x4).f0)) ++ t241).size ≤ 9223372036854775807 then (metrolabref19_Written.l0 k (x3 ++ (((⟨#[32]⟩ : ByteArray) ++ ((rd_T76 x233004 x4).f0)) ++ t241)) (wrap64 (x4 + 1)) x233000 x233001 x233002 x233003 x233004) else (none)) else (none))) else (none)) else (none)) else (some x3)
end
def metrolabref19_Written.f (k : Nat) (a0_0 : Int) (a0_1 : Bool) (a0_2 : Int) (a0_3 : Int) (l0_4 : List (S76)) : Option (ByteArray) := (metrolabref19_Rows.f).bind fun t233 => (if 0 ≤ a0_0 then (if a0_0 < (t233.length : Int) then (if a0_1 = true then (if ((rd_T124 t233 a0_0).f0).size + 5 ≤ 9223372036854775807 then (metrolabref19_Written.j0 k (((rd_T124 t233 a0_0).f0) ++ (⟨#[32, 100, 105, 115, 99]⟩ : ByteArray)) a0_0 a0_1 a0_2 a0_3 l0_4) else (none)) else (metrolabref19_Written.j0 k ((rd_T124 t233 a0_0).f0) a0_0 a0_1 a0_2 a0_3 l0_4)) else (none)) else (none))
theorem metrolabref19_Written.mono_l : ∀ k, (∀ y0 y1 y2 y3 y4 y5, LeO (metrolabref19_Written.j0 k y0 y1 y2 y3 y4 y5) (metrolabref19_Written.j0 (k + 1) y0 y1 y2 y3 y4 y5)) ∧ (∀ y0 y1 y2 y3 y4 y5 y6, LeO (metrolabref19_Written.l0 k y0 y1 y2 y3 y4 y5 y6) (metrolabref19_Written.l0 (k + 1) y0 y1 y2 y3 y4 y5 y6))
  | 0 => ⟨fun _ _ _ _ _ _ r h => by simp [metrolabref19_Written.j0] at h, fun _ _ _ _ _ _ _ r h => by simp [metrolabref19_Written.l0] at h⟩
  | k + 1 => by
    obtain ⟨ih0, ih1⟩ := metrolabref19_Written.mono_l k
    refine ⟨?_, ?_⟩
    · intro y0 y1 y2 y3 y4 y5
      unfold metrolabref19_Written.j0
      repeat' first
      | (with_reducible exact ih0 _ _ _ _ _ _)
      | (with_reducible exact ih1 _ _ _ _ _ _ _)
      | (with_reducible exact metrolabref19_Digits.mono _ _)
      | (with_reducible exact LeO.refl _)
      | (with_reducible exact LeO.none _)
      | (with_reducible refine LeO.ite ?_ ?_)
      | (with_reducible refine LeO.bind ?_ (fun _ => ?_))
      | exact ih0 _ _ _ _ _ _
      | exact ih1 _ _ _ _ _ _ _
      | exact metrolabref19_Digits.mono _ _
      | exact LeO.none _
      | refine LeO.ite ?_ ?_
      | refine LeO.bind ?_ (fun _ => ?_)
    · intro y0 y1 y2 y3 y4 y5 y6
      unfold metrolabref19_Written.l0
      repeat' first
      | (with_reducible exact ih0 _ _ _ _ _ _)
      | (with_reducible exact ih1 _ _ _ _ _ _ _)
      | (with_reducible exact metrolabref19_Digits.mono _ _)
      | (with_reducible exact LeO.refl _)
      | (with_reducible exact LeO.none _)
      | (with_reducible refine LeO.ite ?_ ?_)
      | (with_reducible refine LeO.bind ?_ (fun _ => ?_))
      | exact ih0 _ _ _ _ _ _
      | exact ih1 _ _ _ _ _ _ _
      | exact metrolabref19_Digits.mono _ _
      | exact LeO.none _
      | refine LeO.ite ?_ ?_
      | refine LeO.bind ?_ (fun _ => ?_)
theorem metrolabref19_Written.mono : ∀ a0 a1 a2 a3 a4 k, LeO (metrolabref19_Written.f k a0 a1 a2 a3 a4) (metrolabref19_Written.f (k + 1) a0 a1 a2 a3 a4) := by
  intro a0 a1 a2 a3 a4 k
  obtain ⟨ih0, ih1⟩ := metrolabref19_Written.mono_l k
  unfold metrolabref19_Written.f
  repeat' first
      | (with_reducible exact ih0 _ _ _ _ _ _)
      | (with_reducible exact ih1 _ _ _ _ _ _ _)
      | (with_reducible exact metrolabref19_Digits.mono _ _)
      | (with_reducible exact LeO.refl _)
      | (with_reducible exact LeO.none _)
      | (with_reducible refine LeO.ite ?_ ?_)
      | (with_reducible refine LeO.bind ?_ (fun _ => ?_))
      | exact ih0 _ _ _ _ _ _
      | exact ih1 _ _ _ _ _ _ _
      | exact metrolabref19_Digits.mono _ _
      | exact LeO.none _
      | refine LeO.ite ?_ ?_
      | refine LeO.bind ?_ (fun _ => ?_)
def metrolabref19_Text.f (k : Nat) (a0_0 : Int) (a0_1 : Bool) (a0_2 : Int) (a0_3 : Int) (l0_4 : List (S76)) : Option (ByteArray × Int) := (metrolabref19_Plain.f k a0_0 a0_1 a0_2 a0_3 l0_4).bind fun t243 => (if t243 = 0 then ((metrolabref19_Written.f k a0_0 a0_1 a0_2 a0_3 l0_4).bind fun t244 => (some (t244, 0))) else (some ((⟨#[]⟩ : ByteArray), t243)))
theorem metrolabref19_Text.mono : ∀ a0 a1 a2 a3 a4 k, LeO (metrolabref19_Text.f k a0 a1 a2 a3 a4) (metrolabref19_Text.f (k + 1) a0 a1 a2 a3 a4) := by
  intro a0 a1 a2 a3 a4 k
  unfold metrolabref19_Text.f
  repeat' first
      | (with_reducible exact metrolabref19_Plain.mono _ _ _ _ _ _)
      | (with_reducible exact metrolabref19_Written.mono _ _ _ _ _ _)
      | (with_reducible exact LeO.refl _)
      | (with_reducible exact LeO.none _)
      | (with_reducible refine LeO.ite ?_ ?_)
      | (with_reducible refine LeO.bind ?_ (fun _ => ?_))
      | exact metrolabref19_Plain.mono _ _ _ _ _ _
      | exact metrolabref19_Written.mono _ _ _ _ _ _
      | exact LeO.none _
      | refine LeO.ite ?_ ?_
      | refine LeO.bind ?_ (fun _ => ?_)
end Go.Proofs.YtkohjcfmcliioaaGreatDoor.ZA
namespace Go.Proofs.YtkohjcfmcliioaaGreatDoor.ZA
open Go.RowKit Go.Proofs.YtkohjcfmcliioaaGreatDoorW.PrintWords Go.Proofs.YtkohjcfmcliioaaGreatDoorW.PrintLast Go.Proofs.YtkohjcfmcliioaaGreatDoorW.PrintMore
attribute [local go_sem] max2_int min2_int max_two min_two max_three min_three max_four min_four   -- for this text's walks alone
set_option linter.unusedVariables false
set_option linter.unusedSimpArgs false
def metrolabref19_Parse.f (k : Nat) (a0 : ByteArray) : Option (Int × Bool × Int × Int × (List (S76)) × Int) := if (a0.size : Int) > 4096 then (some (0, false, 0, 0, ([] : List (S76)), 17)) else ((metrolabref19_guess.f k a0).bind fun bt246 => ((metrolabref19_Text.f k bt246.1 bt246.2.1 bt246.2.2.1 bt246.2.2.2.1 bt246.2.2.2.2).bind fun bt254 => (if bt254.2 = 0 then (if bt254.1.toList = a0.toList then (some (bt246.1, bt246.2.1, bt246.2.2.1, bt246.2.2.2.1, bt246.2.2.2.2, 0)) else (some (0, false, 0, 0, ([] : List (S76)), 4))) else (some (0, false, 0, 0, ([] : List (S76)), 4)))))
theorem metrolabref19_Parse.mono : ∀ a0 k, LeO (metrolabref19_Parse.f k a0) (metrolabref19_Parse.f (k + 1) a0) := by
  intro a0 k
  unfold metrolabref19_Parse.f
  repeat' first
      | (with_reducible exact metrolabref19_Text.mono _ _ _ _ _ _)
      | (with_reducible exact metrolabref19_guess.mono _ _)
      | (with_reducible exact LeO.refl _)
      | (with_reducible exact LeO.none _)
      | (with_reducible refine LeO.ite ?_ ?_)
      | (with_reducible refine LeO.bind ?_ (fun _ => ?_))
      | exact metrolabref19_Text.mono _ _ _ _ _ _
      | exact metrolabref19_guess.mono _ _
      | exact LeO.none _
      | refine LeO.ite ?_ ?_
      | refine LeO.bind ?_ (fun _ => ?_)
def metrolablaw18_Hole.f  : Option (ByteArray × Int × Int × Int × Int × Int × Int × Int × (List (S31))) := some ((⟨#[72]⟩ : ByteArray), 1, 2, 5000, 0, 0, 1000, 1011, ([] : List (S31)))
set_option maxHeartbeats 8000000 in
set_option maxRecDepth 100000 in
theorem metrolablaw18_Hole.calls  (r1 : ByteArray) (r2 : Int) (r3 : Int) (r4 : Int) (r5 : Int) (r6 : Int) (r7 : Int) (r8 : Int) (r9 : List (S31)) (w : World) (h : metrolablaw18_Hole.f  = some (r1, r2, r3, r4, r5, r6, r7, r8, r9)) :
    Calls Tryz.prog 38 #[] w fun e w' => ∃ v8_ : Value, e = .returned (.agg #[.string r1, .int .i64 r2, .int .i64 r3, .int .i64 r4, .int .i64 r5, .int .i64 r6, .int .i64 r7, .int .i64 r8, v8_]) ∧ Kd.S k31 31 w' w.heap.size (fun _ => True) v8_ r9 ∧ Below w.heap.size w w' := by
  have hu28 := Tryz.underlying28
  have hu23 := Tryz.underlying23
  have hu25 := Tryz.underlying25
  have HB := Aside0.mk (Below.refl w.heap.size w)
  have H : (some ((⟨#[72]⟩ : ByteArray), 1, 2, 5000, 0, 0, 1000, 1011, ([] : List (S31)))) = some (r1, r2, r3, r4, r5, r6, r7, r8, r9) := h
  clear h
  simp only [Option.some.injEq, Prod.mk.injEq] at H
  obtain ⟨rfl, rfl, rfl, rfl, rfl, rfl, rfl, rfl, rfl⟩ := H
  go_enter Tryz.func38, Tryz.ntmps38
  go_wp2_with (first | ((with_reducible refine gate_dst (N := 0) rfl ?_); refine box_event ?hg (N := 0) ?hd (cs := #[.string (⟨#[]⟩ : ByteArray), .int .i64 0, .int .i64 0, .int .i64 0, .int .i64 0, .int .i64 0, .int .i64 0, .int .i64 0, .slice none 0 0]) (t := 28) ?hr ?_; (case hd => rfl); (case hg => rfl); (case hr => first | (go_simp; done) | (go_simp; rfl)); intro gb256 hg w1 hbox hb; have n0_ := Aside0.mk (below_step (by repeat (first | (with_reducible first | exact HB.out | apply below_alloc | apply pw_below_drewN | apply below_drew1) | exact HB.out)) hb); have n1_ := Aside0.mk (hbox); have n2_ := Aside0.mk ((by rw [hg]; exact (below_size (by repeat (first | (with_reducible first | exact HB.out | apply below_alloc | apply pw_below_drewN | apply below_drew1) | exact HB.out))) : w.heap.size ≤ gb256)); have n3_ := Aside0.mk ((by rw [hg]; exact (below_size (by repeat (first | (with_reducible first | exact HB.out | apply below_alloc | apply pw_below_drewN | apply below_drew1) | exact HB.out))) : w.heap.size ≤ gb256)); clear HB; have HB := n0_; have BK256 := n1_; have GW256 := n2_; have GE256 := n3_; clear n0_ n1_ n2_ n3_; clear hb hbox hg; have hcz2_0 : w1.cell? ⟨gb256, 0, none⟩ = some (.string (⟨#[]⟩ : ByteArray)) := (blk_cell BK256.out 0).trans rfl; have hcz2_1 : w1.cell? ⟨gb256, 1, none⟩ = some (.int .i64 0) := (blk_cell BK256.out 1).trans rfl; have hcz2_2 : w1.cell? ⟨gb256, 2, none⟩ = some (.int .i64 0) := (blk_cell BK256.out 2).trans rfl; have hcz2_3 : w1.cell? ⟨gb256, 3, none⟩ = some (.int .i64 0) := (blk_cell BK256.out 3).trans rfl; have hcz2_4 : w1.cell? ⟨gb256, 4, none⟩ = some (.int .i64 0) := (blk_cell BK256.out 4).trans rfl; have hcz2_5 : w1.cell? ⟨gb256, 5, none⟩ = some (.int .i64 0) := (blk_cell BK256.out 5).trans rfl; have hcz2_6 : w1.cell? ⟨gb256, 6, none⟩ = some (.int .i64 0) := (blk_cell BK256.out 6).trans rfl; have hcz2_7 : w1.cell? ⟨gb256, 7, none⟩ = some (.int .i64 0) := (blk_cell BK256.out 7).trans rfl; have hcz2_8 : w1.cell? ⟨gb256, 8, none⟩ = some (.slice none 0 0) := (blk_cell BK256.out 8).trans rfl; have hfz2_0 := blk_frozen BK256.out 0; have hfz2_1 := blk_frozen BK256.out 1; have hfz2_2 := blk_frozen BK256.out 2; have hfz2_3 := blk_frozen BK256.out 3; have hfz2_4 := blk_frozen BK256.out 4; have hfz2_5 := blk_frozen BK256.out 5; have hfz2_6 := blk_frozen BK256.out 6; have hfz2_7 := blk_frozen BK256.out 7; have hfz2_8 := blk_frozen BK256.out 8))
  refine bodyPost_ret (results_cell_row rfl _ _ gb256 28 #[.string (⟨#[72]⟩ : ByteArray), .int .i64 1, .int .i64 2, .int .i64 5000, .int .i64 0, .int .i64 0, .int .i64 1000, .int .i64 1011, .slice none 0 0] (0, 0) _ rfl (by (with_reducible repeat (first | refine blk_drewN ?_ _ | refine blk_drew ?_ | refine blk_alloc ?_ _)); refine blk_put (cs := #[.string (⟨#[72]⟩ : ByteArray), .int .i64 1, .int .i64 2, .int .i64 5000, .int .i64 0, .int .i64 0, .int .i64 1000, .int .i64 1011, .slice none 0 0]) ?_ 8 _ rfl; (with_reducible repeat (first | refine blk_drewN ?_ _ | refine blk_drew ?_ | refine blk_alloc ?_ _)); refine blk_put (cs := #[.string (⟨#[72]⟩ : ByteArray), .int .i64 1, .int .i64 2, .int .i64 5000, .int .i64 0, .int .i64 0, .int .i64 1000, .int .i64 0, .slice none 0 0]) ?_ 7 _ rfl; (with_reducible repeat (first | refine blk_drewN ?_ _ | refine blk_drew ?_ | refine blk_alloc ?_ _)); refine blk_put (cs := #[.string (⟨#[72]⟩ : ByteArray), .int .i64 1, .int .i64 2, .int .i64 5000, .int .i64 0, .int .i64 0, .int .i64 0, .int .i64 0, .slice none 0 0]) ?_ 6 _ rfl; (with_reducible repeat (first | refine blk_drewN ?_ _ | refine blk_drew ?_ | refine blk_alloc ?_ _)); refine blk_put (cs := #[.string (⟨#[72]⟩ : ByteArray), .int .i64 1, .int .i64 2, .int .i64 5000, .int .i64 0, .int .i64 0, .int .i64 0, .int .i64 0, .slice none 0 0]) ?_ 5 _ rfl; (with_reducible repeat (first | refine blk_drewN ?_ _ | refine blk_drew ?_ | refine blk_alloc ?_ _)); refine blk_put (cs := #[.string (⟨#[72]⟩ : ByteArray), .int .i64 1, .int .i64 2, .int .i64 5000, .int .i64 0, .int .i64 0, .int .i64 0, .int .i64 0, .slice none 0 0]) ?_ 4 _ rfl; (with_reducible repeat (first | refine blk_drewN ?_ _ | refine blk_drew ?_ | refine blk_alloc ?_ _)); refine blk_put (cs := #[.string (⟨#[72]⟩ : ByteArray), .int .i64 1, .int .i64 2, .int .i64 0, .int .i64 0, .int .i64 0, .int .i64 0, .int .i64 0, .slice none 0 0]) ?_ 3 _ rfl; (with_reducible repeat (first | refine blk_drewN ?_ _ | refine blk_drew ?_ | refine blk_alloc ?_ _)); refine blk_put (cs := #[.string (⟨#[72]⟩ : ByteArray), .int .i64 1, .int .i64 0, .int .i64 0, .int .i64 0, .int .i64 0, .int .i64 0, .int .i64 0, .slice none 0 0]) ?_ 2 _ rfl; (with_reducible repeat (first | refine blk_drewN ?_ _ | refine blk_drew ?_ | refine blk_alloc ?_ _)); refine blk_put (cs := #[.string (⟨#[72]⟩ : ByteArray), .int .i64 0, .int .i64 0, .int .i64 0, .int .i64 0, .int .i64 0, .int .i64 0, .int .i64 0, .slice none 0 0]) ?_ 1 _ rfl; (with_reducible repeat (first | refine blk_drewN ?_ _ | refine blk_drew ?_ | refine blk_alloc ?_ _)); refine blk_put (cs := #[.string (⟨#[]⟩ : ByteArray), .int .i64 0, .int .i64 0, .int .i64 0, .int .i64 0, .int .i64 0, .int .i64 0, .int .i64 0, .slice none 0 0]) ?_ 0 _ rfl; (with_reducible repeat (first | refine blk_drewN ?_ _ | refine blk_drew ?_ | refine blk_alloc ?_ _)); exact BK256.out) Tryz.underlying28 rfl (by kernel_rfl)) rfl ?_
  exact ⟨_, by first | rfl | (simp [errW_none, errW_some] <;> rfl) | (simp [*, errW_none, errW_some] <;> rfl), by first | exact Kd.S_nil _ _ _ _ _ | exact Kd.N_nil _ _ _ _ _ | exact Kd.V_nil _ _ _ _ _ | exact Kd.Q_nil _ _ _ _ _ | exact Kd.R_nil _ _ _ _ _, by repeat (first | (with_reducible first | exact HB.out | apply below_alloc | apply pw_below_drewN | apply below_drew1 | refine below_set ?_ GE256.out) | exact HB.out)⟩
end Go.Proofs.YtkohjcfmcliioaaGreatDoor.ZA
set_option linter.unusedVariables false
namespace Go.Proofs.YtkohjcfmcliioaaGreatDoor
open Go Go.RowKit Go.Proofs.YtkohjcfmcliioaaGreatDoorW.PrintWords
theorem Hid.mk' {p : Prop} (h : p) : Hid p := h
theorem bytesWorld_below (w : World) (e : TypeId) (s : ByteArray) : Below w.heap.size w (Lib.bytesWorld w e s) :=
  ⟨rfl, rfl, rfl, by simp [Lib.bytesWorld, World.freeze, World.alloc, World.drew, -World.alloc_eq, -World.drew_eq], fun k hk => Lib.bytesWorld_at_old w e s k hk⟩
/-- Letters, and what may stand in a name. -/
def letB (c : Int) : Bool := (decide (65 ≤ c) && decide (c ≤ 90)) || (decide (97 ≤ c) && decide (c ≤ 122))
def nameB (c : Int) : Bool := letB c || (decide (48 ≤ c) && decide (c ≤ 57))
theorem letter_f (c : Int) : ZA.dimension_letter.f c = some (letB c) := by
  unfold ZA.dimension_letter.f letB
  by_cases h1 : 65 ≤ c <;> by_cases h2 : c ≤ 90 <;> by_cases h3 : 97 ≤ c <;> by_cases h4 : c ≤ 122 <;> simp [h1, h2, h3, h4]
theorem digit_f (c : Int) : ZA.dimension_digit.f c = some (decide (48 ≤ c) && decide (c ≤ 57)) := by
  unfold ZA.dimension_digit.f
  by_cases h1 : 48 ≤ c <;> simp [h1]
def nameS (s : ByteArray) : Int := if 24 < s.size then 17 else match s.data.toList with
  | [] => 3
  | c :: t => if letB c.toNat = true then (if (c :: t).all (fun x => nameB x.toNat) = true then 0 else 3) else 3
def NameP (s : ByteArray) (w : World) (r : Int) : Prop := Calls Tryz.prog 48 #[.string s] w fun e w' => e = .returned (.int .i64 r) ∧ Below w.heap.size w w'
set_option maxRecDepth 100000 in
theorem name_long (s : ByteArray) (w : World) (h : 24 < s.size) : NameP s w 17 := by
  unfold NameP
  have d : decide ((s.size : Int) > 24) = true := decide_eq_true (by omega)
  have h' : (s.size : Int) > 24 := by omega
  clear h
  go_enter Tryz.func48, Tryz.ntmps48
  go_wp2_with fail
  go_ret
  exact ⟨rfl, Below.refl _ _⟩
set_option maxRecDepth 100000 in
theorem name_none (w : World) : NameP ⟨#[]⟩ w 3 := by
  unfold NameP
  go_enter Tryz.func48, Tryz.ntmps48
  go_wp2_with fail
  go_ret
  exact ⟨rfl, Below.refl _ _⟩
theorem let_calls (c : Int) (w : World) : Calls Tryz.prog 86 #[.int .u8 c] w fun e w' => e = .returned (.bool (letB c)) ∧ Below w.heap.size w w' :=
  (ZA.dimension_letter.calls c _ w (letter_f c)).mono fun _ _ ⟨he, hd⟩ => ⟨he, hd.below⟩
theorem dig_calls (c : Int) (w : World) : Calls Tryz.prog 87 #[.int .u8 c] w fun e w' => e = .returned (.bool (decide (48 ≤ c) && decide (c ≤ 57))) ∧ Below w.heap.size w w' :=
  (ZA.dimension_digit.calls c _ w (digit_f c)).mono fun _ _ ⟨he, hd⟩ => ⟨he, hd.below⟩
set_option maxRecDepth 100000 in
theorem name_first (s : ByteArray) (w : World) (h24 : s.size ≤ 24) (h0 : 0 < s.size) (hl : letB ((s[0]'h0).toNat : Int) = false) : NameP s w 3 := by
  unfold NameP
  have d : decide ((s.size : Int) > 24) = false := decide_eq_false (by omega)
  have h' : ¬ ((s.size : Int) > 24) := by omega
  have hne : s.toList.isEmpty = false := by
    rw [ByteArray.toList_eq]
    cases hs : s.data.toList with
    | nil => have : s.size = 0 := by show s.data.size = 0; rw [← Array.length_toList, hs]; rfl
             omega
    | cons a t => rfl
  have hC := fun W => let_calls ((s[0]'h0).toNat : Int) W
  rw [hl] at hC
  clear h24 hl
  go_enter Tryz.func48, Tryz.ntmps48
  go_wp2_with fail
  refine (hC w).mono ?_
  rintro e w1 ⟨rfl, hb⟩
  go_wp2_with fail
  go_ret
  exact ⟨rfl, hb⟩
set_option maxRecDepth 100000 in
theorem name_loop (s : ByteArray) (w : World) (h24 : s.size ≤ 24) (h0 : 0 < s.size) (hl : letB ((s[0]'h0).toNat : Int) = true) (R : Int) (hR : Hid (R = if s.data.toList.all (fun x => nameB x.toNat) = true then 0 else 3)) : NameP s w R := by
  unfold NameP
  have d : decide ((s.size : Int) > 24) = false := decide_eq_false (by omega)
  have h' : ¬ ((s.size : Int) > 24) := by omega
  have hne : s.toList.isEmpty = false := by
    rw [ByteArray.toList_eq]
    cases hs : s.data.toList with
    | nil => have : s.size = 0 := by show s.data.size = 0; rw [← Array.length_toList, hs]; rfl
             omega
    | cons a t => rfl
  have hC := fun W => let_calls ((s[0]'h0).toNat : Int) W
  rw [hl] at hC
  clear hl
  go_enter Tryz.func48, Tryz.ntmps48
  go_wp2_with fail
  refine (hC w).mono ?_
  rintro e w1 ⟨rfl, hb⟩
  clear hC
  go_wp2_with fail
  rw [Lib.run_convert_string_bytes w1 9 130 5 s Tryz.underlying9 Tryz.underlying130 Tryz.underlying5]
  simp only [Result.andThen_ok]
  have hcell := fun (j : Nat) (hj : j < s.size) => Lib.bytesWorld_cell w1 5 s j hj
  have hsz := Lib.bytesWorld_size w1 5 s
  have hB2 := Hid.mk' (Below.trans hb ((bytesWorld_below w1 5 s).mono hb.size))
  generalize grownCap w1 s.size 0 5 = cap
  generalize Lib.bytesWorld w1 5 s = W2 at hcell hsz hB2 ⊢
  have hlt2 : w1.heap.size < W2.heap.size := by omega
  clear hb hsz
  generalize w1.heap.size = b at hcell hlt2 ⊢
  have HC := Hid.mk' hcell
  clear hcell
  go_wp2_with fail
  go_loopg [19] s.size (fun g s19 wr => ∃ i : Nat, s19 = .int .i64 (i : Int) ∧ i ≤ s.size ∧ s.size - i ≤ g ∧ Hid (∀ c ∈ s.data.toList.take i, nameB c.toNat = true) ∧ Hid (Below W2.heap.size W2 wr))
  case atStart => exact ⟨0, rfl, Nat.zero_le _, Nat.le_refl _, Hid.mk' (by simp), Hid.mk' (Below.refl _ _)⟩
  case round =>
    obtain ⟨i, rfl, hi, hg, hall, hB⟩ := hrel
    by_cases hlt : i < s.size
    · have g1 : (i : Int) < (s.size : Int) := by omega
      have g0 : (0 : Int) ≤ (i : Int) := by omega
      obtain ⟨c, hcv⟩ : ∃ c : Nat, c = (s.data.toList.getD i 0).toNat := ⟨_, rfl⟩
      have hx : wr.cell? ⟨b, i, none⟩ = some (.int .u8 (c : Int)) := by rw [hcv]; exact (hB.out.cell (p := ⟨b, i, none⟩) hlt2).trans (HC.out i hlt)
      have hil : i < s.data.toList.length := by rw [Array.length_toList]; exact hlt
      have hgc : c = (s.data.toList[i]).toNat := by rw [hcv, List.getD_eq_getElem?_getD, List.getElem?_eq_getElem hil]; rfl
      have hw1 : IntKind.i64.wrap ((i : Int) + 1) = ((i + 1 : Nat) : Int) := IntWalk.i64_in _ ⟨by omega, by omega⟩
      have hstep : Hid (nameB (c : Int) = true → ∀ x ∈ s.data.toList.take (i + 1), nameB x.toNat = true) := Hid.mk' fun hn x hm => by
        rw [List.take_succ_eq_append_getElem hil] at hm
        rcases List.mem_append.1 hm with h | h
        · exact hall.out x h
        · rw [List.mem_singleton.1 h, ← hgc]; exact hn
      have hbad : Hid (nameB (c : Int) = false → s.data.toList.all (fun x => nameB x.toNat) = false) := Hid.mk' fun hn => by
        rw [Bool.eq_false_iff]
        intro h
        have := List.all_eq_true.1 h _ (List.getElem_mem hil)
        rw [← hgc, hn] at this
        cases this
      clear hcv hgc hil HC
      by_cases hl : letB (c : Int) = true
      · have hn : nameB (c : Int) = true := by unfold nameB; rw [hl]; rfl
        have hC := let_calls (c : Int) wr
        rw [hl] at hC
        have hnx := Hid.mk' (hstep.out hn)
        clear hstep hbad hn hl hall
        go_wp2_with fail
        refine hC.mono ?_
        rintro e w3 ⟨rfl, hb3⟩
        have hB3 := Hid.mk' (Below.trans hB.out (hb3.mono hB.out.size))
        clear hC hb3
        go_wp2_with fail
        go_roundg (s.size - (i + 1))
        case measure => omega
        case rel => exact ⟨i + 1, rfl, by omega, Nat.le_refl _, hnx.out, hB3.out⟩
      · have hl' : letB (c : Int) = false := by simpa using hl
        have hC := let_calls (c : Int) wr
        rw [hl'] at hC
        by_cases hdg : (decide (48 ≤ (c : Int)) && decide ((c : Int) ≤ 57)) = true
        · have hn : nameB (c : Int) = true := by unfold nameB; rw [hl', hdg]; rfl
          have hD := fun W => dig_calls (c : Int) W
          rw [hdg] at hD
          have hnx := Hid.mk' (hstep.out hn)
          clear hstep hbad hn hl hl' hdg hall
          go_wp2_with fail
          refine hC.mono ?_
          rintro e w3 ⟨rfl, hb3⟩
          have hB3 := Hid.mk' (Below.trans hB.out (hb3.mono hB.out.size))
          clear hC hb3
          go_wp2_with fail
          refine (hD w3).mono ?_
          rintro e w4 ⟨rfl, hb4⟩
          have hB4 := Hid.mk' (Below.trans hB3.out (hb4.mono hB3.out.size))
          clear hD hb4
          go_wp2_with fail
          go_roundg (s.size - (i + 1))
          case measure => omega
          case rel => exact ⟨i + 1, rfl, by omega, Nat.le_refl _, hnx.out, hB4.out⟩
        · have hdg' : (decide (48 ≤ (c : Int)) && decide ((c : Int) ≤ 57)) = false := by simpa using hdg
          have hn : nameB (c : Int) = false := by unfold nameB; rw [hl', hdg']; rfl
          have hD := fun W => dig_calls (c : Int) W
          rw [hdg'] at hD
          have hnx := Hid.mk' (hbad.out hn)
          clear hstep hbad hn hl hl' hdg hdg' hall
          go_wp2_with fail
          refine hC.mono ?_
          rintro e w3 ⟨rfl, hb3⟩
          have hB3 := Hid.mk' (Below.trans hB.out (hb3.mono hB.out.size))
          clear hC hb3
          go_wp2_with fail
          refine (hD w3).mono ?_
          rintro e w4 ⟨rfl, hb4⟩
          have hB4 := Hid.mk' (Below.trans hB3.out (hb4.mono hB3.out.size))
          clear hD hb4
          go_wp2_with fail
          go_ret
          rw [hR.out, hnx.out]
          exact ⟨rfl, Below.trans hB2.out (hB4.out.mono hB2.out.size)⟩
    · have g1 : ¬ ((i : Int) < (s.size : Int)) := by omega
      have hie : i = s.size := by omega
      have hnx : Hid (s.data.toList.all (fun x => nameB x.toNat) = true) := Hid.mk' (List.all_eq_true.2 fun x hm => hall.out x (by
        rw [hie, List.take_of_length_le (by rw [Array.length_toList]; exact Nat.le_refl _)]
        exact hm))
      clear hall HC hie
      go_wp2_with fail
      go_ret
      rw [hR.out, hnx.out]
      exact ⟨rfl, Below.trans hB2.out (hB.out.mono hB2.out.size)⟩
theorem name_any (s : ByteArray) (w : World) : NameP s w (nameS s) := by
  by_cases h : 24 < s.size
  · have e : nameS s = 17 := if_pos h
    rw [e]
    exact name_long s w h
  · have h24 : s.size ≤ 24 := by omega
    have hsl : s.size = s.data.toList.length := (Array.length_toList).symm
    cases hs : s.data.toList with
    | nil =>
      have e : nameS s = 3 := by unfold nameS; rw [if_neg h, hs]
      have e2 : s = ⟨#[]⟩ := by
        have : s.data = #[] := Array.toList_inj.1 hs
        cases s
        cases this
        rfl
      rw [e, e2]
      exact name_none w
    | cons c t =>
      have h0 : 0 < s.size := by rw [hsl, hs]; simp
      have hc : (s[0]'h0).toNat = c.toNat := by
        have : s.data.toList[0]'(by rw [hs]; simp) = c := by simp [hs]
        rw [← this]
        rfl
      have e : nameS s = if letB (c.toNat : Int) = true then (if s.data.toList.all (fun x => nameB x.toNat) = true then 0 else 3) else 3 := by
        unfold nameS
        rw [if_neg h, hs]
      by_cases hl : letB (c.toNat : Int) = true
      · rw [e, if_pos hl]
        exact name_loop s w h24 h0 (by rw [hc]; exact hl) _ rfl
      · rw [e, if_neg hl]
        exact name_first s w h24 h0 (by rw [hc]; simpa using hl)
def dimension_Name.f (s : ByteArray) : Option Int := some (nameS s)
theorem dimension_Name.calls (a0 : ByteArray) (r : Int) (w : World) (h : dimension_Name.f a0 = some r) :
    Calls Tryz.prog 48 #[.string a0] w fun e w' => e = .returned (.int .i64 r) ∧ Below w.heap.size w w' := by
  cases h
  exact name_any a0 w
end Go.Proofs.YtkohjcfmcliioaaGreatDoor
set_option linter.unusedVariables false
namespace Go.Proofs.YtkohjcfmcliioaaGreatDoor
open Go Go.RowKit Go.Proofs.YtkohjcfmcliioaaGreatDoorW.PrintWords
open Go.Proofs.YtkohjcfmcliioaaGreatDoor.ZA (S76)
/-- A datum's two cells. -/
def encD (x : S76) : List Value := [.string x.f0, .int .i64 x.f1]
theorem check_pred (nm : ByteArray) (B : Nat) (w : World) (hB : B < w.heap.size) (hcell : w.cell? ⟨B, 0, none⟩ = some (.string nm)) :
    PredBelow Tryz.prog 44 #[.pointer (some ⟨B, 0, none⟩)] (fun x => .agg (encD x).toArray) (fun x => x.f0.toList == nm.toList) w := fun W x hb => by
  have hc : W.cell? ⟨B, 0, none⟩ = some (.string nm) := (hb.cell (p := ⟨B, 0, none⟩) hB).trans hcell
  have hBW : B < W.heap.size := Nat.lt_of_lt_of_le hB hb.size
  have hne : B ≠ W.heap.size := by omega
  show Calls Tryz.prog 44 #[.agg #[.string x.f0, .int .i64 x.f1], .pointer (some ⟨B, 0, none⟩)] W _
  go_enter Tryz.func44, Tryz.ntmps44
  go_wp2
  all_goals (go_ret; exact ⟨by simp_all, hb.alloc hb.size _⟩)
theorem plain_pred (nm : ByteArray) (B : Nat) (w : World) (hB : B < w.heap.size) (hcell : w.cell? ⟨B, 0, none⟩ = some (.string nm)) :
    PredBelow Tryz.prog 49 #[.pointer (some ⟨B, 0, none⟩)] (fun x => .agg (encD x).toArray) (fun x => x.f0.toList == nm.toList) w := fun W x hb => by
  have hc : W.cell? ⟨B, 0, none⟩ = some (.string nm) := (hb.cell (p := ⟨B, 0, none⟩) hB).trans hcell
  have hBW : B < W.heap.size := Nat.lt_of_lt_of_le hB hb.size
  have hne : B ≠ W.heap.size := by omega
  show Calls Tryz.prog 49 #[.agg #[.string x.f0, .int .i64 x.f1], .pointer (some ⟨B, 0, none⟩)] W _
  go_enter Tryz.func49, Tryz.ntmps49
  go_wp2
  all_goals (go_ret; exact ⟨by simp_all, hb.alloc hb.size _⟩)
end Go.Proofs.YtkohjcfmcliioaaGreatDoor
set_option linter.unusedVariables false
namespace Go.Proofs.YtkohjcfmcliioaaGreatDoor
open Go Go.RowKit Go.Shelf Go.Proofs.YtkohjcfmcliioaaGreatDoorW.PrintWords
open Go.Proofs.YtkohjcfmcliioaaGreatDoor.ZA (S76)
/-- slices.IndexFunc at datums that are read anywhere: whether one is found. -/
def IdxP (g : Nat) (lb : Array Value) (F : Bool) (A : Option Addr) (c : Nat) (zs : List S76) (w : World) : Prop :=
  Calls Tryz.prog 79 #[.slice A zs.length c, .func (.func g) #[] lb] w fun e w' => ∃ r : Int, e = .returned (.int .i64 r) ∧ (0 ≤ r ↔ F = true) ∧ Below w.heap.size w w'
set_option maxRecDepth 100000 in
theorem index_D (g : Nat) (lb : Array Value) (p : S76 → Bool) (eg : ∀ args w, (callFunc g args).run Tryz.prog w = .ok (.enter g args) w) (A : Option Addr) (c : Nat) (zs : List S76) (w : World)
    (hp : PredBelow Tryz.prog g lb (fun x => .agg (encD x).toArray) p w) (hr : Kd.C ZA.k76 w A zs.length zs) (hn : zs.length ≤ 9000000000000000000) (F : Bool) (hF : Hid (zs.any p = F)) : IdxP g lb F A c zs w := by
  unfold IdxP
  have HP := Hid.mk' hp
  have HR := Hid.mk' hr
  clear hp hr
  go_enter Tryz.func79, Tryz.ntmps79
  go_wp2_with fail
  go_loopg [8] zs.length (fun q s8 wr => ∃ i : Nat, s8 = .int .i64 (i : Int) ∧ i ≤ zs.length ∧ zs.length - i ≤ q ∧ Hid (∀ x ∈ zs.take i, p x = false) ∧ Hid (Below w.heap.size w wr))
  case atStart => exact ⟨0, rfl, Nat.zero_le _, Nat.le_refl _, Hid.mk' (by simp), Hid.mk' (Below.refl _ _)⟩
  case round =>
    obtain ⟨i, rfl, hi, hg, hall, hB⟩ := hrel
    by_cases hlt : i < zs.length
    · have g1 : (i : Int) < (zs.length : Int) := by omega
      have g0 : (0 : Int) ≤ (i : Int) := by omega
      obtain ⟨ad, rfl, hx0, hx1⟩ := ZA.at_T76 (Kd.C_below HR.out hB.out) (i : Int) g0 g1
      have hget : ZA.rd_T76 zs (i : Int) = zs[i] := by
        unfold ZA.rd_T76
        rw [Int.toNat_natCast, List.getD_eq_getElem?_getD, List.getElem?_eq_getElem hlt]
        rfl
      rw [Int.toNat_natCast] at hx0 hx1
      generalize hy : ZA.rd_T76 zs (i : Int) = y at hx0 hx1 hget
      clear hy
      have hcall := HP.out wr y hB.out
      have hstep : Hid (p y = false → ∀ x ∈ zs.take (i + 1), p x = false) := Hid.mk' fun hn x hm => by
        rw [List.take_succ_eq_append_getElem hlt] at hm
        rcases List.mem_append.1 hm with h | h
        · exact hall.out x h
        · rw [List.mem_singleton.1 h, ← hget]; exact hn
      have hfound : Hid (p y = true → F = true) := Hid.mk' fun hn => hF.out.symm.trans <| List.any_eq_true.2 ⟨y, by rw [hget]; exact List.getElem_mem hlt, hn⟩
      clear hall hget HP
      cases hq : p y with
      | true =>
        have hf := Hid.mk' (hfound.out hq)
        rw [hq] at hcall
        clear hstep hfound hq
        go_wp2_with fail
        refine hcall.mono ?_
        rintro e w3 ⟨rfl, hb3⟩
        go_wp2_with fail
        go_ret
        exact ⟨_, rfl, ⟨fun _ => hf.out, fun _ => g0⟩, hb3⟩
      | false =>
        have hf := Hid.mk' (hstep.out hq)
        rw [hq] at hcall
        clear hstep hfound hq
        go_wp2_with fail
        refine hcall.mono ?_
        rintro e w3 ⟨rfl, hb3⟩
        go_wp2_with fail
        go_roundg (zs.length - (i + 1))
        case measure => omega
        case rel => exact ⟨i + 1, rfl, by omega, Nat.le_refl _, hf.out, hb3⟩
    · have g1 : ¬ ((i : Int) < (zs.length : Int)) := by omega
      have hie : i = zs.length := by omega
      have hnone : Hid (¬ F = true) := Hid.mk' (by
        intro h
        rw [← hF.out] at h
        obtain ⟨x, hx, hpx⟩ := List.any_eq_true.1 h
        have := hall.out x (by rw [hie, List.take_length]; exact hx)
        rw [hpx] at this
        cases this)
      clear hall HP HR hie
      go_wp2_with fail
      go_ret
      exact ⟨_, rfl, ⟨fun h => absurd h (by decide), fun h => absurd h hnone.out⟩, hB.out⟩
/-- slices.ContainsFunc at datums. -/
def ContP (g : Nat) (lb : Array Value) (F : Bool) (A : Option Addr) (c : Nat) (zs : List S76) (w : World) : Prop :=
  Calls Tryz.prog 43 #[.slice A zs.length c, .func (.func g) #[] lb] w fun e w' => e = .returned (.bool F) ∧ Below w.heap.size w w'
set_option maxRecDepth 100000 in
theorem contains_D (g : Nat) (lb : Array Value) (p : S76 → Bool) (eg : ∀ args w, (callFunc g args).run Tryz.prog w = .ok (.enter g args) w) (A : Option Addr) (c : Nat) (zs : List S76) (w : World)
    (hp : PredBelow Tryz.prog g lb (fun x => .agg (encD x).toArray) p w) (hr : Kd.C ZA.k76 w A zs.length zs) (hn : zs.length ≤ 9000000000000000000) : ContP g lb (zs.any p) A c zs w := by
  have hI := index_D g lb p eg A c zs w hp hr hn _ rfl
  generalize zs.any p = F at hI ⊢
  unfold ContP
  unfold IdxP at hI
  clear hp hr
  go_enter Tryz.func43, Tryz.ntmps43
  go_wp2_with fail
  refine hI.mono ?_
  rintro e w3 ⟨r, rfl, hiff, hb3⟩
  by_cases h : 0 ≤ r
  · obtain rfl := hiff.1 h
    have h2 : r ≥ 0 := h
    clear hiff
    go_wp2_with fail
    go_ret
    exact ⟨by simp, hb3⟩
  · have h1 : F = false := by
      cases F with
      | false => rfl
      | true => exact absurd (hiff.2 rfl) h
    have h2 : ¬ (r ≥ 0) := h
    subst h1
    clear hiff
    go_wp2_with fail
    go_ret
    exact ⟨by simp [h], hb3⟩
end Go.Proofs.YtkohjcfmcliioaaGreatDoor
set_option linter.unusedVariables false
namespace Go.Proofs.YtkohjcfmcliioaaGreatDoor
open Go Go.RowKit Go.Proofs.YtkohjcfmcliioaaGreatDoorW.PrintWords
open Go.Proofs.YtkohjcfmcliioaaGreatDoor.ZA (S76)
def condS (m : Int) : Int := if m < 0 ∨ 3 ≤ m then 1 else 0
theorem cond_calls (m : Int) (w : World) : Calls Tryz.prog 47 #[.int .i64 m] w fun e w' => e = .returned (.int .i64 (condS m)) ∧ Below w.heap.size w w' := by
  have h : ZA.frame_condition.f m = some (condS m) := by
    unfold ZA.frame_condition.f condS
    by_cases h1 : m < 0
    · rw [if_pos h1, if_pos (.inl h1)]
    · rw [if_neg h1]
      by_cases h2 : 3 ≤ m
      · rw [if_pos h2, if_pos (.inr h2)]
      · rw [if_neg h2, if_neg (by omega)]
  exact (ZA.frame_condition.calls m _ w h).mono fun _ _ ⟨he, hd⟩ => ⟨he, hd.below⟩
/-- The first error of datums, those before being right. -/
def datS : List S76 → List S76 → Int
  | _, [] => 0
  | pre, d :: t => if nameS d.f0 ≠ 0 then nameS d.f0 else if pre.any (fun x => x.f0.toList == d.f0.toList) = true then 7 else if condS d.f1 ≠ 0 then condS d.f1 else datS (pre ++ [d]) t
def plainS (kind tol mat : Int) (ds : List S76) : Int :=
  if kind < 0 ∨ 9 ≤ kind then 1 else if condS mat ≠ 0 then condS mat else if tol < 0 ∨ 100000 < tol then 2 else if 3 < ds.length then 5 else datS [] ds
def PlainP (A : Option Addr) (c : Nat) (kind : Int) (disc : Bool) (tol mat : Int) (ds : List S76) (w : World) (r : Int) : Prop :=
  Calls Tryz.prog 15 #[.agg #[.int .i64 kind, .bool disc, .int .i64 tol, .int .i64 mat, .slice A ds.length c]] w fun e w' => e = .returned (.int .i64 r) ∧ Below w.heap.size w w'
theorem c_take {W : World} {A : Option Addr} {n i : Nat} {zs : List S76} (h : Kd.C ZA.k76 W A n zs) (hi : i ≤ n) : Kd.C ZA.k76 W A i (zs.take i) := by
  obtain ⟨h1, h2, h3⟩ := h
  refine ⟨by rw [List.length_take, h1]; omega, by omega, fun h0 => ?_⟩
  obtain ⟨ad, e, hc⟩ := h3 (by omega)
  refine ⟨ad, e, fun j p hj => hc j p ?_⟩
  rw [List.getElem?_take] at hj
  split at hj
  · exact hj
  · cases hj
set_option maxRecDepth 100000 in
theorem plain_loop (A : Option Addr) (c : Nat) (kind : Int) (disc : Bool) (tol mat : Int) (ds : List S76) (w : World) (hr : Kd.C ZA.k76 w A ds.length ds) (hc : ds.length ≤ c)
    (k0 : 0 ≤ kind) (k9 : kind < 9) (hm : condS mat = 0) (t0 : 0 ≤ tol) (t1 : tol ≤ 100000) (hl : ds.length ≤ 3) (r : Int) (hres : Hid (datS [] ds = r)) : PlainP A c kind disc tol mat ds w r := by
  unfold PlainP
  have d1 : decide (kind < 0) = false := decide_eq_false (by omega)
  have d2 : decide (kind ≥ 9) = false := decide_eq_false (by omega)
  have d3 : decide (tol < 0) = false := decide_eq_false (by omega)
  have d4 : decide (tol > 100000) = false := decide_eq_false (by omega)
  have d5 : decide ((ds.length : Int) > 3) = false := decide_eq_false (by omega)
  have e1 : ¬ (kind < 0) := by omega
  have e2 : ¬ (kind ≥ 9) := by omega
  have e3 : ¬ (tol < 0) := by omega
  have e4 : ¬ (tol > 100000) := by omega
  have e5 : ¬ ((ds.length : Int) > 3) := by omega
  have hC := fun W => cond_calls mat W
  rw [hm] at hC
  have HR := Hid.mk' hr
  clear hr k0 k9 t0 t1 hm
  go_enter Tryz.func15, Tryz.ntmps15
  go_wp2_with fail
  refine (hC _).mono ?_
  rintro e w1 ⟨rfl, hb⟩
  clear hC
  have hx2 : w1.cell? ⟨w.heap.size, 2, none⟩ = some (.int .i64 tol) := (hb.cell (p := ⟨w.heap.size, 2, none⟩) (by simp)).trans (by simp)
  have hx4 : w1.cell? ⟨w.heap.size, 4, none⟩ = some (.slice A ds.length c) := (hb.cell (p := ⟨w.heap.size, 4, none⟩) (by simp)).trans (by simp)
  have hlt : w.heap.size < w1.heap.size := Nat.lt_of_lt_of_le (by simp) hb.size
  have HB1 := Hid.mk' (show Below w.heap.size w w1 from Below.trans ((Below.refl _ w).alloc (Nat.le_refl _) _) (hb.mono (by simp)))
  clear hb
  go_wp2_with fail
  go_loopg [39] ds.length (fun q s39 wr => ∃ i : Nat, s39 = .int .i64 (i : Int) ∧ i ≤ ds.length ∧ ds.length - i ≤ q ∧ Hid (datS (ds.take i) (ds.drop i) = r) ∧ Hid (Below w1.heap.size w1 wr))
  case atStart => exact ⟨0, rfl, Nat.zero_le _, Nat.le_refl _, Hid.mk' (by rw [List.take_zero, List.drop_zero]; exact hres.out), Hid.mk' (Below.refl _ _)⟩
  case round =>
    obtain ⟨i, rfl, hi, hg, hdat, hB⟩ := hrel
    by_cases hlt2 : i < ds.length
    · have g1 : (i : Int) < (ds.length : Int) := by omega
      have g0 : (0 : Int) ≤ (i : Int) := by omega
      have HBW := Hid.mk' (Below.trans HB1.out (hB.out.mono HB1.out.size))
      have HRW := Hid.mk' (Kd.C_below HR.out HBW.out)
      obtain ⟨ad, rfl, hx0, hx1⟩ := ZA.at_T76 HRW.out (i : Int) g0 g1
      have hget : ZA.rd_T76 ds (i : Int) = ds[i] := by
        unfold ZA.rd_T76
        rw [Int.toNat_natCast, List.getD_eq_getElem?_getD, List.getElem?_eq_getElem hlt2]
        rfl
      rw [Int.toNat_natCast] at hx0 hx1
      generalize hy : ZA.rd_T76 ds (i : Int) = y at hx0 hx1 hget
      clear hy
      have hN := fun W => name_any y.f0 W
      unfold NameP at hN
      have hdat2 : Hid ((if nameS y.f0 ≠ 0 then nameS y.f0 else if (ds.take i).any (fun x => x.f0.toList == y.f0.toList) = true then 7 else if condS y.f1 ≠ 0 then condS y.f1 else datS (ds.take (i + 1)) (ds.drop (i + 1))) = r) := by
        have := hdat.out
        rw [List.drop_eq_getElem_cons hlt2, ← hget] at this
        unfold datS at this
        rw [List.take_succ_eq_append_getElem hlt2, ← hget]
        exact this
      clear hget hdat
      generalize nameS y.f0 = nv at hN hdat2
      go_wp2_with fail
      refine (hN _).mono ?_
      rintro e w2 ⟨rfl, hb2⟩
      have hy0 : w2.cell? ⟨wr.heap.size, 0, none⟩ = some (.string y.f0) := (hb2.cell (p := ⟨wr.heap.size, 0, none⟩) (by simp)).trans (by simp)
      have hy1 : w2.cell? ⟨wr.heap.size, 1, none⟩ = some (.int .i64 y.f1) := (hb2.cell (p := ⟨wr.heap.size, 1, none⟩) (by simp)).trans (by simp)
      have hltw : wr.heap.size < w2.heap.size := Nat.lt_of_lt_of_le (by simp) hb2.size
      have HB2 := Hid.mk' (show Below w1.heap.size w1 w2 from Below.trans hB.out (Below.trans ((Below.refl _ wr).alloc hB.out.size _) (hb2.mono (Nat.le_trans hB.out.size (by simp)))))
      clear hb2 hN hx0 hx1 HRW HBW
      by_cases hn : nv = 0
      · subst hn
        have hx4' : w2.cell? ⟨w.heap.size, 4, none⟩ = some (.slice (some ad) ds.length c) := (HB2.out.cell (p := ⟨w.heap.size, 4, none⟩) hlt).trans hx4
        have HR2 := Hid.mk' (c_take (Kd.C_below HR.out (Below.trans HB1.out (HB2.out.mono HB1.out.size))) hi)
        have hli : (ds.take i).length = i := by rw [List.length_take]; omega
        have hK := contains_D 49 #[.pointer (some ⟨wr.heap.size, 0, none⟩)] (fun x => x.f0.toList == y.f0.toList) (enters_of Tryz.func49 (by kernel_rfl) rfl) (some ad) c (ds.take i) w2 (plain_pred y.f0 wr.heap.size w2 hltw hy0) (by rw [hli]; exact HR2.out) (by omega)
        unfold ContP at hK
        rw [hli] at hK
        have HD2 := Hid.mk' hdat2.out
        clear hli HR2 hdat2
        generalize (ds.take i).any (fun x => x.f0.toList == y.f0.toList) = F at hK HD2
        go_wp2_with fail
        refine hK.mono ?_
        rintro e w3 ⟨rfl, hb3⟩
        have hy1' : w3.cell? ⟨wr.heap.size, 1, none⟩ = some (.int .i64 y.f1) := (hb3.cell (p := ⟨wr.heap.size, 1, none⟩) hltw).trans hy1
        have HB3 := Hid.mk' (Below.trans HB2.out (hb3.mono HB2.out.size))
        have hC3 := fun W => cond_calls y.f1 W
        clear hb3 hK hy0 hy1 hx4'
        cases F with
        | true =>
          have hr2 : Hid (7 = r) := by
            have := HD2.out
            rw [if_neg (by decide), if_pos rfl] at this
            exact this
          clear HD2 hC3
          go_wp2_with fail
          go_ret
          rw [← hr2.out]
          exact ⟨rfl, Below.trans HB1.out (HB3.out.mono HB1.out.size)⟩
        | false =>
          have HD3 : Hid ((if condS y.f1 ≠ 0 then condS y.f1 else datS (ds.take (i + 1)) (ds.drop (i + 1))) = r) := by
            have := HD2.out
            rw [if_neg (by decide), if_neg (by decide)] at this
            exact this
          clear HD2
          generalize condS y.f1 = cv at hC3 HD3
          go_wp2_with fail
          refine (hC3 _).mono ?_
          rintro e w4 ⟨rfl, hb4⟩
          have HB4 := Hid.mk' (Below.trans HB3.out (hb4.mono HB3.out.size))
          clear hb4 hC3
          by_cases hcv : cv = 0
          · subst hcv
            have hnx : Hid (datS (ds.take (i + 1)) (ds.drop (i + 1)) = r) := by
              have := HD3.out
              rw [if_neg (by decide)] at this
              exact this
            clear HD3
            go_wp2_with fail
            go_roundg (ds.length - (i + 1))
            case measure => omega
            case rel => exact ⟨i + 1, rfl, by omega, Nat.le_refl _, hnx.out, HB4.out⟩
          · have hr2 : Hid (cv = r) := by
              have := HD3.out
              rw [if_pos hcv] at this
              exact this
            clear HD3
            go_wp2_with fail
            go_ret
            rw [hr2.out]
            exact ⟨rfl, Below.trans HB1.out (HB4.out.mono HB1.out.size)⟩
      · have hr2 : Hid (nv = r) := by
          have := hdat2.out
          rw [if_pos hn] at this
          exact this
        clear hdat2
        go_wp2_with fail
        go_ret
        rw [hr2.out]
        exact ⟨rfl, Below.trans HB1.out (HB2.out.mono HB1.out.size)⟩
    · have g1 : ¬ ((i : Int) < (ds.length : Int)) := by omega
      have hr2 : Hid (r = 0) := by
        have := hdat.out
        rw [List.drop_of_length_le (by omega)] at this
        unfold datS at this
        exact this.symm
      clear hdat
      go_wp2_with fail
      go_ret
      rw [hr2.out]
      exact ⟨rfl, Below.trans HB1.out (hB.out.mono HB1.out.size)⟩
section
variable (A : Option Addr) (c : Nat) (kind : Int) (disc : Bool) (tol mat : Int) (ds : List S76) (w : World)
set_option maxRecDepth 100000 in
theorem plain_kind0 (h : kind < 0) : PlainP A c kind disc tol mat ds w 1 := by
  unfold PlainP
  have d1 : decide (kind < 0) = true := decide_eq_true h
  go_enter Tryz.func15, Tryz.ntmps15
  go_wp2_with fail
  go_ret
  exact ⟨rfl, (Below.refl _ w).alloc (Nat.le_refl _) _⟩
set_option maxRecDepth 100000 in
theorem plain_kind9 (h0 : ¬ kind < 0) (h : kind ≥ 9) : PlainP A c kind disc tol mat ds w 1 := by
  unfold PlainP
  have d1 : decide (kind < 0) = false := decide_eq_false h0
  have d2 : decide (kind ≥ 9) = true := decide_eq_true h
  go_enter Tryz.func15, Tryz.ntmps15
  go_wp2_with fail
  go_ret
  exact ⟨rfl, (Below.refl _ w).alloc (Nat.le_refl _) _⟩
set_option maxRecDepth 100000 in
theorem plain_mat (h0 : ¬ kind < 0) (h : ¬ kind ≥ 9) (r : Int) (hm : condS mat = r) (hr : ¬ r = 0) : PlainP A c kind disc tol mat ds w r := by
  unfold PlainP
  have d1 : decide (kind < 0) = false := decide_eq_false h0
  have d2 : decide (kind ≥ 9) = false := decide_eq_false h
  have hC := fun W => cond_calls mat W
  rw [hm] at hC
  clear hm
  go_enter Tryz.func15, Tryz.ntmps15
  go_wp2_with fail
  refine (hC _).mono ?_
  rintro e w1 ⟨rfl, hb⟩
  have HB1 := Hid.mk' (show Below w.heap.size w w1 from Below.trans ((Below.refl _ w).alloc (Nat.le_refl _) _) (hb.mono (by simp)))
  clear hb hC
  go_wp2_with fail
  go_ret
  exact ⟨rfl, HB1.out⟩
set_option maxRecDepth 100000 in
theorem plain_tol0 (h0 : ¬ kind < 0) (h : ¬ kind ≥ 9) (hm : condS mat = 0) (ht : tol < 0) : PlainP A c kind disc tol mat ds w 2 := by
  unfold PlainP
  have d1 : decide (kind < 0) = false := decide_eq_false h0
  have d2 : decide (kind ≥ 9) = false := decide_eq_false h
  have d3 : decide (tol < 0) = true := decide_eq_true ht
  have hC := fun W => cond_calls mat W
  rw [hm] at hC
  clear hm
  go_enter Tryz.func15, Tryz.ntmps15
  go_wp2_with fail
  refine (hC _).mono ?_
  rintro e w1 ⟨rfl, hb⟩
  have hx2 : w1.cell? ⟨w.heap.size, 2, none⟩ = some (.int .i64 tol) := (hb.cell (p := ⟨w.heap.size, 2, none⟩) (by simp)).trans (by simp)
  have HB1 := Hid.mk' (show Below w.heap.size w w1 from Below.trans ((Below.refl _ w).alloc (Nat.le_refl _) _) (hb.mono (by simp)))
  clear hb hC
  go_wp2_with fail
  go_ret
  exact ⟨rfl, HB1.out⟩
set_option maxRecDepth 100000 in
theorem plain_tol1 (h0 : ¬ kind < 0) (h : ¬ kind ≥ 9) (hm : condS mat = 0) (ht0 : ¬ tol < 0) (ht : tol > 100000) : PlainP A c kind disc tol mat ds w 2 := by
  unfold PlainP
  have d1 : decide (kind < 0) = false := decide_eq_false h0
  have d2 : decide (kind ≥ 9) = false := decide_eq_false h
  have d3 : decide (tol < 0) = false := decide_eq_false ht0
  have d4 : decide (tol > 100000) = true := decide_eq_true ht
  have hC := fun W => cond_calls mat W
  rw [hm] at hC
  clear hm
  go_enter Tryz.func15, Tryz.ntmps15
  go_wp2_with fail
  refine (hC _).mono ?_
  rintro e w1 ⟨rfl, hb⟩
  have hx2 : w1.cell? ⟨w.heap.size, 2, none⟩ = some (.int .i64 tol) := (hb.cell (p := ⟨w.heap.size, 2, none⟩) (by simp)).trans (by simp)
  have HB1 := Hid.mk' (show Below w.heap.size w w1 from Below.trans ((Below.refl _ w).alloc (Nat.le_refl _) _) (hb.mono (by simp)))
  clear hb hC
  go_wp2_with fail
  go_ret
  exact ⟨rfl, HB1.out⟩
set_option maxRecDepth 100000 in
theorem plain_many (h0 : ¬ kind < 0) (h : ¬ kind ≥ 9) (hm : condS mat = 0) (ht0 : ¬ tol < 0) (ht : ¬ tol > 100000) (hl : (ds.length : Int) > 3) : PlainP A c kind disc tol mat ds w 5 := by
  unfold PlainP
  have d1 : decide (kind < 0) = false := decide_eq_false h0
  have d2 : decide (kind ≥ 9) = false := decide_eq_false h
  have d3 : decide (tol < 0) = false := decide_eq_false ht0
  have d4 : decide (tol > 100000) = false := decide_eq_false ht
  have d5 : decide ((ds.length : Int) > 3) = true := decide_eq_true hl
  have hC := fun W => cond_calls mat W
  rw [hm] at hC
  clear hm
  go_enter Tryz.func15, Tryz.ntmps15
  go_wp2_with fail
  refine (hC _).mono ?_
  rintro e w1 ⟨rfl, hb⟩
  have hx2 : w1.cell? ⟨w.heap.size, 2, none⟩ = some (.int .i64 tol) := (hb.cell (p := ⟨w.heap.size, 2, none⟩) (by simp)).trans (by simp)
  have hx4 : w1.cell? ⟨w.heap.size, 4, none⟩ = some (.slice A ds.length c) := (hb.cell (p := ⟨w.heap.size, 4, none⟩) (by simp)).trans (by simp)
  have HB1 := Hid.mk' (show Below w.heap.size w w1 from Below.trans ((Below.refl _ w).alloc (Nat.le_refl _) _) (hb.mono (by simp)))
  clear hb hC
  go_wp2_with fail
  go_ret
  exact ⟨rfl, HB1.out⟩
end
theorem plain_any (A : Option Addr) (c : Nat) (kind : Int) (disc : Bool) (tol mat : Int) (ds : List S76) (w : World) (hr : Kd.C ZA.k76 w A ds.length ds) (hc : ds.length ≤ c) : PlainP A c kind disc tol mat ds w (plainS kind tol mat ds) := by
  unfold plainS
  by_cases h0 : kind < 0
  · rw [if_pos (.inl h0)]; exact plain_kind0 A c kind disc tol mat ds w h0
  by_cases h9 : kind ≥ 9
  · rw [if_pos (.inr h9)]; exact plain_kind9 A c kind disc tol mat ds w h0 h9
  rw [if_neg (by omega)]
  by_cases hm : condS mat = 0
  · rw [if_neg (by rw [hm]; decide)]
    by_cases ht0 : tol < 0
    · rw [if_pos (.inl ht0)]; exact plain_tol0 A c kind disc tol mat ds w h0 h9 hm ht0
    by_cases ht : tol > 100000
    · rw [if_pos (.inr ht)]; exact plain_tol1 A c kind disc tol mat ds w h0 h9 hm ht0 ht
    rw [if_neg (by omega)]
    by_cases hl : 3 < ds.length
    · rw [if_pos hl]; exact plain_many A c kind disc tol mat ds w h0 h9 hm ht0 ht (by omega)
    · rw [if_neg hl]
      exact plain_loop A c kind disc tol mat ds w hr hc (by omega) (by omega) hm (by omega) (by omega) (by omega) _ rfl
  · rw [if_pos hm]; exact plain_mat A c kind disc tol mat ds w h0 h9 _ rfl hm
def frame_Plain.f (a0_0 : Int) (a0_1 : Bool) (a0_2 : Int) (a0_3 : Int) (l0_4 : List S76) : Option Int := some (plainS a0_0 a0_2 a0_3 l0_4)
theorem frame_Plain.calls (a0_0 : Int) (a0_1 : Bool) (a0_2 : Int) (a0_3 : Int) (A0_4 : Option Addr) (c0_4 : Nat) (l0_4 : List S76) (r : Int) (w : World) (hr0_4 : Kd.C ZA.k76 w A0_4 l0_4.length l0_4) (hc0_4 : l0_4.length ≤ c0_4) (h : frame_Plain.f a0_0 a0_1 a0_2 a0_3 l0_4 = some r) :
    Calls Tryz.prog 15 #[.agg #[.int .i64 a0_0, .bool a0_1, .int .i64 a0_2, .int .i64 a0_3, .slice A0_4 l0_4.length c0_4]] w fun e w' => e = .returned (.int .i64 r) ∧ Below w.heap.size w w' := by
  cases h
  exact plain_any A0_4 c0_4 a0_0 a0_1 a0_2 a0_3 l0_4 w hr0_4 hc0_4
end Go.Proofs.YtkohjcfmcliioaaGreatDoor
set_option linter.unusedVariables false
namespace Go.Proofs.YtkohjcfmcliioaaGreatDoor
open Go Go.RowKit Go.Proofs.YtkohjcfmcliioaaGreatDoorW.PrintWords
/-- A row of the table: the word, the features that may have it, those with round zones, the numbers of datums, and whether a material condition is permitted. -/
structure RowS where
  word : Array UInt8
  on : Array UInt8
  disc : Array UInt8
  least : Int
  most : Int
  mat : Bool
def RowS.cells (r : RowS) : List Value := [.string ⟨r.word⟩, .string ⟨r.on⟩, .string ⟨r.disc⟩, .int .i64 r.least, .int .i64 r.most, .bool r.mat]
def rowsS : List RowS := [
  ⟨#[115, 116, 114, 97, 105, 103, 104, 116], #[104, 112], #[104, 112], 0, 0, true⟩,
  ⟨#[102, 108, 97, 116], #[108, 115], #[], 0, 0, false⟩,
  ⟨#[112, 97, 114, 97, 108, 108, 101, 108], #[108, 104, 112, 115], #[104, 112], 1, 2, true⟩,
  ⟨#[115, 113, 117, 97, 114, 101], #[108, 104, 112, 115], #[104, 112], 1, 2, true⟩,
  ⟨#[114, 111, 117, 110, 100], #[104, 112, 98], #[], 0, 0, false⟩,
  ⟨#[115, 112, 104, 101, 114, 101], #[98], #[], 0, 0, false⟩,
  ⟨#[112, 114, 111, 102, 105, 108, 101], #[108], #[], 0, 3, false⟩,
  ⟨#[114, 117, 110, 111, 117, 116], #[108, 104, 112], #[], 1, 1, false⟩,
  ⟨#[112, 111, 115, 105, 116, 105, 111, 110], #[108, 104, 112, 115, 98], #[104, 112, 98], 0, 3, true⟩]
def rowsC : List Value := rowsS.flatMap RowS.cells
def zerosC : List Value := (List.replicate 9 (RowS.cells ⟨#[], #[], #[], 0, 0, false⟩)).flatten
theorem size_rows : (Tryz.prog.info? 81).map (·.size) = some rowsC.toArray.size := by kernel_rfl
theorem one_rows : rowsC.toArray.all (·.oneCell') = true := by kernel_rfl
theorem len_rows : zerosC.toArray.size = rowsC.toArray.size := by kernel_rfl
/-- An operation that yields a value, its run known. -/
theorem wpList_val {P : Program} {ops : Array Oper} {Q : Exit → Act → World → Prop} {rest : List Oper} {o : Oper} {a : Act} {w : World} (v : Value) (w1 : World) (hg : o.guard = none)
    (hrun : (execOp a.eval o).run P w = .ok (.value v) w1) (h : wpList P ops Q rest (a.put o.dst v) w1) : wpList P ops Q (o :: rest) a w :=
  wpList_plain hg fun K hK => by
    unfold Oper.wp
    rw [hrun]
    exact hK _ _ h
set_option maxRecDepth 100000 in
theorem rows_any (w : World) : Calls Tryz.prog 40 #[] w fun e w' => e = .returned (.agg rowsC.toArray) ∧ Below w.heap.size w w' := by
  go_enter Tryz.func40, Tryz.ntmps40
  go_step
  go_step
  go_step
  refine wpList_val (.pointer (some ⟨w.heap.size, 0, none⟩)) (w.alloc (.cells zerosC.toArray 81)) (by rfl) (by kernel_rfl) ?_
  have hgr := heap_alloc_new w (.cells zerosC.toArray 81)
  have hB := (Below.refl w.heap.size w).alloc (Nat.le_refl _) (.cells zerosC.toArray 81)
  generalize w.alloc (.cells zerosC.toArray 81) = w1 at hgr hB ⊢
  go_step
  go_step
  go_step
  go_step
  go_step
  refine wpList_val (.agg (RowS.cells ⟨#[115, 116, 114, 97, 105, 103, 104, 116], #[104, 112], #[104, 112], 0, 0, true⟩).toArray) w1 (by rfl) (by kernel_rfl) ?_
  refine wpList_val (.agg (RowS.cells ⟨#[102, 108, 97, 116], #[108, 115], #[], 0, 0, false⟩).toArray) w1 (by rfl) (by kernel_rfl) ?_
  refine wpList_val (.agg (RowS.cells ⟨#[112, 97, 114, 97, 108, 108, 101, 108], #[108, 104, 112, 115], #[104, 112], 1, 2, true⟩).toArray) w1 (by rfl) (by kernel_rfl) ?_
  refine wpList_val (.agg (RowS.cells ⟨#[115, 113, 117, 97, 114, 101], #[108, 104, 112, 115], #[104, 112], 1, 2, true⟩).toArray) w1 (by rfl) (by kernel_rfl) ?_
  refine wpList_val (.agg (RowS.cells ⟨#[114, 111, 117, 110, 100], #[104, 112, 98], #[], 0, 0, false⟩).toArray) w1 (by rfl) (by kernel_rfl) ?_
  refine wpList_val (.agg (RowS.cells ⟨#[115, 112, 104, 101, 114, 101], #[98], #[], 0, 0, false⟩).toArray) w1 (by rfl) (by kernel_rfl) ?_
  refine wpList_val (.agg (RowS.cells ⟨#[112, 114, 111, 102, 105, 108, 101], #[108], #[], 0, 3, false⟩).toArray) w1 (by rfl) (by kernel_rfl) ?_
  refine wpList_val (.agg (RowS.cells ⟨#[114, 117, 110, 111, 117, 116], #[108, 104, 112], #[], 1, 1, false⟩).toArray) w1 (by rfl) (by kernel_rfl) ?_
  refine wpList_val (.agg (RowS.cells ⟨#[112, 111, 115, 105, 116, 105, 111, 110], #[108, 104, 112, 115, 98], #[104, 112, 98], 0, 3, true⟩).toArray) w1 (by rfl) (by kernel_rfl) ?_
  refine wpList_val (.agg rowsC.toArray) w1 (by rfl) (by kernel_rfl) ?_
  refine wpList_store_row (by rfl) 81 (.tmp 0) (.tmp 10) (by rfl) w.heap.size rowsC.toArray (by kernel_rfl) (by kernel_rfl) 81 zerosC.toArray hgr size_rows len_rows one_rows ?_
  have hg2 : (w1.setRow w.heap.size rowsC.toArray).heap[w.heap.size]? = some (.cells rowsC.toArray 81 (0, 0)) := setRow_heap w1 _ _ _ _ _ hgr
  have hB2 : Below w.heap.size w (w1.setRow w.heap.size rowsC.toArray) := hB.trans ⟨rfl, rfl, rfl, by simp [World.setRow], fun k hk => setRow_other w1 w.heap.size k _ (by omega)⟩
  generalize w1.setRow w.heap.size rowsC.toArray = w2 at hg2 hB2 ⊢
  go_step
  go_step
  go_step
  go_step
  refine bodyPost_ret (v := .agg rowsC.toArray) (results_cell_row (p := 0) (ty := 81) (by rfl) _ w2 w.heap.size 81 rowsC.toArray (0, 0) _ (by kernel_rfl) hg2 Tryz.underlying81 (by rfl) size_rows) (by rfl) ⟨rfl, hB2⟩
end Go.Proofs.YtkohjcfmcliioaaGreatDoor
namespace Go.Proofs.YtkohjcfmcliioaaGreatDoor.ZF
open Go.Proofs.YtkohjcfmcliioaaGreatDoor.ZA (errW errW_none errW_some S76 z76 k76 k76_open k76_mkM rd_T76 at_T76 S31 z31 k31 k31_open k31_mk rd_T31 at_T31)
open Go.RowKit Go.Proofs.YtkohjcfmcliioaaGreatDoorW.PrintWords Go.Proofs.YtkohjcfmcliioaaGreatDoorW.PrintLast Go.Proofs.YtkohjcfmcliioaaGreatDoorW.PrintMore
attribute [local go_sem] max2_int min2_int max_two min_two max_three min_three max_four min_four   -- for this text's walks alone
set_option linter.unusedVariables false
set_option linter.unusedSimpArgs false
theorem eqA25 (d : Nat) (w : World) (x0 y0 : Int) (x1 y1 : Int) :
    (Op.equalIn (d + 2) 25 (.agg #[.int .i64 x0, .int .i64 x1]) (.agg #[.int .i64 y0, .int .i64 y1])).run Tryz.prog w = .ok (x0 == y0 && (x1 == y1)) w := by
  refine eqA_of Tryz.underlying25 (by kernel_rfl) ?_
  refine eqf_cons (by rfl) (by go_simp; rfl) (by go_simp; rfl) (by go_simp) ?_
  exact eqf_last (by rfl) (by go_simp; rfl) (by go_simp; rfl) (by go_simp)
end Go.Proofs.YtkohjcfmcliioaaGreatDoor.ZF
namespace Go.Proofs.YtkohjcfmcliioaaGreatDoor.ZF
open Go.Proofs.YtkohjcfmcliioaaGreatDoor.ZA (errW errW_none errW_some S76 z76 k76 k76_open k76_mkM rd_T76 at_T76 S31 z31 k31 k31_open k31_mk rd_T31 at_T31)
open Go.RowKit Go.Proofs.YtkohjcfmcliioaaGreatDoorW.PrintWords Go.Proofs.YtkohjcfmcliioaaGreatDoorW.PrintLast Go.Proofs.YtkohjcfmcliioaaGreatDoorW.PrintMore
attribute [local go_sem] max2_int min2_int max_two min_two max_three min_three max_four min_four   -- for this text's walks alone
set_option linter.unusedVariables false
set_option linter.unusedSimpArgs false
attribute [local go_sem high] eqA25
mutual
def feature_Check.j0 : Nat → Bool → ByteArray → Int → Int → Int → Int → Int → Int → Int → List (S31) → Option (Int)
  | 0, _, _, _, _, _, _, _, _, _, _ => none
  | k + 1, x11, x102000, x102001, x102002, x102003, x102004, x102005, x102006, x102007, x102008 => if x11 = true then (some 1) else (if x102001 = 4 then (feature_Check.j1 k (x102002 != 0) x102000 x102001 x102002 x102003 x102004 x102005 x102006 x102007 x102008) else (feature_Check.j1 k false x102000 x102001 x102002 x102003 x102004 x102005 x102006 x102007 x102008))
def feature_Check.j1 : Nat → Bool → ByteArray → Int → Int → Int → Int → Int → Int → Int → List (S31) → Option (Int)
  | 0, _, _, _, _, _, _, _, _, _, _ => none
  | k + 1, x30, x102000, x102001, x102002, x102003, x102004, x102005, x102006, x102007, x102008 => if x30 = true then (some 3) else ((ZA.feature_ranged.f x102003 x102004 x102005).bind fun t103 => (if t103 = true then (if x102001 = 0 then (feature_Check.j2 k (!(x102006 == 0) || (!(x102007 == 0))) x102000 x102001 x102002 x102003 x102004 x102005 x102006 x102007 x102008) else (feature_Check.j2 k false x102000 x102001 x102002 x102003 x102004 x102005 x102006 x102007 x102008)) else (some 2)))
def feature_Check.j2 : Nat → Bool → ByteArray → Int → Int → Int → Int → Int → Int → Int → List (S31) → Option (Int)
  | 0, _, _, _, _, _, _, _, _, _, _ => none
  | k + 1, x44, x102000, x102001, x102002, x102003, x102004, x102005, x102006, x102007, x102008 => if x44 = true then (some 3) else (if x102001 = 0 then (some 0) else ((ZA.dimension_Check.f k x102006 x102007).bind fun t104 => (if t104 = 0 then (if x102006 < 1 then (some 2) else (some 0)) else (some t104))))
end
def feature_Check.f (k : Nat) (a0_0 : ByteArray) (a0_1 : Int) (a0_2 : Int) (a0_3 : Int) (a0_4 : Int) (a0_5 : Int) (a0_6 : Int) (a0_7 : Int) (l0_8 : List (S31)) : Option (Int) := (dimension_Name.f a0_0).bind fun t102 => (if t102 = 0 then (if a0_1 < 0 then (feature_Check.j0 k true a0_0 a0_1 a0_2 a0_3 a0_4 a0_5 a0_6 a0_7 l0_8) else (if a0_1 ≥ 5 then (feature_Check.j0 k true a0_0 a0_1 a0_2 a0_3 a0_4 a0_5 a0_6 a0_7 l0_8) else (if a0_2 < 0 then (feature_Check.j0 k true a0_0 a0_1 a0_2 a0_3 a0_4 a0_5 a0_6 a0_7 l0_8) else (feature_Check.j0 k (decide (a0_2 ≥ 3)) a0_0 a0_1 a0_2 a0_3 a0_4 a0_5 a0_6 a0_7 l0_8)))) else (some t102))
theorem feature_Check.mono_l : ∀ k, (∀ y0 y1 y2 y3 y4 y5 y6 y7 y8 y9, LeO (feature_Check.j0 k y0 y1 y2 y3 y4 y5 y6 y7 y8 y9) (feature_Check.j0 (k + 1) y0 y1 y2 y3 y4 y5 y6 y7 y8 y9)) ∧ (∀ y0 y1 y2 y3 y4 y5 y6 y7 y8 y9, LeO (feature_Check.j1 k y0 y1 y2 y3 y4 y5 y6 y7 y8 y9) (feature_Check.j1 (k + 1) y0 y1 y2 y3 y4 y5 y6 y7 y8 y9)) ∧ (∀ y0 y1 y2 y3 y4 y5 y6 y7 y8 y9, LeO (feature_Check.j2 k y0 y1 y2 y3 y4 y5 y6 y7 y8 y9) (feature_Check.j2 (k + 1) y0 y1 y2 y3 y4 y5 y6 y7 y8 y9))
  | 0 => ⟨fun _ _ _ _ _ _ _ _ _ _ r h => by simp [feature_Check.j0] at h, fun _ _ _ _ _ _ _ _ _ _ r h => by simp [feature_Check.j1] at h, fun _ _ _ _ _ _ _ _ _ _ r h => by simp [feature_Check.j2] at h⟩
  | k + 1 => by
    obtain ⟨ih0, ih1, ih2⟩ := feature_Check.mono_l k
    refine ⟨?_, ?_, ?_⟩
    · intro y0 y1 y2 y3 y4 y5 y6 y7 y8 y9
      unfold feature_Check.j0
      repeat' first
      | (with_reducible exact ih0 _ _ _ _ _ _ _ _ _ _)
      | (with_reducible exact ih1 _ _ _ _ _ _ _ _ _ _)
      | (with_reducible exact ih2 _ _ _ _ _ _ _ _ _ _)
      | (with_reducible exact ZA.dimension_Check.mono _ _ _)
      | (with_reducible exact LeO.refl _)
      | (with_reducible exact LeO.none _)
      | (with_reducible refine LeO.ite ?_ ?_)
      | (with_reducible refine LeO.bind ?_ (fun _ => ?_))
      | exact ih0 _ _ _ _ _ _ _ _ _ _
      | exact ih1 _ _ _ _ _ _ _ _ _ _
      | exact ih2 _ _ _ _ _ _ _ _ _ _
      | exact ZA.dimension_Check.mono _ _ _
      | exact LeO.none _
      | refine LeO.ite ?_ ?_
      | refine LeO.bind ?_ (fun _ => ?_)
    · intro y0 y1 y2 y3 y4 y5 y6 y7 y8 y9
      unfold feature_Check.j1
      repeat' first
      | (with_reducible exact ih0 _ _ _ _ _ _ _ _ _ _)
      | (with_reducible exact ih1 _ _ _ _ _ _ _ _ _ _)
      | (with_reducible exact ih2 _ _ _ _ _ _ _ _ _ _)
      | (with_reducible exact ZA.dimension_Check.mono _ _ _)
      | (with_reducible exact LeO.refl _)
      | (with_reducible exact LeO.none _)
      | (with_reducible refine LeO.ite ?_ ?_)
      | (with_reducible refine LeO.bind ?_ (fun _ => ?_))
      | exact ih0 _ _ _ _ _ _ _ _ _ _
      | exact ih1 _ _ _ _ _ _ _ _ _ _
      | exact ih2 _ _ _ _ _ _ _ _ _ _
      | exact ZA.dimension_Check.mono _ _ _
      | exact LeO.none _
      | refine LeO.ite ?_ ?_
      | refine LeO.bind ?_ (fun _ => ?_)
    · intro y0 y1 y2 y3 y4 y5 y6 y7 y8 y9
      unfold feature_Check.j2
      repeat' first
      | (with_reducible exact ih0 _ _ _ _ _ _ _ _ _ _)
      | (with_reducible exact ih1 _ _ _ _ _ _ _ _ _ _)
      | (with_reducible exact ih2 _ _ _ _ _ _ _ _ _ _)
      | (with_reducible exact ZA.dimension_Check.mono _ _ _)
      | (with_reducible exact LeO.refl _)
      | (with_reducible exact LeO.none _)
      | (with_reducible refine LeO.ite ?_ ?_)
      | (with_reducible refine LeO.bind ?_ (fun _ => ?_))
      | exact ih0 _ _ _ _ _ _ _ _ _ _
      | exact ih1 _ _ _ _ _ _ _ _ _ _
      | exact ih2 _ _ _ _ _ _ _ _ _ _
      | exact ZA.dimension_Check.mono _ _ _
      | exact LeO.none _
      | refine LeO.ite ?_ ?_
      | refine LeO.bind ?_ (fun _ => ?_)
theorem feature_Check.mono : ∀ a0 a1 a2 a3 a4 a5 a6 a7 a8 k, LeO (feature_Check.f k a0 a1 a2 a3 a4 a5 a6 a7 a8) (feature_Check.f (k + 1) a0 a1 a2 a3 a4 a5 a6 a7 a8) := by
  intro a0 a1 a2 a3 a4 a5 a6 a7 a8 k
  obtain ⟨ih0, ih1, ih2⟩ := feature_Check.mono_l k
  unfold feature_Check.f
  repeat' first
      | (with_reducible exact ih0 _ _ _ _ _ _ _ _ _ _)
      | (with_reducible exact ih1 _ _ _ _ _ _ _ _ _ _)
      | (with_reducible exact ih2 _ _ _ _ _ _ _ _ _ _)
      | (with_reducible exact ZA.dimension_Check.mono _ _ _)
      | (with_reducible exact LeO.refl _)
      | (with_reducible exact LeO.none _)
      | (with_reducible refine LeO.ite ?_ ?_)
      | (with_reducible refine LeO.bind ?_ (fun _ => ?_))
      | exact ih0 _ _ _ _ _ _ _ _ _ _
      | exact ih1 _ _ _ _ _ _ _ _ _ _
      | exact ih2 _ _ _ _ _ _ _ _ _ _
      | exact ZA.dimension_Check.mono _ _ _
      | exact LeO.none _
      | refine LeO.ite ?_ ?_
      | refine LeO.bind ?_ (fun _ => ?_)
set_option maxHeartbeats 8000000 in
set_option maxRecDepth 100000 in
theorem feature_Check.calls (k : Nat) (a0_0 : ByteArray) (a0_1 : Int) (a0_2 : Int) (a0_3 : Int) (a0_4 : Int) (a0_5 : Int) (a0_6 : Int) (a0_7 : Int) (A0_8 : Option Addr) (c0_8 : Nat) (l0_8 : List (S31)) (r : Int) (w : World) (hr0_8 : Kd.C k31 w A0_8 l0_8.length l0_8) (hc0_8 : l0_8.length ≤ c0_8) (h : feature_Check.f k a0_0 a0_1 a0_2 a0_3 a0_4 a0_5 a0_6 a0_7 l0_8 = some r) :
    Calls Tryz.prog 39 #[.agg #[.string a0_0, .int .i64 a0_1, .int .i64 a0_2, .int .i64 a0_3, .int .i64 a0_4, .int .i64 a0_5, .int .i64 a0_6, .int .i64 a0_7, .slice A0_8 l0_8.length c0_8]] w fun e w' => e = .returned (.int .i64 r) ∧ Below w.heap.size w w' := by
  have hu28 := Tryz.underlying28
  have hu23 := Tryz.underlying23
  have hu25 := Tryz.underlying25
  have HR0_8 := Aside0.mk hr0_8
  have HC0_8 := Aside0.mk hc0_8
  clear hr0_8 hc0_8
  have HB := Aside0.mk (Below.refl w.heap.size w)
  have H : ((dimension_Name.f a0_0).bind fun t102 => (if t102 = 0 then (if a0_1 < 0 then (feature_Check.j0 k true a0_0 a0_1 a0_2 a0_3 a0_4 a0_5 a0_6 a0_7 l0_8) else (if a0_1 ≥ 5 then (feature_Check.j0 k true a0_0 a0_1 a0_2 a0_3 a0_4 a0_5 a0_6 a0_7 l0_8) else (if a0_2 < 0 then (feature_Check.j0 k true a0_0 a0_1 a0_2 a0_3 a0_4 a0_5 a0_6 a0_7 l0_8) else (feature_Check.j0 k (decide (a0_2 ≥ 3)) a0_0 a0_1 a0_2 a0_3 a0_4 a0_5 a0_6 a0_7 l0_8)))) else (some t102))) = some r := h
  clear h
  replace H := Option.bind_eq_some_iff.mp H
  obtain ⟨t102, A20, H⟩ := H
  replace H : (if t102 = 0 then (if a0_1 < 0 then (feature_Check.j0 k true a0_0 a0_1 a0_2 a0_3 a0_4 a0_5 a0_6 a0_7 l0_8) else (if a0_1 ≥ 5 then (feature_Check.j0 k true a0_0 a0_1 a0_2 a0_3 a0_4 a0_5 a0_6 a0_7 l0_8) else (if a0_2 < 0 then (feature_Check.j0 k true a0_0 a0_1 a0_2 a0_3 a0_4 a0_5 a0_6 a0_7 l0_8) else (feature_Check.j0 k (decide (a0_2 ≥ 3)) a0_0 a0_1 a0_2 a0_3 a0_4 a0_5 a0_6 a0_7 l0_8)))) else (some t102)) = some r := H
  have A2 := Aside0.mk A20
  clear A20
  by_cases c3 : t102 = 0
  · rw [if_pos c3] at H
    have c3b0 : (t102 == 0) = true := beq_iff_eq.mpr c3
    have c3b1 : (t102 != 0) = false := bne_eq_false_iff_eq.mpr c3
    clear c3
    have HC4 := Aside0.mk H
    clear H
    go_enter Tryz.func39, Tryz.ntmps39
    go_upto_region 4 with (first | ((with_reducible refine gate_dst (N := 1) rfl ?_); refine box_event ?hg (N := 1) ?hd (cs := #[.string a0_0, .int .i64 a0_1, .int .i64 a0_2, .int .i64 a0_3, .int .i64 a0_4, .int .i64 a0_5, .int .i64 a0_6, .int .i64 a0_7, .slice A0_8 l0_8.length c0_8]) (t := 28) ?hr ?_; (case hd => rfl); (case hg => rfl); (case hr => first | (go_simp; done) | (go_simp; rfl)); intro gb101 hg w5 hbox hb; have n0_ := Aside0.mk (below_step (by repeat (first | (with_reducible first | exact HB.out | apply below_alloc | apply pw_below_drewN | apply below_drew1) | exact HB.out)) hb); have n1_ := Aside0.mk (hbox); have n2_ := Aside0.mk ((by rw [hg]; exact (below_size (by repeat (first | (with_reducible first | exact HB.out | apply below_alloc | apply pw_below_drewN | apply below_drew1) | exact HB.out))) : w.heap.size ≤ gb101)); have n3_ := Aside0.mk ((by rw [hg]; exact (below_size (by repeat (first | (with_reducible first | exact HB.out | apply below_alloc | apply pw_below_drewN | apply below_drew1) | exact HB.out))) : w.heap.size ≤ gb101)); clear HB; have HB := n0_; have BK101 := n1_; have GW101 := n2_; have GE101 := n3_; clear n0_ n1_ n2_ n3_; clear hb hbox hg; have hcz6_0 : w5.cell? ⟨gb101, 0, none⟩ = some (.string a0_0) := (blk_cell BK101.out 0).trans rfl; have hcz6_1 : w5.cell? ⟨gb101, 1, none⟩ = some (.int .i64 a0_1) := (blk_cell BK101.out 1).trans rfl; have hcz6_2 : w5.cell? ⟨gb101, 2, none⟩ = some (.int .i64 a0_2) := (blk_cell BK101.out 2).trans rfl; have hcz6_3 : w5.cell? ⟨gb101, 3, none⟩ = some (.int .i64 a0_3) := (blk_cell BK101.out 3).trans rfl; have hcz6_4 : w5.cell? ⟨gb101, 4, none⟩ = some (.int .i64 a0_4) := (blk_cell BK101.out 4).trans rfl; have hcz6_5 : w5.cell? ⟨gb101, 5, none⟩ = some (.int .i64 a0_5) := (blk_cell BK101.out 5).trans rfl; have hcz6_6 : w5.cell? ⟨gb101, 6, none⟩ = some (.int .i64 a0_6) := (blk_cell BK101.out 6).trans rfl; have hcz6_7 : w5.cell? ⟨gb101, 7, none⟩ = some (.int .i64 a0_7) := (blk_cell BK101.out 7).trans rfl; have hcz6_8 : w5.cell? ⟨gb101, 8, none⟩ = some (.slice A0_8 l0_8.length c0_8) := (blk_cell BK101.out 8).trans rfl; have hfz6_0 := blk_frozen BK101.out 0; have hfz6_1 := blk_frozen BK101.out 1; have hfz6_2 := blk_frozen BK101.out 2; have hfz6_3 := blk_frozen BK101.out 3; have hfz6_4 := blk_frozen BK101.out 4; have hfz6_5 := blk_frozen BK101.out 5; have hfz6_6 := blk_frozen BK101.out 6; have hfz6_7 := blk_frozen BK101.out 7; have hfz6_8 := blk_frozen BK101.out 8) | ((with_reducible refine gate_callee (f := 48) rfl ?_); refine goesL_ (some 7) rfl rfl Tryz.func48 (by kernel_rfl) rfl #[.string a0_0] rfl (by (try simp only [List.map_toArray, List.map_cons, List.map_nil]); first | done | rfl | (simp only [List.length_drop, List.length_take]; rfl)) ?_; (with_reducible refine (dimension_Name.calls a0_0 t102 _ A2.out).mono ?_); rintro e w7 ⟨rfl, hb⟩; refine ⟨_, rfl, ?_⟩; have n0_ := Aside0.mk (blk_below (g := gb101) (o := .cells #[.string a0_0, .int .i64 a0_1, .int .i64 a0_2, .int .i64 a0_3, .int .i64 a0_4, .int .i64 a0_5, .int .i64 a0_6, .int .i64 a0_7, .slice A0_8 l0_8.length c0_8] 28 (0, 0)) (by (with_reducible repeat (first | refine blk_drewN ?_ _ | refine blk_drew ?_ | refine blk_alloc ?_ _)); exact BK101.out) hb); have n1_ := Aside0.mk (below_step (by repeat (first | (with_reducible first | exact HB.out | apply below_alloc | apply pw_below_drewN | apply below_drew1 | refine below_set ?_ GE101.out) | exact HB.out)) hb); clear BK101; clear HB; have BK101 := n0_; have HB := n1_; clear n0_ n1_; (try clear hb); (try clear hb2); (try clear hk); (try clear hi)))
    (try simp only [Act.put, List.setIfInBounds_toArray, List.set_cons_zero, List.set_cons_succ])
    go_cut [11] (fun v11 wc => ∃ (kq : Nat) (x11_3 : Bool), v11 = .bool x11_3 ∧ Aside0 (feature_Check.j0 kq x11_3 a0_0 a0_1 a0_2 a0_3 a0_4 a0_5 a0_6 a0_7 l0_8 = some r) ∧ Aside0 (kq ≤ k) ∧ Aside0 (wc.heap[gb101]? = some (.cells #[.string a0_0, .int .i64 a0_1, .int .i64 a0_2, .int .i64 a0_3, .int .i64 a0_4, .int .i64 a0_5, .int .i64 a0_6, .int .i64 a0_7, (.slice A0_8 l0_8.length c0_8)] 28 (0, 0))) ∧ Aside0 (Below w.heap.size w wc))
    case first =>
      have H := HC4.out
      clear HC4
      by_cases c8 : a0_1 < 0
      · rw [if_pos c8] at H
        have c8b0 : decide (a0_1 < 0) = true := decide_eq_true c8
        clear c8
        (first | rw [c8b0] | (simp only [i64_w, i32_w]; rw [c8b0]) | skip)
        have H' := Aside0.mk H
        clear H
        have hcz9_0 : w7.cell? ⟨gb101, 0, none⟩ = some (.string a0_0) := (blk_cell BK101.out 0).trans rfl
        have hcz9_1 : w7.cell? ⟨gb101, 1, none⟩ = some (.int .i64 a0_1) := (blk_cell BK101.out 1).trans rfl
        have hcz9_2 : w7.cell? ⟨gb101, 2, none⟩ = some (.int .i64 a0_2) := (blk_cell BK101.out 2).trans rfl
        have hcz9_3 : w7.cell? ⟨gb101, 3, none⟩ = some (.int .i64 a0_3) := (blk_cell BK101.out 3).trans rfl
        have hcz9_4 : w7.cell? ⟨gb101, 4, none⟩ = some (.int .i64 a0_4) := (blk_cell BK101.out 4).trans rfl
        have hcz9_5 : w7.cell? ⟨gb101, 5, none⟩ = some (.int .i64 a0_5) := (blk_cell BK101.out 5).trans rfl
        have hcz9_6 : w7.cell? ⟨gb101, 6, none⟩ = some (.int .i64 a0_6) := (blk_cell BK101.out 6).trans rfl
        have hcz9_7 : w7.cell? ⟨gb101, 7, none⟩ = some (.int .i64 a0_7) := (blk_cell BK101.out 7).trans rfl
        have hcz9_8 : w7.cell? ⟨gb101, 8, none⟩ = some (.slice A0_8 l0_8.length c0_8) := (blk_cell BK101.out 8).trans rfl
        have hfz9_0 := blk_frozen BK101.out 0
        have hfz9_1 := blk_frozen BK101.out 1
        have hfz9_2 := blk_frozen BK101.out 2
        have hfz9_3 := blk_frozen BK101.out 3
        have hfz9_4 := blk_frozen BK101.out 4
        have hfz9_5 := blk_frozen BK101.out 5
        have hfz9_6 := blk_frozen BK101.out 6
        have hfz9_7 := blk_frozen BK101.out 7
        have hfz9_8 := blk_frozen BK101.out 8
        go_wp2
        go_meet
        case rel => exact ⟨_, (true), (by first | rfl | exact congrArg Value.bool (not_empty _) | exact congrArg Value.bool (is_empty _) | (simp; done) | (simp [*]; done)), H', ⟨by first | omega | exact Nat.le_refl _⟩, ⟨by (with_reducible repeat (first | refine blk_drewN ?_ _ | refine blk_drew ?_ | refine blk_alloc ?_ _)); exact BK101.out⟩, ⟨by repeat (first | (with_reducible first | exact HB.out | apply below_alloc | apply pw_below_drewN | apply below_drew1 | refine below_set ?_ GE101.out) | exact HB.out)⟩⟩
      · rw [if_neg c8] at H
        have c8b0 : decide (a0_1 < 0) = false := decide_eq_false c8
        clear c8
        (first | rw [c8b0] | (simp only [i64_w, i32_w]; rw [c8b0]) | skip)
        by_cases c10 : a0_1 ≥ 5
        · rw [if_pos c10] at H
          have c10b0 : decide (5 ≤ a0_1) = true := decide_eq_true c10
          clear c10
          have H' := Aside0.mk H
          clear H
          have hcz11_0 : w7.cell? ⟨gb101, 0, none⟩ = some (.string a0_0) := (blk_cell BK101.out 0).trans rfl
          have hcz11_1 : w7.cell? ⟨gb101, 1, none⟩ = some (.int .i64 a0_1) := (blk_cell BK101.out 1).trans rfl
          have hcz11_2 : w7.cell? ⟨gb101, 2, none⟩ = some (.int .i64 a0_2) := (blk_cell BK101.out 2).trans rfl
          have hcz11_3 : w7.cell? ⟨gb101, 3, none⟩ = some (.int .i64 a0_3) := (blk_cell BK101.out 3).trans rfl
          have hcz11_4 : w7.cell? ⟨gb101, 4, none⟩ = some (.int .i64 a0_4) := (blk_cell BK101.out 4).trans rfl
          have hcz11_5 : w7.cell? ⟨gb101, 5, none⟩ = some (.int .i64 a0_5) := (blk_cell BK101.out 5).trans rfl
          have hcz11_6 : w7.cell? ⟨gb101, 6, none⟩ = some (.int .i64 a0_6) := (blk_cell BK101.out 6).trans rfl
          have hcz11_7 : w7.cell? ⟨gb101, 7, none⟩ = some (.int .i64 a0_7) := (blk_cell BK101.out 7).trans rfl
          have hcz11_8 : w7.cell? ⟨gb101, 8, none⟩ = some (.slice A0_8 l0_8.length c0_8) := (blk_cell BK101.out 8).trans rfl
          have hfz11_0 := blk_frozen BK101.out 0
          have hfz11_1 := blk_frozen BK101.out 1
          have hfz11_2 := blk_frozen BK101.out 2
          have hfz11_3 := blk_frozen BK101.out 3
          have hfz11_4 := blk_frozen BK101.out 4
          have hfz11_5 := blk_frozen BK101.out 5
          have hfz11_6 := blk_frozen BK101.out 6
          have hfz11_7 := blk_frozen BK101.out 7
          have hfz11_8 := blk_frozen BK101.out 8
          go_wp2
          go_meet
          case rel => exact ⟨_, (true), (by first | rfl | exact congrArg Value.bool (not_empty _) | exact congrArg Value.bool (is_empty _) | (simp; done) | (simp [*]; done)), H', ⟨by first | omega | exact Nat.le_refl _⟩, ⟨by (with_reducible repeat (first | refine blk_drewN ?_ _ | refine blk_drew ?_ | refine blk_alloc ?_ _)); exact BK101.out⟩, ⟨by repeat (first | (with_reducible first | exact HB.out | apply below_alloc | apply pw_below_drewN | apply below_drew1 | refine below_set ?_ GE101.out) | exact HB.out)⟩⟩
        · rw [if_neg c10] at H
          have c10b0 : decide (5 ≤ a0_1) = false := decide_eq_false c10
          clear c10
          by_cases c12 : a0_2 < 0
          · rw [if_pos c12] at H
            have c12b0 : decide (a0_2 < 0) = true := decide_eq_true c12
            clear c12
            have H' := Aside0.mk H
            clear H
            have hcz13_0 : w7.cell? ⟨gb101, 0, none⟩ = some (.string a0_0) := (blk_cell BK101.out 0).trans rfl
            have hcz13_1 : w7.cell? ⟨gb101, 1, none⟩ = some (.int .i64 a0_1) := (blk_cell BK101.out 1).trans rfl
            have hcz13_2 : w7.cell? ⟨gb101, 2, none⟩ = some (.int .i64 a0_2) := (blk_cell BK101.out 2).trans rfl
            have hcz13_3 : w7.cell? ⟨gb101, 3, none⟩ = some (.int .i64 a0_3) := (blk_cell BK101.out 3).trans rfl
            have hcz13_4 : w7.cell? ⟨gb101, 4, none⟩ = some (.int .i64 a0_4) := (blk_cell BK101.out 4).trans rfl
            have hcz13_5 : w7.cell? ⟨gb101, 5, none⟩ = some (.int .i64 a0_5) := (blk_cell BK101.out 5).trans rfl
            have hcz13_6 : w7.cell? ⟨gb101, 6, none⟩ = some (.int .i64 a0_6) := (blk_cell BK101.out 6).trans rfl
            have hcz13_7 : w7.cell? ⟨gb101, 7, none⟩ = some (.int .i64 a0_7) := (blk_cell BK101.out 7).trans rfl
            have hcz13_8 : w7.cell? ⟨gb101, 8, none⟩ = some (.slice A0_8 l0_8.length c0_8) := (blk_cell BK101.out 8).trans rfl
            have hfz13_0 := blk_frozen BK101.out 0
            have hfz13_1 := blk_frozen BK101.out 1
            have hfz13_2 := blk_frozen BK101.out 2
            have hfz13_3 := blk_frozen BK101.out 3
            have hfz13_4 := blk_frozen BK101.out 4
            have hfz13_5 := blk_frozen BK101.out 5
            have hfz13_6 := blk_frozen BK101.out 6
            have hfz13_7 := blk_frozen BK101.out 7
            have hfz13_8 := blk_frozen BK101.out 8
            go_wp2
            go_meet
            case rel => exact ⟨_, (true), (by first | rfl | exact congrArg Value.bool (not_empty _) | exact congrArg Value.bool (is_empty _) | (simp; done) | (simp [*]; done)), H', ⟨by first | omega | exact Nat.le_refl _⟩, ⟨by (with_reducible repeat (first | refine blk_drewN ?_ _ | refine blk_drew ?_ | refine blk_alloc ?_ _)); exact BK101.out⟩, ⟨by repeat (first | (with_reducible first | exact HB.out | apply below_alloc | apply pw_below_drewN | apply below_drew1 | refine below_set ?_ GE101.out) | exact HB.out)⟩⟩
          · rw [if_neg c12] at H
            have c12b0 : decide (a0_2 < 0) = false := decide_eq_false c12
            clear c12
            have H' := Aside0.mk H
            clear H
            have hcz14_0 : w7.cell? ⟨gb101, 0, none⟩ = some (.string a0_0) := (blk_cell BK101.out 0).trans rfl
            have hcz14_1 : w7.cell? ⟨gb101, 1, none⟩ = some (.int .i64 a0_1) := (blk_cell BK101.out 1).trans rfl
            have hcz14_2 : w7.cell? ⟨gb101, 2, none⟩ = some (.int .i64 a0_2) := (blk_cell BK101.out 2).trans rfl
            have hcz14_3 : w7.cell? ⟨gb101, 3, none⟩ = some (.int .i64 a0_3) := (blk_cell BK101.out 3).trans rfl
            have hcz14_4 : w7.cell? ⟨gb101, 4, none⟩ = some (.int .i64 a0_4) := (blk_cell BK101.out 4).trans rfl
            have hcz14_5 : w7.cell? ⟨gb101, 5, none⟩ = some (.int .i64 a0_5) := (blk_cell BK101.out 5).trans rfl
            have hcz14_6 : w7.cell? ⟨gb101, 6, none⟩ = some (.int .i64 a0_6) := (blk_cell BK101.out 6).trans rfl
            have hcz14_7 : w7.cell? ⟨gb101, 7, none⟩ = some (.int .i64 a0_7) := (blk_cell BK101.out 7).trans rfl
            have hcz14_8 : w7.cell? ⟨gb101, 8, none⟩ = some (.slice A0_8 l0_8.length c0_8) := (blk_cell BK101.out 8).trans rfl
            have hfz14_0 := blk_frozen BK101.out 0
            have hfz14_1 := blk_frozen BK101.out 1
            have hfz14_2 := blk_frozen BK101.out 2
            have hfz14_3 := blk_frozen BK101.out 3
            have hfz14_4 := blk_frozen BK101.out 4
            have hfz14_5 := blk_frozen BK101.out 5
            have hfz14_6 := blk_frozen BK101.out 6
            have hfz14_7 := blk_frozen BK101.out 7
            have hfz14_8 := blk_frozen BK101.out 8
            go_wp2
            go_meet
            case rel => exact ⟨_, (decide (a0_2 ≥ 3)), (by first | rfl | exact congrArg Value.bool (not_empty _) | exact congrArg Value.bool (is_empty _) | (simp; done) | (simp [*]; done)), H', ⟨by first | omega | exact Nat.le_refl _⟩, ⟨by (with_reducible repeat (first | refine blk_drewN ?_ _ | refine blk_drew ?_ | refine blk_alloc ?_ _)); exact BK101.out⟩, ⟨by repeat (first | (with_reducible first | exact HB.out | apply below_alloc | apply pw_below_drewN | apply below_drew1 | refine below_set ?_ GE101.out) | exact HB.out)⟩⟩
    case rest =>
      clear HC4
      try clear c1
      try clear p2
      try clear c3
      try clear c3b0
      try clear c3b1
      try clear c4
      try clear c8
      try clear c8b0
      try clear c10
      try clear c10b0
      try clear c12
      try clear c12b0
      try clear hcz11_0
      try clear hcz11_1
      try clear hcz11_2
      try clear hcz11_3
      try clear hcz11_4
      try clear hcz11_5
      try clear hcz11_6
      try clear hcz11_7
      try clear hcz11_8
      try clear hcz13_0
      try clear hcz13_1
      try clear hcz13_2
      try clear hcz13_3
      try clear hcz13_4
      try clear hcz13_5
      try clear hcz13_6
      try clear hcz13_7
      try clear hcz13_8
      try clear hcz14_0
      try clear hcz14_1
      try clear hcz14_2
      try clear hcz14_3
      try clear hcz14_4
      try clear hcz14_5
      try clear hcz14_6
      try clear hcz14_7
      try clear hcz14_8
      try clear hcz6_0
      try clear hcz6_1
      try clear hcz6_2
      try clear hcz6_3
      try clear hcz6_4
      try clear hcz6_5
      try clear hcz6_6
      try clear hcz6_7
      try clear hcz6_8
      try clear hcz9_0
      try clear hcz9_1
      try clear hcz9_2
      try clear hcz9_3
      try clear hcz9_4
      try clear hcz9_5
      try clear hcz9_6
      try clear hcz9_7
      try clear hcz9_8
      try clear hfz11_0
      try clear hfz11_1
      try clear hfz11_2
      try clear hfz11_3
      try clear hfz11_4
      try clear hfz11_5
      try clear hfz11_6
      try clear hfz11_7
      try clear hfz11_8
      try clear hfz13_0
      try clear hfz13_1
      try clear hfz13_2
      try clear hfz13_3
      try clear hfz13_4
      try clear hfz13_5
      try clear hfz13_6
      try clear hfz13_7
      try clear hfz13_8
      try clear hfz14_0
      try clear hfz14_1
      try clear hfz14_2
      try clear hfz14_3
      try clear hfz14_4
      try clear hfz14_5
      try clear hfz14_6
      try clear hfz14_7
      try clear hfz14_8
      try clear hfz6_0
      try clear hfz6_1
      try clear hfz6_2
      try clear hfz6_3
      try clear hfz6_4
      try clear hfz6_5
      try clear hfz6_6
      try clear hfz6_7
      try clear hfz6_8
      try clear hfz9_0
      try clear hfz9_1
      try clear hfz9_2
      try clear hfz9_3
      try clear hfz9_4
      try clear hfz9_5
      try clear hfz9_6
      try clear hfz9_7
      try clear hfz9_8
      obtain ⟨kq, x11_3, rfl, HA, HJ3, BK101, HB⟩ := hcut
      cases kq with
      | zero => exact absurd HA.out (by simp [feature_Check.j0])
      | succ kj3 =>
        have H := HA.out
        clear HA
        simp only [feature_Check.j0] at H
        by_cases c15 : x11_3 = true
        · subst c15
          have H1 : (some 1) = some r := by rw [if_pos rfl] at H; exact H
          clear H
          have H := H1
          clear H1
          obtain rfl := Option.some.inj H
          go_wp2
          go_ret
          exact ⟨by first | rfl | (simp [errW_none, errW_some] <;> rfl) | (simp [*, errW_none, errW_some] <;> rfl), by repeat (first | (with_reducible first | exact HB.out | apply below_alloc | apply pw_below_drewN | apply below_drew1 | refine below_set ?_ GE101.out) | exact HB.out)⟩
        · replace c15 := Bool.eq_false_iff.mpr c15
          subst c15
          have H1 : (if a0_1 = 4 then (feature_Check.j1 kj3 (a0_2 != 0) a0_0 a0_1 a0_2 a0_3 a0_4 a0_5 a0_6 a0_7 l0_8) else (feature_Check.j1 kj3 false a0_0 a0_1 a0_2 a0_3 a0_4 a0_5 a0_6 a0_7 l0_8)) = some r := by rw [if_neg (show ¬ (false = true) by decide)] at H; exact H
          clear H
          have H := H1
          clear H1
          have HC16 := Aside0.mk H
          clear H
          go_upto_region 6 with (fail)
          go_cut [30] (fun v30 wc => ∃ (kq : Nat) (x30_15 : Bool), v30 = .bool x30_15 ∧ Aside0 (feature_Check.j1 kq x30_15 a0_0 a0_1 a0_2 a0_3 a0_4 a0_5 a0_6 a0_7 l0_8 = some r) ∧ Aside0 (kq ≤ kj3) ∧ Aside0 (wc.heap[gb101]? = some (.cells #[.string a0_0, .int .i64 a0_1, .int .i64 a0_2, .int .i64 a0_3, .int .i64 a0_4, .int .i64 a0_5, .int .i64 a0_6, .int .i64 a0_7, (.slice A0_8 l0_8.length c0_8)] 28 (0, 0))) ∧ Aside0 (Below w.heap.size w wc))
          case first =>
            have H := HC16.out
            clear HC16
            by_cases c17 : a0_1 = 4
            · rw [if_pos c17] at H
              have c17b0 : (a0_1 == 4) = true := beq_iff_eq.mpr c17
              have c17b1 : (a0_1 != 4) = false := bne_eq_false_iff_eq.mpr c17
              clear c17
              (first | rw [c17b0] | (simp only [i64_w, i32_w]; rw [c17b0]) | skip)
              have H' := Aside0.mk H
              clear H
              have hcz18_0 : wc.cell? ⟨gb101, 0, none⟩ = some (.string a0_0) := (blk_cell BK101.out 0).trans rfl
              have hcz18_1 : wc.cell? ⟨gb101, 1, none⟩ = some (.int .i64 a0_1) := (blk_cell BK101.out 1).trans rfl
              have hcz18_2 : wc.cell? ⟨gb101, 2, none⟩ = some (.int .i64 a0_2) := (blk_cell BK101.out 2).trans rfl
              have hcz18_3 : wc.cell? ⟨gb101, 3, none⟩ = some (.int .i64 a0_3) := (blk_cell BK101.out 3).trans rfl
              have hcz18_4 : wc.cell? ⟨gb101, 4, none⟩ = some (.int .i64 a0_4) := (blk_cell BK101.out 4).trans rfl
              have hcz18_5 : wc.cell? ⟨gb101, 5, none⟩ = some (.int .i64 a0_5) := (blk_cell BK101.out 5).trans rfl
              have hcz18_6 : wc.cell? ⟨gb101, 6, none⟩ = some (.int .i64 a0_6) := (blk_cell BK101.out 6).trans rfl
              have hcz18_7 : wc.cell? ⟨gb101, 7, none⟩ = some (.int .i64 a0_7) := (blk_cell BK101.out 7).trans rfl
              have hcz18_8 : wc.cell? ⟨gb101, 8, none⟩ = some (.slice A0_8 l0_8.length c0_8) := (blk_cell BK101.out 8).trans rfl
              have hfz18_0 := blk_frozen BK101.out 0
              have hfz18_1 := blk_frozen BK101.out 1
              have hfz18_2 := blk_frozen BK101.out 2
              have hfz18_3 := blk_frozen BK101.out 3
              have hfz18_4 := blk_frozen BK101.out 4
              have hfz18_5 := blk_frozen BK101.out 5
              have hfz18_6 := blk_frozen BK101.out 6
              have hfz18_7 := blk_frozen BK101.out 7
              have hfz18_8 := blk_frozen BK101.out 8
              go_wp2
              go_meet
              case rel => exact ⟨_, ((a0_2 != 0)), (by first | rfl | exact congrArg Value.bool (not_empty _) | exact congrArg Value.bool (is_empty _) | (simp; done) | (simp [*]; done)), H', ⟨by have := HJ3.out; first | omega | exact Nat.le_refl _⟩, ⟨by (with_reducible repeat (first | refine blk_drewN ?_ _ | refine blk_drew ?_ | refine blk_alloc ?_ _)); exact BK101.out⟩, ⟨by repeat (first | (with_reducible first | exact HB.out | apply below_alloc | apply pw_below_drewN | apply below_drew1 | refine below_set ?_ GE101.out) | exact HB.out)⟩⟩
            · rw [if_neg c17] at H
              have c17b0 : (a0_1 == 4) = false := beq_eq_false_iff_ne.mpr c17
              have c17b1 : (a0_1 != 4) = true := bne_iff_ne.mpr c17
              (first | rw [c17b0] | (simp only [i64_w, i32_w]; rw [c17b0]) | skip)
              have H' := Aside0.mk H
              clear H
              have hcz19_0 : wc.cell? ⟨gb101, 0, none⟩ = some (.string a0_0) := (blk_cell BK101.out 0).trans rfl
              have hcz19_1 : wc.cell? ⟨gb101, 1, none⟩ = some (.int .i64 a0_1) := (blk_cell BK101.out 1).trans rfl
              have hcz19_2 : wc.cell? ⟨gb101, 2, none⟩ = some (.int .i64 a0_2) := (blk_cell BK101.out 2).trans rfl
              have hcz19_3 : wc.cell? ⟨gb101, 3, none⟩ = some (.int .i64 a0_3) := (blk_cell BK101.out 3).trans rfl
              have hcz19_4 : wc.cell? ⟨gb101, 4, none⟩ = some (.int .i64 a0_4) := (blk_cell BK101.out 4).trans rfl
              have hcz19_5 : wc.cell? ⟨gb101, 5, none⟩ = some (.int .i64 a0_5) := (blk_cell BK101.out 5).trans rfl
              have hcz19_6 : wc.cell? ⟨gb101, 6, none⟩ = some (.int .i64 a0_6) := (blk_cell BK101.out 6).trans rfl
              have hcz19_7 : wc.cell? ⟨gb101, 7, none⟩ = some (.int .i64 a0_7) := (blk_cell BK101.out 7).trans rfl
              have hcz19_8 : wc.cell? ⟨gb101, 8, none⟩ = some (.slice A0_8 l0_8.length c0_8) := (blk_cell BK101.out 8).trans rfl
              have hfz19_0 := blk_frozen BK101.out 0
              have hfz19_1 := blk_frozen BK101.out 1
              have hfz19_2 := blk_frozen BK101.out 2
              have hfz19_3 := blk_frozen BK101.out 3
              have hfz19_4 := blk_frozen BK101.out 4
              have hfz19_5 := blk_frozen BK101.out 5
              have hfz19_6 := blk_frozen BK101.out 6
              have hfz19_7 := blk_frozen BK101.out 7
              have hfz19_8 := blk_frozen BK101.out 8
              go_wp2
              go_meet
              case rel => exact ⟨_, (false), (by first | rfl | exact congrArg Value.bool (not_empty _) | exact congrArg Value.bool (is_empty _) | (simp; done) | (simp [*]; done)), H', ⟨by have := HJ3.out; first | omega | exact Nat.le_refl _⟩, ⟨by (with_reducible repeat (first | refine blk_drewN ?_ _ | refine blk_drew ?_ | refine blk_alloc ?_ _)); exact BK101.out⟩, ⟨by repeat (first | (with_reducible first | exact HB.out | apply below_alloc | apply pw_below_drewN | apply below_drew1 | refine below_set ?_ GE101.out) | exact HB.out)⟩⟩
          case rest =>
            clear HC16
            try clear c1
            try clear p2
            try clear c3
            try clear c3b0
            try clear c3b1
            try clear c4
            try clear c8
            try clear c8b0
            try clear c10
            try clear c10b0
            try clear c12
            try clear c12b0
            try clear c15
            try clear c17
            try clear c17b0
            try clear c17b1
            try clear hcz11_0
            try clear hcz11_1
            try clear hcz11_2
            try clear hcz11_3
            try clear hcz11_4
            try clear hcz11_5
            try clear hcz11_6
            try clear hcz11_7
            try clear hcz11_8
            try clear hcz13_0
            try clear hcz13_1
            try clear hcz13_2
            try clear hcz13_3
            try clear hcz13_4
            try clear hcz13_5
            try clear hcz13_6
            try clear hcz13_7
            try clear hcz13_8
            try clear hcz14_0
            try clear hcz14_1
            try clear hcz14_2
            try clear hcz14_3
            try clear hcz14_4
            try clear hcz14_5
            try clear hcz14_6
            try clear hcz14_7
            try clear hcz14_8
            try clear hcz18_0
            try clear hcz18_1
            try clear hcz18_2
            try clear hcz18_3
            try clear hcz18_4
            try clear hcz18_5
            try clear hcz18_6
            try clear hcz18_7
            try clear hcz18_8
            try clear hcz19_0
            try clear hcz19_1
            try clear hcz19_2
            try clear hcz19_3
            try clear hcz19_4
            try clear hcz19_5
            try clear hcz19_6
            try clear hcz19_7
            try clear hcz19_8
            try clear hcz6_0
            try clear hcz6_1
            try clear hcz6_2
            try clear hcz6_3
            try clear hcz6_4
            try clear hcz6_5
            try clear hcz6_6
            try clear hcz6_7
            try clear hcz6_8
            try clear hcz9_0
            try clear hcz9_1
            try clear hcz9_2
            try clear hcz9_3
            try clear hcz9_4
            try clear hcz9_5
            try clear hcz9_6
            try clear hcz9_7
            try clear hcz9_8
            try clear hfz11_0
            try clear hfz11_1
            try clear hfz11_2
            try clear hfz11_3
            try clear hfz11_4
            try clear hfz11_5
            try clear hfz11_6
            try clear hfz11_7
            try clear hfz11_8
            try clear hfz13_0
            try clear hfz13_1
            try clear hfz13_2
            try clear hfz13_3
            try clear hfz13_4
            try clear hfz13_5
            try clear hfz13_6
            try clear hfz13_7
            try clear hfz13_8
            try clear hfz14_0
            try clear hfz14_1
            try clear hfz14_2
            try clear hfz14_3
            try clear hfz14_4
            try clear hfz14_5
            try clear hfz14_6
            try clear hfz14_7
            try clear hfz14_8
            try clear hfz18_0
            try clear hfz18_1
            try clear hfz18_2
            try clear hfz18_3
            try clear hfz18_4
            try clear hfz18_5
            try clear hfz18_6
            try clear hfz18_7
            try clear hfz18_8
            try clear hfz19_0
            try clear hfz19_1
            try clear hfz19_2
            try clear hfz19_3
            try clear hfz19_4
            try clear hfz19_5
            try clear hfz19_6
            try clear hfz19_7
            try clear hfz19_8
            try clear hfz6_0
            try clear hfz6_1
            try clear hfz6_2
            try clear hfz6_3
            try clear hfz6_4
            try clear hfz6_5
            try clear hfz6_6
            try clear hfz6_7
            try clear hfz6_8
            try clear hfz9_0
            try clear hfz9_1
            try clear hfz9_2
            try clear hfz9_3
            try clear hfz9_4
            try clear hfz9_5
            try clear hfz9_6
            try clear hfz9_7
            try clear hfz9_8
            try clear p2
            obtain ⟨kq, x30_15, rfl, HA, HJ15, BK101, HB⟩ := hcut
            cases kq with
            | zero => exact absurd HA.out (by simp [feature_Check.j1])
            | succ kj15 =>
              have H := HA.out
              clear HA
              simp only [feature_Check.j1] at H
              by_cases c20 : x30_15 = true
              · subst c20
                have H1 : (some 3) = some r := by rw [if_pos rfl] at H; exact H
                clear H
                have H := H1
                clear H1
                obtain rfl := Option.some.inj H
                go_wp2
                go_ret
                exact ⟨by first | rfl | (simp [errW_none, errW_some] <;> rfl) | (simp [*, errW_none, errW_some] <;> rfl), by repeat (first | (with_reducible first | exact HB.out | apply below_alloc | apply pw_below_drewN | apply below_drew1 | refine below_set ?_ GE101.out) | exact HB.out)⟩
              · replace c20 := Bool.eq_false_iff.mpr c20
                subst c20
                have H1 : ((ZA.feature_ranged.f a0_3 a0_4 a0_5).bind fun t103 => (if t103 = true then (if a0_1 = 0 then (feature_Check.j2 kj15 (!(a0_6 == 0) || (!(a0_7 == 0))) a0_0 a0_1 a0_2 a0_3 a0_4 a0_5 a0_6 a0_7 l0_8) else (feature_Check.j2 kj15 false a0_0 a0_1 a0_2 a0_3 a0_4 a0_5 a0_6 a0_7 l0_8)) else (some 2))) = some r := by rw [if_neg (show ¬ (false = true) by decide)] at H; exact H
                clear H
                have H := H1
                clear H1
                replace H := Option.bind_eq_some_iff.mp H
                obtain ⟨t103, A210, H⟩ := H
                replace H : (if t103 = true then (if a0_1 = 0 then (feature_Check.j2 kj15 (!(a0_6 == 0) || (!(a0_7 == 0))) a0_0 a0_1 a0_2 a0_3 a0_4 a0_5 a0_6 a0_7 l0_8) else (feature_Check.j2 kj15 false a0_0 a0_1 a0_2 a0_3 a0_4 a0_5 a0_6 a0_7 l0_8)) else (some 2)) = some r := H
                have A21 := Aside0.mk A210
                clear A210
                by_cases c22 : t103 = true
                · subst c22
                  have H1 : (if a0_1 = 0 then (feature_Check.j2 kj15 (!(a0_6 == 0) || (!(a0_7 == 0))) a0_0 a0_1 a0_2 a0_3 a0_4 a0_5 a0_6 a0_7 l0_8) else (feature_Check.j2 kj15 false a0_0 a0_1 a0_2 a0_3 a0_4 a0_5 a0_6 a0_7 l0_8)) = some r := by rw [if_pos rfl] at H; exact H
                  clear H
                  have H := H1
                  clear H1
                  have HC23 := Aside0.mk H
                  clear H
                  have hcz24_0 : wc.cell? ⟨gb101, 0, none⟩ = some (.string a0_0) := (blk_cell BK101.out 0).trans rfl
                  have hcz24_1 : wc.cell? ⟨gb101, 1, none⟩ = some (.int .i64 a0_1) := (blk_cell BK101.out 1).trans rfl
                  have hcz24_2 : wc.cell? ⟨gb101, 2, none⟩ = some (.int .i64 a0_2) := (blk_cell BK101.out 2).trans rfl
                  have hcz24_3 : wc.cell? ⟨gb101, 3, none⟩ = some (.int .i64 a0_3) := (blk_cell BK101.out 3).trans rfl
                  have hcz24_4 : wc.cell? ⟨gb101, 4, none⟩ = some (.int .i64 a0_4) := (blk_cell BK101.out 4).trans rfl
                  have hcz24_5 : wc.cell? ⟨gb101, 5, none⟩ = some (.int .i64 a0_5) := (blk_cell BK101.out 5).trans rfl
                  have hcz24_6 : wc.cell? ⟨gb101, 6, none⟩ = some (.int .i64 a0_6) := (blk_cell BK101.out 6).trans rfl
                  have hcz24_7 : wc.cell? ⟨gb101, 7, none⟩ = some (.int .i64 a0_7) := (blk_cell BK101.out 7).trans rfl
                  have hcz24_8 : wc.cell? ⟨gb101, 8, none⟩ = some (.slice A0_8 l0_8.length c0_8) := (blk_cell BK101.out 8).trans rfl
                  have hfz24_0 := blk_frozen BK101.out 0
                  have hfz24_1 := blk_frozen BK101.out 1
                  have hfz24_2 := blk_frozen BK101.out 2
                  have hfz24_3 := blk_frozen BK101.out 3
                  have hfz24_4 := blk_frozen BK101.out 4
                  have hfz24_5 := blk_frozen BK101.out 5
                  have hfz24_6 := blk_frozen BK101.out 6
                  have hfz24_7 := blk_frozen BK101.out 7
                  have hfz24_8 := blk_frozen BK101.out 8
                  go_upto_region 10 with (first | ((with_reducible refine gate_callee (f := 76) rfl ?_); refine goesL_ (some 42) rfl rfl Tryz.func76 (by kernel_rfl) rfl #[.agg #[.int .i64 a0_3, .int .i64 a0_4, .int .i64 a0_5]] rfl (by (try simp only [List.map_toArray, List.map_cons, List.map_nil]); first | done | rfl | (simp only [List.length_drop, List.length_take]; rfl)) ?_; (with_reducible refine (ZA.feature_ranged.calls a0_3 a0_4 a0_5 true _ A21.out).mono ?_); rintro e w25 ⟨rfl, hb⟩; refine ⟨_, rfl, ?_⟩; have n0_ := Aside0.mk (blk_below (g := gb101) (o := .cells #[.string a0_0, .int .i64 a0_1, .int .i64 a0_2, .int .i64 a0_3, .int .i64 a0_4, .int .i64 a0_5, .int .i64 a0_6, .int .i64 a0_7, .slice A0_8 l0_8.length c0_8] 28 (0, 0)) (by (with_reducible repeat (first | refine blk_drewN ?_ _ | refine blk_drew ?_ | refine blk_alloc ?_ _)); exact BK101.out) hb); have n1_ := Aside0.mk (below_step (by repeat (first | (with_reducible first | exact HB.out | apply below_alloc | apply pw_below_drewN | apply below_drew1 | refine below_set ?_ GE101.out) | exact HB.out)) hb); clear BK101; clear HB; have BK101 := n0_; have HB := n1_; clear n0_ n1_; (try clear hb); (try clear hb2); (try clear hk); (try clear hi)))
                  (try simp only [Act.put, List.setIfInBounds_toArray, List.set_cons_zero, List.set_cons_succ])
                  go_cut [44] (fun v44 wc => ∃ (kq : Nat) (x44_22 : Bool), v44 = .bool x44_22 ∧ Aside0 (feature_Check.j2 kq x44_22 a0_0 a0_1 a0_2 a0_3 a0_4 a0_5 a0_6 a0_7 l0_8 = some r) ∧ Aside0 (kq ≤ kj15) ∧ Aside0 (wc.heap[gb101]? = some (.cells #[.string a0_0, .int .i64 a0_1, .int .i64 a0_2, .int .i64 a0_3, .int .i64 a0_4, .int .i64 a0_5, .int .i64 a0_6, .int .i64 a0_7, (.slice A0_8 l0_8.length c0_8)] 28 (0, 0))) ∧ Aside0 (Below w.heap.size w wc))
                  case first =>
                    have H := HC23.out
                    clear HC23
                    by_cases c26 : a0_1 = 0
                    · rw [if_pos c26] at H
                      have c26b0 : (a0_1 == 0) = true := beq_iff_eq.mpr c26
                      have c26b1 : (a0_1 != 0) = false := bne_eq_false_iff_eq.mpr c26
                      clear c26
                      (first | rw [c26b0] | (simp only [i64_w, i32_w]; rw [c26b0]) | skip)
                      have H' := Aside0.mk H
                      clear H
                      have hcz27_0 : w25.cell? ⟨gb101, 0, none⟩ = some (.string a0_0) := (blk_cell BK101.out 0).trans rfl
                      have hcz27_1 : w25.cell? ⟨gb101, 1, none⟩ = some (.int .i64 a0_1) := (blk_cell BK101.out 1).trans rfl
                      have hcz27_2 : w25.cell? ⟨gb101, 2, none⟩ = some (.int .i64 a0_2) := (blk_cell BK101.out 2).trans rfl
                      have hcz27_3 : w25.cell? ⟨gb101, 3, none⟩ = some (.int .i64 a0_3) := (blk_cell BK101.out 3).trans rfl
                      have hcz27_4 : w25.cell? ⟨gb101, 4, none⟩ = some (.int .i64 a0_4) := (blk_cell BK101.out 4).trans rfl
                      have hcz27_5 : w25.cell? ⟨gb101, 5, none⟩ = some (.int .i64 a0_5) := (blk_cell BK101.out 5).trans rfl
                      have hcz27_6 : w25.cell? ⟨gb101, 6, none⟩ = some (.int .i64 a0_6) := (blk_cell BK101.out 6).trans rfl
                      have hcz27_7 : w25.cell? ⟨gb101, 7, none⟩ = some (.int .i64 a0_7) := (blk_cell BK101.out 7).trans rfl
                      have hcz27_8 : w25.cell? ⟨gb101, 8, none⟩ = some (.slice A0_8 l0_8.length c0_8) := (blk_cell BK101.out 8).trans rfl
                      have hfz27_0 := blk_frozen BK101.out 0
                      have hfz27_1 := blk_frozen BK101.out 1
                      have hfz27_2 := blk_frozen BK101.out 2
                      have hfz27_3 := blk_frozen BK101.out 3
                      have hfz27_4 := blk_frozen BK101.out 4
                      have hfz27_5 := blk_frozen BK101.out 5
                      have hfz27_6 := blk_frozen BK101.out 6
                      have hfz27_7 := blk_frozen BK101.out 7
                      have hfz27_8 := blk_frozen BK101.out 8
                      go_wp2
                      go_meet
                      case rel => exact ⟨_, ((!(a0_6 == 0) || (!(a0_7 == 0)))), (by first | rfl | exact congrArg Value.bool (not_empty _) | exact congrArg Value.bool (is_empty _) | (simp; done) | (simp [*]; done)), H', ⟨by have := HJ3.out; have := HJ15.out; first | omega | exact Nat.le_refl _⟩, ⟨by (with_reducible repeat (first | refine blk_drewN ?_ _ | refine blk_drew ?_ | refine blk_alloc ?_ _)); exact BK101.out⟩, ⟨by repeat (first | (with_reducible first | exact HB.out | apply below_alloc | apply pw_below_drewN | apply below_drew1 | refine below_set ?_ GE101.out) | exact HB.out)⟩⟩
                    · rw [if_neg c26] at H
                      have c26b0 : (a0_1 == 0) = false := beq_eq_false_iff_ne.mpr c26
                      have c26b1 : (a0_1 != 0) = true := bne_iff_ne.mpr c26
                      (first | rw [c26b0] | (simp only [i64_w, i32_w]; rw [c26b0]) | skip)
                      have H' := Aside0.mk H
                      clear H
                      have hcz28_0 : w25.cell? ⟨gb101, 0, none⟩ = some (.string a0_0) := (blk_cell BK101.out 0).trans rfl
                      have hcz28_1 : w25.cell? ⟨gb101, 1, none⟩ = some (.int .i64 a0_1) := (blk_cell BK101.out 1).trans rfl
                      have hcz28_2 : w25.cell? ⟨gb101, 2, none⟩ = some (.int .i64 a0_2) := (blk_cell BK101.out 2).trans rfl
                      have hcz28_3 : w25.cell? ⟨gb101, 3, none⟩ = some (.int .i64 a0_3) := (blk_cell BK101.out 3).trans rfl
                      have hcz28_4 : w25.cell? ⟨gb101, 4, none⟩ = some (.int .i64 a0_4) := (blk_cell BK101.out 4).trans rfl
                      have hcz28_5 : w25.cell? ⟨gb101, 5, none⟩ = some (.int .i64 a0_5) := (blk_cell BK101.out 5).trans rfl
                      have hcz28_6 : w25.cell? ⟨gb101, 6, none⟩ = some (.int .i64 a0_6) := (blk_cell BK101.out 6).trans rfl
                      have hcz28_7 : w25.cell? ⟨gb101, 7, none⟩ = some (.int .i64 a0_7) := (blk_cell BK101.out 7).trans rfl
                      have hcz28_8 : w25.cell? ⟨gb101, 8, none⟩ = some (.slice A0_8 l0_8.length c0_8) := (blk_cell BK101.out 8).trans rfl
                      have hfz28_0 := blk_frozen BK101.out 0
                      have hfz28_1 := blk_frozen BK101.out 1
                      have hfz28_2 := blk_frozen BK101.out 2
                      have hfz28_3 := blk_frozen BK101.out 3
                      have hfz28_4 := blk_frozen BK101.out 4
                      have hfz28_5 := blk_frozen BK101.out 5
                      have hfz28_6 := blk_frozen BK101.out 6
                      have hfz28_7 := blk_frozen BK101.out 7
                      have hfz28_8 := blk_frozen BK101.out 8
                      go_wp2
                      go_meet
                      case rel => exact ⟨_, (false), (by first | rfl | exact congrArg Value.bool (not_empty _) | exact congrArg Value.bool (is_empty _) | (simp; done) | (simp [*]; done)), H', ⟨by have := HJ3.out; have := HJ15.out; first | omega | exact Nat.le_refl _⟩, ⟨by (with_reducible repeat (first | refine blk_drewN ?_ _ | refine blk_drew ?_ | refine blk_alloc ?_ _)); exact BK101.out⟩, ⟨by repeat (first | (with_reducible first | exact HB.out | apply below_alloc | apply pw_below_drewN | apply below_drew1 | refine below_set ?_ GE101.out) | exact HB.out)⟩⟩
                  case rest =>
                    clear HC23
                    try clear c1
                    try clear c2
                    try clear p2
                    try clear c3
                    try clear c3b0
                    try clear c3b1
                    try clear c4
                    try clear c7
                    try clear c8
                    try clear c8b0
                    try clear c10
                    try clear c10b0
                    try clear c12
                    try clear c12b0
                    try clear c15
                    try clear c17
                    try clear c17b0
                    try clear c17b1
                    try clear c20
                    try clear c22
                    try clear c26
                    try clear c26b0
                    try clear c26b1
                    try clear hcz11_0
                    try clear hcz11_1
                    try clear hcz11_2
                    try clear hcz11_3
                    try clear hcz11_4
                    try clear hcz11_5
                    try clear hcz11_6
                    try clear hcz11_7
                    try clear hcz11_8
                    try clear hcz13_0
                    try clear hcz13_1
                    try clear hcz13_2
                    try clear hcz13_3
                    try clear hcz13_4
                    try clear hcz13_5
                    try clear hcz13_6
                    try clear hcz13_7
                    try clear hcz13_8
                    try clear hcz14_0
                    try clear hcz14_1
                    try clear hcz14_2
                    try clear hcz14_3
                    try clear hcz14_4
                    try clear hcz14_5
                    try clear hcz14_6
                    try clear hcz14_7
                    try clear hcz14_8
                    try clear hcz18_0
                    try clear hcz18_1
                    try clear hcz18_2
                    try clear hcz18_3
                    try clear hcz18_4
                    try clear hcz18_5
                    try clear hcz18_6
                    try clear hcz18_7
                    try clear hcz18_8
                    try clear hcz19_0
                    try clear hcz19_1
                    try clear hcz19_2
                    try clear hcz19_3
                    try clear hcz19_4
                    try clear hcz19_5
                    try clear hcz19_6
                    try clear hcz19_7
                    try clear hcz19_8
                    try clear hcz24_0
                    try clear hcz24_1
                    try clear hcz24_2
                    try clear hcz24_3
                    try clear hcz24_4
                    try clear hcz24_5
                    try clear hcz24_6
                    try clear hcz24_7
                    try clear hcz24_8
                    try clear hcz27_0
                    try clear hcz27_1
                    try clear hcz27_2
                    try clear hcz27_3
                    try clear hcz27_4
                    try clear hcz27_5
                    try clear hcz27_6
                    try clear hcz27_7
                    try clear hcz27_8
                    try clear hcz28_0
                    try clear hcz28_1
                    try clear hcz28_2
                    try clear hcz28_3
                    try clear hcz28_4
                    try clear hcz28_5
                    try clear hcz28_6
                    try clear hcz28_7
                    try clear hcz28_8
                    try clear hcz6_0
                    try clear hcz6_1
                    try clear hcz6_2
                    try clear hcz6_3
                    try clear hcz6_4
                    try clear hcz6_5
                    try clear hcz6_6
                    try clear hcz6_7
                    try clear hcz6_8
                    try clear hcz9_0
                    try clear hcz9_1
                    try clear hcz9_2
                    try clear hcz9_3
                    try clear hcz9_4
                    try clear hcz9_5
                    try clear hcz9_6
                    try clear hcz9_7
                    try clear hcz9_8
                    try clear hfz11_0
                    try clear hfz11_1
                    try clear hfz11_2
                    try clear hfz11_3
                    try clear hfz11_4
                    try clear hfz11_5
                    try clear hfz11_6
                    try clear hfz11_7
                    try clear hfz11_8
                    try clear hfz13_0
                    try clear hfz13_1
                    try clear hfz13_2
                    try clear hfz13_3
                    try clear hfz13_4
                    try clear hfz13_5
                    try clear hfz13_6
                    try clear hfz13_7
                    try clear hfz13_8
                    try clear hfz14_0
                    try clear hfz14_1
                    try clear hfz14_2
                    try clear hfz14_3
                    try clear hfz14_4
                    try clear hfz14_5
                    try clear hfz14_6
                    try clear hfz14_7
                    try clear hfz14_8
                    try clear hfz18_0
                    try clear hfz18_1
                    try clear hfz18_2
                    try clear hfz18_3
                    try clear hfz18_4
                    try clear hfz18_5
                    try clear hfz18_6
                    try clear hfz18_7
                    try clear hfz18_8
                    try clear hfz19_0
                    try clear hfz19_1
                    try clear hfz19_2
                    try clear hfz19_3
                    try clear hfz19_4
                    try clear hfz19_5
                    try clear hfz19_6
                    try clear hfz19_7
                    try clear hfz19_8
                    try clear hfz24_0
                    try clear hfz24_1
                    try clear hfz24_2
                    try clear hfz24_3
                    try clear hfz24_4
                    try clear hfz24_5
                    try clear hfz24_6
                    try clear hfz24_7
                    try clear hfz24_8
                    try clear hfz27_0
                    try clear hfz27_1
                    try clear hfz27_2
                    try clear hfz27_3
                    try clear hfz27_4
                    try clear hfz27_5
                    try clear hfz27_6
                    try clear hfz27_7
                    try clear hfz27_8
                    try clear hfz28_0
                    try clear hfz28_1
                    try clear hfz28_2
                    try clear hfz28_3
                    try clear hfz28_4
                    try clear hfz28_5
                    try clear hfz28_6
                    try clear hfz28_7
                    try clear hfz28_8
                    try clear hfz6_0
                    try clear hfz6_1
                    try clear hfz6_2
                    try clear hfz6_3
                    try clear hfz6_4
                    try clear hfz6_5
                    try clear hfz6_6
                    try clear hfz6_7
                    try clear hfz6_8
                    try clear hfz9_0
                    try clear hfz9_1
                    try clear hfz9_2
                    try clear hfz9_3
                    try clear hfz9_4
                    try clear hfz9_5
                    try clear hfz9_6
                    try clear hfz9_7
                    try clear hfz9_8
                    try clear p2
                    obtain ⟨kq, x44_22, rfl, HA, HJ22, BK101, HB⟩ := hcut
                    cases kq with
                    | zero => exact absurd HA.out (by simp [feature_Check.j2])
                    | succ kj22 =>
                      have H := HA.out
                      clear HA
                      simp only [feature_Check.j2] at H
                      by_cases c29 : x44_22 = true
                      · subst c29
                        have H1 : (some 3) = some r := by rw [if_pos rfl] at H; exact H
                        clear H
                        have H := H1
                        clear H1
                        obtain rfl := Option.some.inj H
                        go_wp2
                        go_ret
                        exact ⟨by first | rfl | (simp [errW_none, errW_some] <;> rfl) | (simp [*, errW_none, errW_some] <;> rfl), by repeat (first | (with_reducible first | exact HB.out | apply below_alloc | apply pw_below_drewN | apply below_drew1 | refine below_set ?_ GE101.out) | exact HB.out)⟩
                      · replace c29 := Bool.eq_false_iff.mpr c29
                        subst c29
                        have H1 : (if a0_1 = 0 then (some 0) else ((ZA.dimension_Check.f kj22 a0_6 a0_7).bind fun t104 => (if t104 = 0 then (if a0_6 < 1 then (some 2) else (some 0)) else (some t104)))) = some r := by rw [if_neg (show ¬ (false = true) by decide)] at H; exact H
                        clear H
                        have H := H1
                        clear H1
                        by_cases c30 : a0_1 = 0
                        · rw [if_pos c30] at H
                          have c30b0 : (a0_1 == 0) = true := beq_iff_eq.mpr c30
                          have c30b1 : (a0_1 != 0) = false := bne_eq_false_iff_eq.mpr c30
                          clear c30
                          obtain rfl := Option.some.inj H
                          have hcz31_0 : wc.cell? ⟨gb101, 0, none⟩ = some (.string a0_0) := (blk_cell BK101.out 0).trans rfl
                          have hcz31_1 : wc.cell? ⟨gb101, 1, none⟩ = some (.int .i64 a0_1) := (blk_cell BK101.out 1).trans rfl
                          have hcz31_2 : wc.cell? ⟨gb101, 2, none⟩ = some (.int .i64 a0_2) := (blk_cell BK101.out 2).trans rfl
                          have hcz31_3 : wc.cell? ⟨gb101, 3, none⟩ = some (.int .i64 a0_3) := (blk_cell BK101.out 3).trans rfl
                          have hcz31_4 : wc.cell? ⟨gb101, 4, none⟩ = some (.int .i64 a0_4) := (blk_cell BK101.out 4).trans rfl
                          have hcz31_5 : wc.cell? ⟨gb101, 5, none⟩ = some (.int .i64 a0_5) := (blk_cell BK101.out 5).trans rfl
                          have hcz31_6 : wc.cell? ⟨gb101, 6, none⟩ = some (.int .i64 a0_6) := (blk_cell BK101.out 6).trans rfl
                          have hcz31_7 : wc.cell? ⟨gb101, 7, none⟩ = some (.int .i64 a0_7) := (blk_cell BK101.out 7).trans rfl
                          have hcz31_8 : wc.cell? ⟨gb101, 8, none⟩ = some (.slice A0_8 l0_8.length c0_8) := (blk_cell BK101.out 8).trans rfl
                          have hfz31_0 := blk_frozen BK101.out 0
                          have hfz31_1 := blk_frozen BK101.out 1
                          have hfz31_2 := blk_frozen BK101.out 2
                          have hfz31_3 := blk_frozen BK101.out 3
                          have hfz31_4 := blk_frozen BK101.out 4
                          have hfz31_5 := blk_frozen BK101.out 5
                          have hfz31_6 := blk_frozen BK101.out 6
                          have hfz31_7 := blk_frozen BK101.out 7
                          have hfz31_8 := blk_frozen BK101.out 8
                          go_wp2
                          go_ret
                          exact ⟨by first | rfl | (simp [errW_none, errW_some] <;> rfl) | (simp [*, errW_none, errW_some] <;> rfl), by repeat (first | (with_reducible first | exact HB.out | apply below_alloc | apply pw_below_drewN | apply below_drew1 | refine below_set ?_ GE101.out) | exact HB.out)⟩
                        · rw [if_neg c30] at H
                          have c30b0 : (a0_1 == 0) = false := beq_eq_false_iff_ne.mpr c30
                          have c30b1 : (a0_1 != 0) = true := bne_iff_ne.mpr c30
                          replace H := Option.bind_eq_some_iff.mp H
                          obtain ⟨t104, A320, H⟩ := H
                          replace H : (if t104 = 0 then (if a0_6 < 1 then (some 2) else (some 0)) else (some t104)) = some r := H
                          have A32 := Aside0.mk A320
                          clear A320
                          by_cases c33 : t104 = 0
                          · rw [if_pos c33] at H
                            have c33b0 : (t104 == 0) = true := beq_iff_eq.mpr c33
                            have c33b1 : (t104 != 0) = false := bne_eq_false_iff_eq.mpr c33
                            clear c33
                            by_cases c34 : a0_6 < 1
                            · rw [if_pos c34] at H
                              have c34b0 : decide (a0_6 < 1) = true := decide_eq_true c34
                              clear c34
                              obtain rfl := Option.some.inj H
                              have hcz35_0 : wc.cell? ⟨gb101, 0, none⟩ = some (.string a0_0) := (blk_cell BK101.out 0).trans rfl
                              have hcz35_1 : wc.cell? ⟨gb101, 1, none⟩ = some (.int .i64 a0_1) := (blk_cell BK101.out 1).trans rfl
                              have hcz35_2 : wc.cell? ⟨gb101, 2, none⟩ = some (.int .i64 a0_2) := (blk_cell BK101.out 2).trans rfl
                              have hcz35_3 : wc.cell? ⟨gb101, 3, none⟩ = some (.int .i64 a0_3) := (blk_cell BK101.out 3).trans rfl
                              have hcz35_4 : wc.cell? ⟨gb101, 4, none⟩ = some (.int .i64 a0_4) := (blk_cell BK101.out 4).trans rfl
                              have hcz35_5 : wc.cell? ⟨gb101, 5, none⟩ = some (.int .i64 a0_5) := (blk_cell BK101.out 5).trans rfl
                              have hcz35_6 : wc.cell? ⟨gb101, 6, none⟩ = some (.int .i64 a0_6) := (blk_cell BK101.out 6).trans rfl
                              have hcz35_7 : wc.cell? ⟨gb101, 7, none⟩ = some (.int .i64 a0_7) := (blk_cell BK101.out 7).trans rfl
                              have hcz35_8 : wc.cell? ⟨gb101, 8, none⟩ = some (.slice A0_8 l0_8.length c0_8) := (blk_cell BK101.out 8).trans rfl
                              have hfz35_0 := blk_frozen BK101.out 0
                              have hfz35_1 := blk_frozen BK101.out 1
                              have hfz35_2 := blk_frozen BK101.out 2
                              have hfz35_3 := blk_frozen BK101.out 3
                              have hfz35_4 := blk_frozen BK101.out 4
                              have hfz35_5 := blk_frozen BK101.out 5
                              have hfz35_6 := blk_frozen BK101.out 6
                              have hfz35_7 := blk_frozen BK101.out 7
                              have hfz35_8 := blk_frozen BK101.out 8
                              go_wp2_with (first | ((with_reducible refine gate_callee (f := 77) rfl ?_); refine goesL_ (some 60) rfl rfl Tryz.func77 (by kernel_rfl) rfl #[.agg #[.int .i64 a0_6, .int .i64 a0_7]] rfl (by (try simp only [List.map_toArray, List.map_cons, List.map_nil]); first | done | rfl | (simp only [List.length_drop, List.length_take]; rfl)) ?_; (with_reducible refine (ZA.dimension_Check.calls kj22 a0_6 a0_7 t104 _ A32.out).mono ?_); rintro e w36 ⟨rfl, hb⟩; refine ⟨_, rfl, ?_⟩; have n0_ := Aside0.mk (blk_below (g := gb101) (o := .cells #[.string a0_0, .int .i64 a0_1, .int .i64 a0_2, .int .i64 a0_3, .int .i64 a0_4, .int .i64 a0_5, .int .i64 a0_6, .int .i64 a0_7, .slice A0_8 l0_8.length c0_8] 28 (0, 0)) (by (with_reducible repeat (first | refine blk_drewN ?_ _ | refine blk_drew ?_ | refine blk_alloc ?_ _)); exact BK101.out) hb); have n1_ := Aside0.mk (below_step (by repeat (first | (with_reducible first | exact HB.out | apply below_alloc | apply pw_below_drewN | apply below_drew1 | refine below_set ?_ GE101.out) | exact HB.out)) hb); clear BK101; clear HB; have BK101 := n0_; have HB := n1_; clear n0_ n1_; (try clear hb); (try clear hb2); (try clear hk); (try clear hi); have hcz37_0 : w36.cell? ⟨gb101, 0, none⟩ = some (.string a0_0) := (blk_cell BK101.out 0).trans rfl; have hcz37_1 : w36.cell? ⟨gb101, 1, none⟩ = some (.int .i64 a0_1) := (blk_cell BK101.out 1).trans rfl; have hcz37_2 : w36.cell? ⟨gb101, 2, none⟩ = some (.int .i64 a0_2) := (blk_cell BK101.out 2).trans rfl; have hcz37_3 : w36.cell? ⟨gb101, 3, none⟩ = some (.int .i64 a0_3) := (blk_cell BK101.out 3).trans rfl; have hcz37_4 : w36.cell? ⟨gb101, 4, none⟩ = some (.int .i64 a0_4) := (blk_cell BK101.out 4).trans rfl; have hcz37_5 : w36.cell? ⟨gb101, 5, none⟩ = some (.int .i64 a0_5) := (blk_cell BK101.out 5).trans rfl; have hcz37_6 : w36.cell? ⟨gb101, 6, none⟩ = some (.int .i64 a0_6) := (blk_cell BK101.out 6).trans rfl; have hcz37_7 : w36.cell? ⟨gb101, 7, none⟩ = some (.int .i64 a0_7) := (blk_cell BK101.out 7).trans rfl; have hcz37_8 : w36.cell? ⟨gb101, 8, none⟩ = some (.slice A0_8 l0_8.length c0_8) := (blk_cell BK101.out 8).trans rfl; have hfz37_0 := blk_frozen BK101.out 0; have hfz37_1 := blk_frozen BK101.out 1; have hfz37_2 := blk_frozen BK101.out 2; have hfz37_3 := blk_frozen BK101.out 3; have hfz37_4 := blk_frozen BK101.out 4; have hfz37_5 := blk_frozen BK101.out 5; have hfz37_6 := blk_frozen BK101.out 6; have hfz37_7 := blk_frozen BK101.out 7; have hfz37_8 := blk_frozen BK101.out 8))
                              go_ret
                              exact ⟨by first | rfl | (simp [errW_none, errW_some] <;> rfl) | (simp [*, errW_none, errW_some] <;> rfl), by repeat (first | (with_reducible first | exact HB.out | apply below_alloc | apply pw_below_drewN | apply below_drew1 | refine below_set ?_ GE101.out) | exact HB.out)⟩
                            · rw [if_neg c34] at H
                              have c34b0 : decide (a0_6 < 1) = false := decide_eq_false c34
                              clear c34
                              obtain rfl := Option.some.inj H
                              have hcz38_0 : wc.cell? ⟨gb101, 0, none⟩ = some (.string a0_0) := (blk_cell BK101.out 0).trans rfl
                              have hcz38_1 : wc.cell? ⟨gb101, 1, none⟩ = some (.int .i64 a0_1) := (blk_cell BK101.out 1).trans rfl
                              have hcz38_2 : wc.cell? ⟨gb101, 2, none⟩ = some (.int .i64 a0_2) := (blk_cell BK101.out 2).trans rfl
                              have hcz38_3 : wc.cell? ⟨gb101, 3, none⟩ = some (.int .i64 a0_3) := (blk_cell BK101.out 3).trans rfl
                              have hcz38_4 : wc.cell? ⟨gb101, 4, none⟩ = some (.int .i64 a0_4) := (blk_cell BK101.out 4).trans rfl
                              have hcz38_5 : wc.cell? ⟨gb101, 5, none⟩ = some (.int .i64 a0_5) := (blk_cell BK101.out 5).trans rfl
                              have hcz38_6 : wc.cell? ⟨gb101, 6, none⟩ = some (.int .i64 a0_6) := (blk_cell BK101.out 6).trans rfl
                              have hcz38_7 : wc.cell? ⟨gb101, 7, none⟩ = some (.int .i64 a0_7) := (blk_cell BK101.out 7).trans rfl
                              have hcz38_8 : wc.cell? ⟨gb101, 8, none⟩ = some (.slice A0_8 l0_8.length c0_8) := (blk_cell BK101.out 8).trans rfl
                              have hfz38_0 := blk_frozen BK101.out 0
                              have hfz38_1 := blk_frozen BK101.out 1
                              have hfz38_2 := blk_frozen BK101.out 2
                              have hfz38_3 := blk_frozen BK101.out 3
                              have hfz38_4 := blk_frozen BK101.out 4
                              have hfz38_5 := blk_frozen BK101.out 5
                              have hfz38_6 := blk_frozen BK101.out 6
                              have hfz38_7 := blk_frozen BK101.out 7
                              have hfz38_8 := blk_frozen BK101.out 8
                              go_wp2_with (first | ((with_reducible refine gate_callee (f := 77) rfl ?_); refine goesL_ (some 60) rfl rfl Tryz.func77 (by kernel_rfl) rfl #[.agg #[.int .i64 a0_6, .int .i64 a0_7]] rfl (by (try simp only [List.map_toArray, List.map_cons, List.map_nil]); first | done | rfl | (simp only [List.length_drop, List.length_take]; rfl)) ?_; (with_reducible refine (ZA.dimension_Check.calls kj22 a0_6 a0_7 t104 _ A32.out).mono ?_); rintro e w39 ⟨rfl, hb⟩; refine ⟨_, rfl, ?_⟩; have n0_ := Aside0.mk (blk_below (g := gb101) (o := .cells #[.string a0_0, .int .i64 a0_1, .int .i64 a0_2, .int .i64 a0_3, .int .i64 a0_4, .int .i64 a0_5, .int .i64 a0_6, .int .i64 a0_7, .slice A0_8 l0_8.length c0_8] 28 (0, 0)) (by (with_reducible repeat (first | refine blk_drewN ?_ _ | refine blk_drew ?_ | refine blk_alloc ?_ _)); exact BK101.out) hb); have n1_ := Aside0.mk (below_step (by repeat (first | (with_reducible first | exact HB.out | apply below_alloc | apply pw_below_drewN | apply below_drew1 | refine below_set ?_ GE101.out) | exact HB.out)) hb); clear BK101; clear HB; have BK101 := n0_; have HB := n1_; clear n0_ n1_; (try clear hb); (try clear hb2); (try clear hk); (try clear hi); have hcz40_0 : w39.cell? ⟨gb101, 0, none⟩ = some (.string a0_0) := (blk_cell BK101.out 0).trans rfl; have hcz40_1 : w39.cell? ⟨gb101, 1, none⟩ = some (.int .i64 a0_1) := (blk_cell BK101.out 1).trans rfl; have hcz40_2 : w39.cell? ⟨gb101, 2, none⟩ = some (.int .i64 a0_2) := (blk_cell BK101.out 2).trans rfl; have hcz40_3 : w39.cell? ⟨gb101, 3, none⟩ = some (.int .i64 a0_3) := (blk_cell BK101.out 3).trans rfl; have hcz40_4 : w39.cell? ⟨gb101, 4, none⟩ = some (.int .i64 a0_4) := (blk_cell BK101.out 4).trans rfl; have hcz40_5 : w39.cell? ⟨gb101, 5, none⟩ = some (.int .i64 a0_5) := (blk_cell BK101.out 5).trans rfl; have hcz40_6 : w39.cell? ⟨gb101, 6, none⟩ = some (.int .i64 a0_6) := (blk_cell BK101.out 6).trans rfl; have hcz40_7 : w39.cell? ⟨gb101, 7, none⟩ = some (.int .i64 a0_7) := (blk_cell BK101.out 7).trans rfl; have hcz40_8 : w39.cell? ⟨gb101, 8, none⟩ = some (.slice A0_8 l0_8.length c0_8) := (blk_cell BK101.out 8).trans rfl; have hfz40_0 := blk_frozen BK101.out 0; have hfz40_1 := blk_frozen BK101.out 1; have hfz40_2 := blk_frozen BK101.out 2; have hfz40_3 := blk_frozen BK101.out 3; have hfz40_4 := blk_frozen BK101.out 4; have hfz40_5 := blk_frozen BK101.out 5; have hfz40_6 := blk_frozen BK101.out 6; have hfz40_7 := blk_frozen BK101.out 7; have hfz40_8 := blk_frozen BK101.out 8))
                              go_ret
                              exact ⟨by first | rfl | (simp [errW_none, errW_some] <;> rfl) | (simp [*, errW_none, errW_some] <;> rfl), by repeat (first | (with_reducible first | exact HB.out | apply below_alloc | apply pw_below_drewN | apply below_drew1 | refine below_set ?_ GE101.out) | exact HB.out)⟩
                          · rw [if_neg c33] at H
                            have c33b0 : (t104 == 0) = false := beq_eq_false_iff_ne.mpr c33
                            have c33b1 : (t104 != 0) = true := bne_iff_ne.mpr c33
                            obtain rfl := Option.some.inj H
                            have hcz41_0 : wc.cell? ⟨gb101, 0, none⟩ = some (.string a0_0) := (blk_cell BK101.out 0).trans rfl
                            have hcz41_1 : wc.cell? ⟨gb101, 1, none⟩ = some (.int .i64 a0_1) := (blk_cell BK101.out 1).trans rfl
                            have hcz41_2 : wc.cell? ⟨gb101, 2, none⟩ = some (.int .i64 a0_2) := (blk_cell BK101.out 2).trans rfl
                            have hcz41_3 : wc.cell? ⟨gb101, 3, none⟩ = some (.int .i64 a0_3) := (blk_cell BK101.out 3).trans rfl
                            have hcz41_4 : wc.cell? ⟨gb101, 4, none⟩ = some (.int .i64 a0_4) := (blk_cell BK101.out 4).trans rfl
                            have hcz41_5 : wc.cell? ⟨gb101, 5, none⟩ = some (.int .i64 a0_5) := (blk_cell BK101.out 5).trans rfl
                            have hcz41_6 : wc.cell? ⟨gb101, 6, none⟩ = some (.int .i64 a0_6) := (blk_cell BK101.out 6).trans rfl
                            have hcz41_7 : wc.cell? ⟨gb101, 7, none⟩ = some (.int .i64 a0_7) := (blk_cell BK101.out 7).trans rfl
                            have hcz41_8 : wc.cell? ⟨gb101, 8, none⟩ = some (.slice A0_8 l0_8.length c0_8) := (blk_cell BK101.out 8).trans rfl
                            have hfz41_0 := blk_frozen BK101.out 0
                            have hfz41_1 := blk_frozen BK101.out 1
                            have hfz41_2 := blk_frozen BK101.out 2
                            have hfz41_3 := blk_frozen BK101.out 3
                            have hfz41_4 := blk_frozen BK101.out 4
                            have hfz41_5 := blk_frozen BK101.out 5
                            have hfz41_6 := blk_frozen BK101.out 6
                            have hfz41_7 := blk_frozen BK101.out 7
                            have hfz41_8 := blk_frozen BK101.out 8
                            go_wp2_with (first | ((with_reducible refine gate_callee (f := 77) rfl ?_); refine goesL_ (some 60) rfl rfl Tryz.func77 (by kernel_rfl) rfl #[.agg #[.int .i64 a0_6, .int .i64 a0_7]] rfl (by (try simp only [List.map_toArray, List.map_cons, List.map_nil]); first | done | rfl | (simp only [List.length_drop, List.length_take]; rfl)) ?_; (with_reducible refine (ZA.dimension_Check.calls kj22 a0_6 a0_7 t104 _ A32.out).mono ?_); rintro e w42 ⟨rfl, hb⟩; refine ⟨_, rfl, ?_⟩; have n0_ := Aside0.mk (blk_below (g := gb101) (o := .cells #[.string a0_0, .int .i64 a0_1, .int .i64 a0_2, .int .i64 a0_3, .int .i64 a0_4, .int .i64 a0_5, .int .i64 a0_6, .int .i64 a0_7, .slice A0_8 l0_8.length c0_8] 28 (0, 0)) (by (with_reducible repeat (first | refine blk_drewN ?_ _ | refine blk_drew ?_ | refine blk_alloc ?_ _)); exact BK101.out) hb); have n1_ := Aside0.mk (below_step (by repeat (first | (with_reducible first | exact HB.out | apply below_alloc | apply pw_below_drewN | apply below_drew1 | refine below_set ?_ GE101.out) | exact HB.out)) hb); clear BK101; clear HB; have BK101 := n0_; have HB := n1_; clear n0_ n1_; (try clear hb); (try clear hb2); (try clear hk); (try clear hi)))
                            go_ret
                            exact ⟨by first | rfl | (simp [errW_none, errW_some] <;> rfl) | (simp [*, errW_none, errW_some] <;> rfl), by repeat (first | (with_reducible first | exact HB.out | apply below_alloc | apply pw_below_drewN | apply below_drew1 | refine below_set ?_ GE101.out) | exact HB.out)⟩
                · replace c22 := Bool.eq_false_iff.mpr c22
                  subst c22
                  have H1 : (some 2) = some r := by rw [if_neg (show ¬ (false = true) by decide)] at H; exact H
                  clear H
                  have H := H1
                  clear H1
                  obtain rfl := Option.some.inj H
                  have hcz43_0 : wc.cell? ⟨gb101, 0, none⟩ = some (.string a0_0) := (blk_cell BK101.out 0).trans rfl
                  have hcz43_1 : wc.cell? ⟨gb101, 1, none⟩ = some (.int .i64 a0_1) := (blk_cell BK101.out 1).trans rfl
                  have hcz43_2 : wc.cell? ⟨gb101, 2, none⟩ = some (.int .i64 a0_2) := (blk_cell BK101.out 2).trans rfl
                  have hcz43_3 : wc.cell? ⟨gb101, 3, none⟩ = some (.int .i64 a0_3) := (blk_cell BK101.out 3).trans rfl
                  have hcz43_4 : wc.cell? ⟨gb101, 4, none⟩ = some (.int .i64 a0_4) := (blk_cell BK101.out 4).trans rfl
                  have hcz43_5 : wc.cell? ⟨gb101, 5, none⟩ = some (.int .i64 a0_5) := (blk_cell BK101.out 5).trans rfl
                  have hcz43_6 : wc.cell? ⟨gb101, 6, none⟩ = some (.int .i64 a0_6) := (blk_cell BK101.out 6).trans rfl
                  have hcz43_7 : wc.cell? ⟨gb101, 7, none⟩ = some (.int .i64 a0_7) := (blk_cell BK101.out 7).trans rfl
                  have hcz43_8 : wc.cell? ⟨gb101, 8, none⟩ = some (.slice A0_8 l0_8.length c0_8) := (blk_cell BK101.out 8).trans rfl
                  have hfz43_0 := blk_frozen BK101.out 0
                  have hfz43_1 := blk_frozen BK101.out 1
                  have hfz43_2 := blk_frozen BK101.out 2
                  have hfz43_3 := blk_frozen BK101.out 3
                  have hfz43_4 := blk_frozen BK101.out 4
                  have hfz43_5 := blk_frozen BK101.out 5
                  have hfz43_6 := blk_frozen BK101.out 6
                  have hfz43_7 := blk_frozen BK101.out 7
                  have hfz43_8 := blk_frozen BK101.out 8
                  go_wp2_with (first | ((with_reducible refine gate_callee (f := 76) rfl ?_); refine goesL_ (some 42) rfl rfl Tryz.func76 (by kernel_rfl) rfl #[.agg #[.int .i64 a0_3, .int .i64 a0_4, .int .i64 a0_5]] rfl (by (try simp only [List.map_toArray, List.map_cons, List.map_nil]); first | done | rfl | (simp only [List.length_drop, List.length_take]; rfl)) ?_; (with_reducible refine (ZA.feature_ranged.calls a0_3 a0_4 a0_5 false _ A21.out).mono ?_); rintro e w44 ⟨rfl, hb⟩; refine ⟨_, rfl, ?_⟩; have n0_ := Aside0.mk (blk_below (g := gb101) (o := .cells #[.string a0_0, .int .i64 a0_1, .int .i64 a0_2, .int .i64 a0_3, .int .i64 a0_4, .int .i64 a0_5, .int .i64 a0_6, .int .i64 a0_7, .slice A0_8 l0_8.length c0_8] 28 (0, 0)) (by (with_reducible repeat (first | refine blk_drewN ?_ _ | refine blk_drew ?_ | refine blk_alloc ?_ _)); exact BK101.out) hb); have n1_ := Aside0.mk (below_step (by repeat (first | (with_reducible first | exact HB.out | apply below_alloc | apply pw_below_drewN | apply below_drew1 | refine below_set ?_ GE101.out) | exact HB.out)) hb); clear BK101; clear HB; have BK101 := n0_; have HB := n1_; clear n0_ n1_; (try clear hb); (try clear hb2); (try clear hk); (try clear hi)))
                  go_ret
                  exact ⟨by first | rfl | (simp [errW_none, errW_some] <;> rfl) | (simp [*, errW_none, errW_some] <;> rfl), by repeat (first | (with_reducible first | exact HB.out | apply below_alloc | apply pw_below_drewN | apply below_drew1 | refine below_set ?_ GE101.out) | exact HB.out)⟩
  · rw [if_neg c3] at H
    have c3b0 : (t102 == 0) = false := beq_eq_false_iff_ne.mpr c3
    have c3b1 : (t102 != 0) = true := bne_iff_ne.mpr c3
    obtain rfl := Option.some.inj H
    go_enter Tryz.func39, Tryz.ntmps39
    go_wp2_with (first | ((with_reducible refine gate_dst (N := 1) rfl ?_); refine box_event ?hg (N := 1) ?hd (cs := #[.string a0_0, .int .i64 a0_1, .int .i64 a0_2, .int .i64 a0_3, .int .i64 a0_4, .int .i64 a0_5, .int .i64 a0_6, .int .i64 a0_7, .slice A0_8 l0_8.length c0_8]) (t := 28) ?hr ?_; (case hd => rfl); (case hg => rfl); (case hr => first | (go_simp; done) | (go_simp; rfl)); intro gb101 hg w45 hbox hb; have n0_ := Aside0.mk (below_step (by repeat (first | (with_reducible first | exact HB.out | apply below_alloc | apply pw_below_drewN | apply below_drew1) | exact HB.out)) hb); have n1_ := Aside0.mk (hbox); have n2_ := Aside0.mk ((by rw [hg]; exact (below_size (by repeat (first | (with_reducible first | exact HB.out | apply below_alloc | apply pw_below_drewN | apply below_drew1) | exact HB.out))) : w.heap.size ≤ gb101)); have n3_ := Aside0.mk ((by rw [hg]; exact (below_size (by repeat (first | (with_reducible first | exact HB.out | apply below_alloc | apply pw_below_drewN | apply below_drew1) | exact HB.out))) : w.heap.size ≤ gb101)); clear HB; have HB := n0_; have BK101 := n1_; have GW101 := n2_; have GE101 := n3_; clear n0_ n1_ n2_ n3_; clear hb hbox hg; have hcz46_0 : w45.cell? ⟨gb101, 0, none⟩ = some (.string a0_0) := (blk_cell BK101.out 0).trans rfl; have hcz46_1 : w45.cell? ⟨gb101, 1, none⟩ = some (.int .i64 a0_1) := (blk_cell BK101.out 1).trans rfl; have hcz46_2 : w45.cell? ⟨gb101, 2, none⟩ = some (.int .i64 a0_2) := (blk_cell BK101.out 2).trans rfl; have hcz46_3 : w45.cell? ⟨gb101, 3, none⟩ = some (.int .i64 a0_3) := (blk_cell BK101.out 3).trans rfl; have hcz46_4 : w45.cell? ⟨gb101, 4, none⟩ = some (.int .i64 a0_4) := (blk_cell BK101.out 4).trans rfl; have hcz46_5 : w45.cell? ⟨gb101, 5, none⟩ = some (.int .i64 a0_5) := (blk_cell BK101.out 5).trans rfl; have hcz46_6 : w45.cell? ⟨gb101, 6, none⟩ = some (.int .i64 a0_6) := (blk_cell BK101.out 6).trans rfl; have hcz46_7 : w45.cell? ⟨gb101, 7, none⟩ = some (.int .i64 a0_7) := (blk_cell BK101.out 7).trans rfl; have hcz46_8 : w45.cell? ⟨gb101, 8, none⟩ = some (.slice A0_8 l0_8.length c0_8) := (blk_cell BK101.out 8).trans rfl; have hfz46_0 := blk_frozen BK101.out 0; have hfz46_1 := blk_frozen BK101.out 1; have hfz46_2 := blk_frozen BK101.out 2; have hfz46_3 := blk_frozen BK101.out 3; have hfz46_4 := blk_frozen BK101.out 4; have hfz46_5 := blk_frozen BK101.out 5; have hfz46_6 := blk_frozen BK101.out 6; have hfz46_7 := blk_frozen BK101.out 7; have hfz46_8 := blk_frozen BK101.out 8) | ((with_reducible refine gate_callee (f := 48) rfl ?_); refine goesL_ (some 7) rfl rfl Tryz.func48 (by kernel_rfl) rfl #[.string a0_0] rfl (by (try simp only [List.map_toArray, List.map_cons, List.map_nil]); first | done | rfl | (simp only [List.length_drop, List.length_take]; rfl)) ?_; (with_reducible refine (dimension_Name.calls a0_0 t102 _ A2.out).mono ?_); rintro e w47 ⟨rfl, hb⟩; refine ⟨_, rfl, ?_⟩; have n0_ := Aside0.mk (blk_below (g := gb101) (o := .cells #[.string a0_0, .int .i64 a0_1, .int .i64 a0_2, .int .i64 a0_3, .int .i64 a0_4, .int .i64 a0_5, .int .i64 a0_6, .int .i64 a0_7, .slice A0_8 l0_8.length c0_8] 28 (0, 0)) (by (with_reducible repeat (first | refine blk_drewN ?_ _ | refine blk_drew ?_ | refine blk_alloc ?_ _)); exact BK101.out) hb); have n1_ := Aside0.mk (below_step (by repeat (first | (with_reducible first | exact HB.out | apply below_alloc | apply pw_below_drewN | apply below_drew1 | refine below_set ?_ GE101.out) | exact HB.out)) hb); clear BK101; clear HB; have BK101 := n0_; have HB := n1_; clear n0_ n1_; (try clear hb); (try clear hb2); (try clear hk); (try clear hi)))
    go_ret
    exact ⟨by first | rfl | (simp [errW_none, errW_some] <;> rfl) | (simp [*, errW_none, errW_some] <;> rfl), by repeat (first | (with_reducible first | exact HB.out | apply below_alloc | apply pw_below_drewN | apply below_drew1 | refine below_set ?_ GE101.out) | exact HB.out)⟩
end Go.Proofs.YtkohjcfmcliioaaGreatDoor.ZF
