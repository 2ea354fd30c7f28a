import Derived.Test.YtpkfnclbcmnckaaGreatDoorZP1m
-- written by the session's px.py out of the translation; Lean checks it.
namespace Go.Proofs.YtpkfnclbcmnckaaGreatDoor.ZP
open Go.RowKit Go.Proofs.YtpkfnclbcmnckaaGreatDoorW.PrintWords Go.Proofs.YtpkfnclbcmnckaaGreatDoorW.PrintLast Go.Proofs.YtpkfnclbcmnckaaGreatDoorW.PrintMore
attribute [local go_sem] max2_int min2_int max_two min_two max_three min_three max_four min_four   -- for this text's walks alone
set_option linter.unusedVariables false
set_option linter.unusedSimpArgs false

/-! ### metrolabref01_number: function 95 -/
def metrolabref01_number.l0 : Nat → ByteArray → Int → ByteArray → Int → Option (Int)
  | 0, _, _, _, _ => none
  | k + 1, x0, x3, x4, x5 => if x5 < (x4.size : Int) then (if 0 ≤ x5 then (metrolabref01_number.l0 k x0 (wrap64 ((wrap64 (10 * x3)) + (((bt x4 x5) - 48) % 256))) x4 (wrap64 (x5 + 1))) else (none)) else ((metrolabref01_Below.f x0).bind fun t116 => (if t116 = true then (some (wrap64 (-x3))) else (some x3)))
def metrolabref01_number.f (k : Nat) (a0 : ByteArray) : Option (Int) := (metrolabref01_size.f a0).bind fun t115 => (metrolabref01_number.l0 k a0 0 t115 0)
theorem metrolabref01_number.mono_l : ∀ k, (∀ y0 y1 y2 y3, LeO (metrolabref01_number.l0 k y0 y1 y2 y3) (metrolabref01_number.l0 (k + 1) y0 y1 y2 y3))
  | 0 => fun _ _ _ _ r h => by simp [metrolabref01_number.l0] at h
  | k + 1 => by
    have ih0 := metrolabref01_number.mono_l k
    · intro y0 y1 y2 y3
      unfold metrolabref01_number.l0
      repeat' first
      | (with_reducible exact ih0 _ _ _ _)
      | (with_reducible exact LeO.refl _)
      | (with_reducible exact LeO.none _)
      | (with_reducible refine LeO.ite ?_ ?_)
      | (with_reducible refine LeO.bind ?_ (fun _ => ?_))
      | exact ih0 _ _ _ _
      | exact LeO.none _
      | refine LeO.ite ?_ ?_
      | refine LeO.bind ?_ (fun _ => ?_)
theorem metrolabref01_number.mono : ∀ a0 k, LeO (metrolabref01_number.f k a0) (metrolabref01_number.f (k + 1) a0) := by
  intro a0 k
  have ih0 := metrolabref01_number.mono_l k
  unfold metrolabref01_number.f
  repeat' first
      | (with_reducible exact ih0 _ _ _ _)
      | (with_reducible exact LeO.refl _)
      | (with_reducible exact LeO.none _)
      | (with_reducible refine LeO.ite ?_ ?_)
      | (with_reducible refine LeO.bind ?_ (fun _ => ?_))
      | exact ih0 _ _ _ _
      | exact LeO.none _
      | refine LeO.ite ?_ ?_
      | refine LeO.bind ?_ (fun _ => ?_)
set_option maxHeartbeats 8000000 in
set_option maxRecDepth 100000 in
theorem metrolabref01_number.calls (k : Nat) (a0 : ByteArray) (r : Int) (w : World) (h : metrolabref01_number.f k a0 = some r) :
    Calls Tryz.prog 95 #[.string a0] w fun e w' => e = .returned (.int .i64 r) ∧ Drawn0 w w' := by
  have H : ((metrolabref01_size.f a0).bind fun t115 => (metrolabref01_number.l0 k a0 0 t115 0)) = some r := h
  clear h
  replace H := Option.bind_eq_some_iff.mp H
  obtain ⟨t115, A20, H⟩ := H
  replace H : (metrolabref01_number.l0 k a0 0 t115 0) = some r := H
  have A2 := Aside0.mk A20
  clear A20
  have H' := Aside0.mk H
  clear H
  go_enter Tryz.func95, Tryz.ntmps95
  go_wp2_with (first | ((with_reducible refine gate_callee (f := 58) rfl ?_); refine goesL_ (some 7) rfl rfl Tryz.func58 (by kernel_rfl) rfl #[.string a0] rfl (by (try simp only [List.map_toArray, List.map_cons, List.map_nil]); first | done | rfl | (simp only [List.length_drop, List.length_take]; rfl)) ?_; (with_reducible refine (metrolabref01_size.calls a0 t115 _ A2.out).mono ?_); rintro e w' ⟨rfl, ⟨nd, rfl⟩⟩; refine ⟨_, rfl, ?_⟩))
  go_loopg [3, 5] k (fun kq v3 v5 w' => ∃ (x3_1 : Int) (x5_1 : Int), v3 = .int .i64 x3_1 ∧ v5 = .int .i64 x5_1 ∧ Aside0 (metrolabref01_number.l0 kq a0 x3_1 t115 x5_1 = some r) ∧ Aside0 (kq ≤ k) ∧ Drawn0 w w')
  case atStart => exact ⟨(0), (0), (by first | rfl | exact congrArg Value.bool (not_empty _) | exact congrArg Value.bool (is_empty _) | (simp; done) | (simp [*]; done)), (by first | rfl | exact congrArg Value.bool (not_empty _) | exact congrArg Value.bool (is_empty _) | (simp; done) | (simp [*]; done)), H', ⟨Nat.le_refl _⟩, by repeat (first | exact Drawn0.refl _ | apply Drawn0.step)⟩
  case round =>
    clear H'
    try clear p2
    obtain ⟨x3_1, x5_1, rfl, rfl, HA, HK1, ⟨m1, rfl⟩⟩ := hrel
    cases gk with
    | zero => exact absurd HA.out (by simp [metrolabref01_number.l0])
    | succ k1 =>
      have H := HA.out
      clear HA
      simp only [metrolabref01_number.l0] at H
      by_cases c3 : x5_1 < (t115.size : Int)
      · rw [if_pos c3] at H
        have c3b0 : decide (x5_1 < (t115.size : Int)) = true := decide_eq_true c3
        clear c3
        by_cases c4 : 0 ≤ x5_1
        · rw [if_pos c4] at H
          have c4b0 : decide (0 ≤ x5_1) = true := decide_eq_true c4
          clear c4
          have H' := Aside0.mk H
          clear H
          have p5 : 0 ≤ (x5_1 : Int) := of_decide_eq_true (by first | (with_reducible assumption) | assumption)
          have q5 : x5_1 < (t115.size : Int) := of_decide_eq_true (by first | (with_reducible assumption) | assumption)
          have hx5 := bt_at t115 x5_1
          replace p5 := eq_true p5
          replace q5 := eq_true q5
          go_wp2
          go_roundg k1
          case measure => have := HK1.out; omega
          case rel => exact ⟨(wrap64 ((wrap64 (10 * x3_1)) + (((bt t115 x5_1) - 48) % 256))), (wrap64 (x5_1 + 1)), (by first | rfl | exact congrArg Value.bool (not_empty _) | exact congrArg Value.bool (is_empty _) | (simp; done) | (simp [*]; done)), (by first | rfl | exact congrArg Value.bool (not_empty _) | exact congrArg Value.bool (is_empty _) | (simp; done) | (simp [*]; done)), H', ⟨by have := HK1.out; omega⟩, by repeat (first | exact Drawn0.refl _ | apply Drawn0.step)⟩
        · rw [if_neg c4] at H
          exact absurd H (by simp)
      · rw [if_neg c3] at H
        have c3b0 : decide (x5_1 < (t115.size : Int)) = false := decide_eq_false c3
        clear c3
        replace H := Option.bind_eq_some_iff.mp H
        obtain ⟨t116, A60, H⟩ := H
        replace H : (if t116 = true then (some (wrap64 (-x3_1))) else (some x3_1)) = some r := H
        have A6 := Aside0.mk A60
        clear A60
        by_cases c7 : t116 = true
        · subst c7
          have H1 : (some (wrap64 (-x3_1))) = some r := by rw [if_pos rfl] at H; exact H
          clear H
          have H := H1
          clear H1
          obtain rfl := Option.some.inj H
          go_wp2_with (first | ((with_reducible refine gate_callee (f := 59) rfl ?_); refine goesL_ (some 23) rfl rfl Tryz.func59 (by kernel_rfl) rfl #[.string a0] rfl (by (try simp only [List.map_toArray, List.map_cons, List.map_nil]); first | done | rfl | (simp only [List.length_drop, List.length_take]; rfl)) ?_; (with_reducible refine (metrolabref01_Below.calls a0 true _ A6.out).mono ?_); rintro e w' ⟨rfl, ⟨nd, rfl⟩⟩; refine ⟨_, rfl, ?_⟩))
          go_ret
          exact ⟨by first | rfl | (simp; done) | (simp [*]; done), by repeat (first | exact Drawn0.refl _ | apply Drawn0.step)⟩
        · replace c7 := Bool.eq_false_iff.mpr c7
          subst c7
          have H1 : (some x3_1) = some r := by rw [if_neg (show ¬ (false = true) by decide)] at H; exact H
          clear H
          have H := H1
          clear H1
          obtain rfl := Option.some.inj H
          go_wp2_with (first | ((with_reducible refine gate_callee (f := 59) rfl ?_); refine goesL_ (some 23) rfl rfl Tryz.func59 (by kernel_rfl) rfl #[.string a0] rfl (by (try simp only [List.map_toArray, List.map_cons, List.map_nil]); first | done | rfl | (simp only [List.length_drop, List.length_take]; rfl)) ?_; (with_reducible refine (metrolabref01_Below.calls a0 false _ A6.out).mono ?_); rintro e w' ⟨rfl, ⟨nd, rfl⟩⟩; refine ⟨_, rfl, ?_⟩))
          go_ret
          exact ⟨by first | rfl | (simp; done) | (simp [*]; done), by repeat (first | exact Drawn0.refl _ | apply Drawn0.step)⟩

/-! ### metrolabref01_brief: function 71 -/
def metrolabref01_brief.j0 : Nat → ByteArray → ByteArray → Bool → Option (Int × Int × Bool)
  | 0, _, _, _ => none
  | k + 1, x0, x1, x16 => if x16 = true then (some (0, 0, false)) else ((metrolabref01_number.f k x0).bind fun t119 => ((metrolabref01_number.f k x1).bind fun t120 => (some (t119, t120, true))))
def metrolabref01_brief.f (k : Nat) (a0 : ByteArray) (a1 : ByteArray) : Option (Int × Int × Bool) := (metrolabref01_size.f a0).bind fun t117 => (if (t117.size : Int) > 18 then (metrolabref01_brief.j0 k a0 a1 true) else ((metrolabref01_size.f a1).bind fun t118 => (metrolabref01_brief.j0 k a0 a1 (decide ((t118.size : Int) > 18)))))
theorem metrolabref01_brief.mono_l : ∀ k, (∀ y0 y1 y2, LeO (metrolabref01_brief.j0 k y0 y1 y2) (metrolabref01_brief.j0 (k + 1) y0 y1 y2))
  | 0 => fun _ _ _ r h => by simp [metrolabref01_brief.j0] at h
  | k + 1 => by
    have ih0 := metrolabref01_brief.mono_l k
    · intro y0 y1 y2
      unfold metrolabref01_brief.j0
      repeat' first
      | (with_reducible exact ih0 _ _ _)
      | (with_reducible exact metrolabref01_number.mono _ _)
      | (with_reducible exact LeO.refl _)
      | (with_reducible exact LeO.none _)
      | (with_reducible refine LeO.ite ?_ ?_)
      | (with_reducible refine LeO.bind ?_ (fun _ => ?_))
      | exact ih0 _ _ _
      | exact metrolabref01_number.mono _ _
      | exact LeO.none _
      | refine LeO.ite ?_ ?_
      | refine LeO.bind ?_ (fun _ => ?_)
theorem metrolabref01_brief.mono : ∀ a0 a1 k, LeO (metrolabref01_brief.f k a0 a1) (metrolabref01_brief.f (k + 1) a0 a1) := by
  intro a0 a1 k
  have ih0 := metrolabref01_brief.mono_l k
  unfold metrolabref01_brief.f
  repeat' first
      | (with_reducible exact ih0 _ _ _)
      | (with_reducible exact metrolabref01_number.mono _ _)
      | (with_reducible exact LeO.refl _)
      | (with_reducible exact LeO.none _)
      | (with_reducible refine LeO.ite ?_ ?_)
      | (with_reducible refine LeO.bind ?_ (fun _ => ?_))
      | exact ih0 _ _ _
      | exact metrolabref01_number.mono _ _
      | exact LeO.none _
      | refine LeO.ite ?_ ?_
      | refine LeO.bind ?_ (fun _ => ?_)
set_option maxHeartbeats 8000000 in
set_option maxRecDepth 100000 in
theorem metrolabref01_brief.calls (k : Nat) (a0 : ByteArray) (a1 : ByteArray) (r1 : Int) (r2 : Int) (r3 : Bool) (w : World) (h : metrolabref01_brief.f k a0 a1 = some (r1, r2, r3)) :
    Calls Tryz.prog 71 #[.string a0, .string a1] w fun e w' => e = .returned (.tuple #[.int .i64 r1, .int .i64 r2, .bool r3]) ∧ Drawn0 w w' := by
  have H : ((metrolabref01_size.f a0).bind fun t117 => (if (t117.size : Int) > 18 then (metrolabref01_brief.j0 k a0 a1 true) else ((metrolabref01_size.f a1).bind fun t118 => (metrolabref01_brief.j0 k a0 a1 (decide ((t118.size : Int) > 18)))))) = some (r1, r2, r3) := h
  clear h
  have HC3 := Aside0.mk H
  clear H
  go_enter Tryz.func71, Tryz.ntmps71
  go_upto_region 1 with (fail)
  go_cut [16] (fun v16 wc => ∃ (kq : Nat) (x16_2 : Bool), v16 = .bool x16_2 ∧ Aside0 (metrolabref01_brief.j0 kq a0 a1 x16_2 = some (r1, r2, r3)) ∧ Aside0 (kq ≤ k) ∧ Drawn0 w wc)
  case first =>
    have H := HC3.out
    clear HC3
    replace H := Option.bind_eq_some_iff.mp H
    obtain ⟨t117, A40, H⟩ := H
    replace H : (if (t117.size : Int) > 18 then (metrolabref01_brief.j0 k a0 a1 true) else ((metrolabref01_size.f a1).bind fun t118 => (metrolabref01_brief.j0 k a0 a1 (decide ((t118.size : Int) > 18))))) = some (r1, r2, r3) := H
    have A4 := Aside0.mk A40
    clear A40
    by_cases c5 : (t117.size : Int) > 18
    · rw [if_pos c5] at H
      have c5b0 : decide (18 < (t117.size : Int)) = true := decide_eq_true c5
      have c5b1 : decide (18 < t117.size) = true := decide_eq_true (by omega)
      clear c5
      (first | rw [c5b0] | (simp only [i64_w, i32_w]; rw [c5b0]) | skip)
      have H' := Aside0.mk H
      clear H
      go_wp2_with (first | ((with_reducible refine gate_callee (f := 58) rfl ?_); refine goesL_ (some 8) rfl rfl Tryz.func58 (by kernel_rfl) rfl #[.string a0] rfl (by (try simp only [List.map_toArray, List.map_cons, List.map_nil]); first | done | rfl | (simp only [List.length_drop, List.length_take]; rfl)) ?_; (with_reducible refine (metrolabref01_size.calls a0 t117 _ A4.out).mono ?_); rintro e w' ⟨rfl, ⟨nd, rfl⟩⟩; refine ⟨_, rfl, ?_⟩))
      go_meet
      case rel => exact ⟨_, (true), (by first | rfl | exact congrArg Value.bool (not_empty _) | exact congrArg Value.bool (is_empty _) | (simp; done) | (simp [*]; done)), H', ⟨by first | omega | exact Nat.le_refl _⟩, by repeat (first | exact Drawn0.refl _ | apply Drawn0.step)⟩
    · rw [if_neg c5] at H
      have c5b0 : decide (18 < (t117.size : Int)) = false := decide_eq_false c5
      have c5b1 : decide (18 < t117.size) = false := decide_eq_false (by omega)
      clear c5
      (first | rw [c5b0] | (simp only [i64_w, i32_w]; rw [c5b0]) | skip)
      replace H := Option.bind_eq_some_iff.mp H
      obtain ⟨t118, A60, H⟩ := H
      replace H : (metrolabref01_brief.j0 k a0 a1 (decide ((t118.size : Int) > 18))) = some (r1, r2, r3) := H
      have A6 := Aside0.mk A60
      clear A60
      have H' := Aside0.mk H
      clear H
      go_wp2_with (first | ((with_reducible refine gate_callee (f := 58) rfl ?_); refine goesL_ (some 8) rfl rfl Tryz.func58 (by kernel_rfl) rfl #[.string a0] rfl (by (try simp only [List.map_toArray, List.map_cons, List.map_nil]); first | done | rfl | (simp only [List.length_drop, List.length_take]; rfl)) ?_; (with_reducible refine (metrolabref01_size.calls a0 t117 _ A4.out).mono ?_); rintro e w' ⟨rfl, ⟨nd, rfl⟩⟩; refine ⟨_, rfl, ?_⟩) | (go_at_call 58; (with_reducible refine (metrolabref01_size.calls a1 t118 _ A6.out).mono ?_); rintro e w' ⟨rfl, ⟨nd, rfl⟩⟩))
      go_meet
      case rel => exact ⟨_, (decide ((t118.size : Int) > 18)), (by first | rfl | exact congrArg Value.bool (not_empty _) | exact congrArg Value.bool (is_empty _) | (simp; done) | (simp [*]; done)), H', ⟨by first | omega | exact Nat.le_refl _⟩, by repeat (first | exact Drawn0.refl _ | apply Drawn0.step)⟩
  case rest =>
    clear HC3
    try clear p2
    try clear c5
    try clear c5b0
    try clear c5b1
    obtain ⟨kq, x16_2, rfl, HA, HJ2, ⟨mc2, rfl⟩⟩ := hcut
    cases kq with
    | zero => exact absurd HA.out (by simp [metrolabref01_brief.j0])
    | succ kj2 =>
      have H := HA.out
      clear HA
      simp only [metrolabref01_brief.j0] at H
      by_cases c7 : x16_2 = true
      · subst c7
        have H1 : (some (0, 0, false)) = some (r1, r2, r3) := by rw [if_pos rfl] at H; exact H
        clear H
        have H := H1
        clear H1
        simp only [Option.some.injEq, Prod.mk.injEq] at H
        obtain ⟨rfl, rfl, rfl⟩ := H
        go_wp2
        go_ret3
        exact ⟨by first | rfl | (simp; done) | (simp [*]; done), by repeat (first | exact Drawn0.refl _ | apply Drawn0.step)⟩
      · replace c7 := Bool.eq_false_iff.mpr c7
        subst c7
        have H1 : ((metrolabref01_number.f kj2 a0).bind fun t119 => ((metrolabref01_number.f kj2 a1).bind fun t120 => (some (t119, t120, true)))) = some (r1, r2, r3) := by rw [if_neg (show ¬ (false = true) by decide)] at H; exact H
        clear H
        have H := H1
        clear H1
        replace H := Option.bind_eq_some_iff.mp H
        obtain ⟨t119, A80, H⟩ := H
        replace H : ((metrolabref01_number.f kj2 a1).bind fun t120 => (some (t119, t120, true))) = some (r1, r2, r3) := H
        have A8 := Aside0.mk A80
        clear A80
        replace H := Option.bind_eq_some_iff.mp H
        obtain ⟨t120, A90, H⟩ := H
        replace H : (some (t119, t120, true)) = some (r1, r2, r3) := H
        have A9 := Aside0.mk A90
        clear A90
        simp only [Option.some.injEq, Prod.mk.injEq] at H
        obtain ⟨rfl, rfl, rfl⟩ := H
        go_wp2_with (first | ((with_reducible refine gate_callee (f := 95) rfl ?_); refine goesL_ (some 18) rfl rfl Tryz.func95 (by kernel_rfl) rfl #[.string a0] rfl (by (try simp only [List.map_toArray, List.map_cons, List.map_nil]); first | done | rfl | (simp only [List.length_drop, List.length_take]; rfl)) ?_; (with_reducible refine (metrolabref01_number.calls kj2 a0 t119 _ A8.out).mono ?_); rintro e w' ⟨rfl, ⟨nd, rfl⟩⟩; refine ⟨_, rfl, ?_⟩) | ((with_reducible refine gate_callee (f := 95) rfl ?_); refine goesL_ (some 20) rfl rfl Tryz.func95 (by kernel_rfl) rfl #[.string a1] rfl (by (try simp only [List.map_toArray, List.map_cons, List.map_nil]); first | done | rfl | (simp only [List.length_drop, List.length_take]; rfl)) ?_; (with_reducible refine (metrolabref01_number.calls kj2 a1 t120 _ A9.out).mono ?_); rintro e w' ⟨rfl, ⟨nd, rfl⟩⟩; refine ⟨_, rfl, ?_⟩))
        go_ret3
        exact ⟨by first | rfl | (simp; done) | (simp [*]; done), by repeat (first | exact Drawn0.refl _ | apply Drawn0.step)⟩

/-! ### metrolabref01_bare: function 96 -/
def metrolabref01_bare.l0 : Nat → ByteArray → Option (ByteArray)
  | 0, _ => none
  | k + 1, x0 => if (x0.size : Int) > 1 then (if 0 < (x0.size : Int) then (if (bt x0 0) = 48 then (if 1 ≤ (x0.size : Int) then (metrolabref01_bare.l0 k (x0.extract 1 x0.size)) else (none)) else (some x0)) else (none)) else (some x0)
def metrolabref01_bare.f (k : Nat) (a0 : ByteArray) : Option (ByteArray) := metrolabref01_bare.l0 k a0
theorem metrolabref01_bare.mono_l : ∀ k, (∀ y0, LeO (metrolabref01_bare.l0 k y0) (metrolabref01_bare.l0 (k + 1) y0))
  | 0 => fun _ r h => by simp [metrolabref01_bare.l0] at h
  | k + 1 => by
    have ih0 := metrolabref01_bare.mono_l k
    · intro y0
      unfold metrolabref01_bare.l0
      repeat' first
      | (with_reducible exact ih0 _)
      | (with_reducible exact LeO.refl _)
      | (with_reducible exact LeO.none _)
      | (with_reducible refine LeO.ite ?_ ?_)
      | (with_reducible refine LeO.bind ?_ (fun _ => ?_))
      | exact ih0 _
      | exact LeO.none _
      | refine LeO.ite ?_ ?_
      | refine LeO.bind ?_ (fun _ => ?_)
theorem metrolabref01_bare.mono : ∀ a0 k, LeO (metrolabref01_bare.f k a0) (metrolabref01_bare.f (k + 1) a0) := by
  intro a0 k
  have ih0 := metrolabref01_bare.mono_l k
  unfold metrolabref01_bare.f
  repeat' first
      | (with_reducible exact ih0 _)
      | (with_reducible exact LeO.refl _)
      | (with_reducible exact LeO.none _)
      | (with_reducible refine LeO.ite ?_ ?_)
      | (with_reducible refine LeO.bind ?_ (fun _ => ?_))
      | exact ih0 _
      | exact LeO.none _
      | refine LeO.ite ?_ ?_
      | refine LeO.bind ?_ (fun _ => ?_)
set_option maxHeartbeats 8000000 in
set_option maxRecDepth 100000 in
theorem metrolabref01_bare.calls (k : Nat) (a0 : ByteArray) (r : ByteArray) (w : World) (h : metrolabref01_bare.f k a0 = some r) :
    Calls Tryz.prog 96 #[.string a0] w fun e w' => e = .returned (.string r) ∧ Drawn0 w w' := by
  have H : (metrolabref01_bare.l0 k a0) = some r := h
  clear h
  have H' := Aside0.mk H
  clear H
  go_enter Tryz.func96, Tryz.ntmps96
  go_wp2
  go_loopg [0] k (fun kq v0 w' => ∃ (x0_1 : ByteArray), v0 = .string x0_1 ∧ Aside0 (metrolabref01_bare.l0 kq x0_1 = some r) ∧ Aside0 (kq ≤ k) ∧ Drawn0 w w')
  case atStart => exact ⟨(a0), (by first | rfl | exact congrArg Value.bool (not_empty _) | exact congrArg Value.bool (is_empty _) | (simp; done) | (simp [*]; done)), H', ⟨Nat.le_refl _⟩, by repeat (first | exact Drawn0.refl _ | apply Drawn0.step)⟩
  case round =>
    clear H'
    obtain ⟨x0_1, rfl, HA, HK1, ⟨m1, rfl⟩⟩ := hrel
    cases gk with
    | zero => exact absurd HA.out (by simp [metrolabref01_bare.l0])
    | succ k1 =>
      have H := HA.out
      clear HA
      simp only [metrolabref01_bare.l0] at H
      by_cases c2 : (x0_1.size : Int) > 1
      · rw [if_pos c2] at H
        have c2b0 : decide (1 < (x0_1.size : Int)) = true := decide_eq_true c2
        have c2b1 : decide (1 < x0_1.size) = true := decide_eq_true (by omega)
        clear c2
        by_cases c3 : 0 < (x0_1.size : Int)
        · rw [if_pos c3] at H
          have c3b0 : decide (0 < (x0_1.size : Int)) = true := decide_eq_true c3
          have c3b1 : decide (0 < x0_1.size) = true := decide_eq_true (by omega)
          clear c3
          by_cases c5 : (bt x0_1 0) = 48
          · rw [if_pos c5] at H
            have c5b0 : ((bt x0_1 0) == 48) = true := beq_iff_eq.mpr c5
            have c5b1 : ((bt x0_1 0) != 48) = false := bne_eq_false_iff_eq.mpr c5
            clear c5
            by_cases c6 : 1 ≤ (x0_1.size : Int)
            · rw [if_pos c6] at H
              have c6b0 := eq_true c6
              have c6b1 : decide (1 ≤ (x0_1.size : Int)) = true := decide_eq_true c6
              clear c6
              have H' := Aside0.mk H
              clear H
              have p4 : 0 ≤ (0 : Int) := (by omega)
              have q4 : 0 < x0_1.size := (by have : (0 : Int) < (x0_1.size : Int) := of_decide_eq_true (by first | (with_reducible assumption) | assumption); omega)
              have hx4 : ∀ h : 0 < x0_1.size, ((x0_1[0]'h).toNat : Int) = bt x0_1 0 := bt_at x0_1 0
              clear p4
              have qi4 : (0 < (x0_1.size : Int)) = True := eq_true (of_decide_eq_true (by first | (with_reducible assumption) | assumption))
              replace q4 := eq_true q4
              go_wp2
              go_roundg k1
              case measure => have := HK1.out; omega
              case rel => exact ⟨(x0_1.extract 1 x0_1.size), (by first | rfl | exact congrArg Value.bool (not_empty _) | exact congrArg Value.bool (is_empty _) | (simp; done) | (simp [*]; done)), H', ⟨by have := HK1.out; omega⟩, by repeat (first | exact Drawn0.refl _ | apply Drawn0.step)⟩
            · rw [if_neg c6] at H
              exact absurd H (by simp)
          · rw [if_neg c5] at H
            have c5b0 : ((bt x0_1 0) == 48) = false := beq_eq_false_iff_ne.mpr c5
            have c5b1 : ((bt x0_1 0) != 48) = true := bne_iff_ne.mpr c5
            obtain rfl := Option.some.inj H
            have p4 : 0 ≤ (0 : Int) := (by omega)
            have q4 : 0 < x0_1.size := (by have : (0 : Int) < (x0_1.size : Int) := of_decide_eq_true (by first | (with_reducible assumption) | assumption); omega)
            have hx4 : ∀ h : 0 < x0_1.size, ((x0_1[0]'h).toNat : Int) = bt x0_1 0 := bt_at x0_1 0
            clear p4
            have qi4 : (0 < (x0_1.size : Int)) = True := eq_true (of_decide_eq_true (by first | (with_reducible assumption) | assumption))
            replace q4 := eq_true q4
            go_wp2
            go_ret
            exact ⟨by first | rfl | (simp; done) | (simp [*]; done), by repeat (first | exact Drawn0.refl _ | apply Drawn0.step)⟩
        · rw [if_neg c3] at H
          exact absurd H (by simp)
      · rw [if_neg c2] at H
        have c2b0 : decide (1 < (x0_1.size : Int)) = false := decide_eq_false c2
        have c2b1 : decide (1 < x0_1.size) = false := decide_eq_false (by omega)
        clear c2
        obtain rfl := Option.some.inj H
        go_wp2
        go_ret
        exact ⟨by first | rfl | (simp; done) | (simp [*]; done), by repeat (first | exact Drawn0.refl _ | apply Drawn0.step)⟩

/-! ### metrolabref01_column: function 111 -/
def metrolabref01_column.j0 : Nat → Int → Option (Int × Int)
  | 0, _ => none
  | k + 1, x10 => if x10 > 9 then (some ((wrap64 ((wrap64 (48 + x10)) - 10)) % 256, 1)) else (if x10 < 0 then (some ((wrap64 ((wrap64 (48 + x10)) + 10)) % 256, 1)) else (some ((wrap64 (48 + x10)) % 256, 0)))
def metrolabref01_column.f (k : Nat) (a0 : Int) (a1 : Int) (a2 : Int) (a3 : Bool) : Option (Int × Int) := if a3 = true then (metrolabref01_column.j0 k (wrap64 ((((a0 - 48) % 256) + ((a1 - 48) % 256)) + a2))) else (metrolabref01_column.j0 k (wrap64 ((((a0 - 48) % 256) - ((a1 - 48) % 256)) - a2)))
theorem metrolabref01_column.mono_l : ∀ k, (∀ y0, LeO (metrolabref01_column.j0 k y0) (metrolabref01_column.j0 (k + 1) y0))
  | 0 => fun _ r h => by simp [metrolabref01_column.j0] at h
  | k + 1 => by
    have ih0 := metrolabref01_column.mono_l k
    · intro y0
      unfold metrolabref01_column.j0
      repeat' first
      | (with_reducible exact ih0 _)
      | (with_reducible exact LeO.refl _)
      | (with_reducible exact LeO.none _)
      | (with_reducible refine LeO.ite ?_ ?_)
      | (with_reducible refine LeO.bind ?_ (fun _ => ?_))
      | exact ih0 _
      | exact LeO.none _
      | refine LeO.ite ?_ ?_
      | refine LeO.bind ?_ (fun _ => ?_)
theorem metrolabref01_column.mono : ∀ a0 a1 a2 a3 k, LeO (metrolabref01_column.f k a0 a1 a2 a3) (metrolabref01_column.f (k + 1) a0 a1 a2 a3) := by
  intro a0 a1 a2 a3 k
  have ih0 := metrolabref01_column.mono_l k
  unfold metrolabref01_column.f
  repeat' first
      | (with_reducible exact ih0 _)
      | (with_reducible exact LeO.refl _)
      | (with_reducible exact LeO.none _)
      | (with_reducible refine LeO.ite ?_ ?_)
      | (with_reducible refine LeO.bind ?_ (fun _ => ?_))
      | exact ih0 _
      | exact LeO.none _
      | refine LeO.ite ?_ ?_
      | refine LeO.bind ?_ (fun _ => ?_)
set_option maxHeartbeats 8000000 in
set_option maxRecDepth 100000 in
theorem metrolabref01_column.calls (k : Nat) (a0 : Int) (a1 : Int) (a2 : Int) (a3 : Bool) (r1 : Int) (r2 : Int) (w : World) (h : metrolabref01_column.f k a0 a1 a2 a3 = some (r1, r2)) :
    Calls Tryz.prog 111 #[.int .u8 a0, .int .u8 a1, .int .i64 a2, .bool a3] w fun e w' => e = .returned (.tuple #[.int .u8 r1, .int .i64 r2]) ∧ Drawn0 w w' := by
  have H : (if a3 = true then (metrolabref01_column.j0 k (wrap64 ((((a0 - 48) % 256) + ((a1 - 48) % 256)) + a2))) else (metrolabref01_column.j0 k (wrap64 ((((a0 - 48) % 256) - ((a1 - 48) % 256)) - a2)))) = some (r1, r2) := h
  clear h
  have HC5 := Aside0.mk H
  clear H
  go_enter Tryz.func111, Tryz.ntmps111
  go_upto_if 20 with (fail)
  go_cut [10] (fun v10 wc => ∃ (kq : Nat) (x10_4 : Int), v10 = .int .i64 x10_4 ∧ Aside0 (metrolabref01_column.j0 kq x10_4 = some (r1, r2)) ∧ Aside0 (kq ≤ k) ∧ Drawn0 w wc)
  case first =>
    have H := HC5.out
    clear HC5
    by_cases c6 : a3 = true
    · subst c6
      have H1 : (metrolabref01_column.j0 k (wrap64 ((((a0 - 48) % 256) + ((a1 - 48) % 256)) + a2))) = some (r1, r2) := by rw [if_pos rfl] at H; exact H
      clear H
      have H := H1
      clear H1
      have H' := Aside0.mk H
      clear H
      go_wp2
      go_meet
      case rel => exact ⟨_, (wrap64 ((((a0 - 48) % 256) + ((a1 - 48) % 256)) + a2)), (by first | rfl | exact congrArg Value.bool (not_empty _) | exact congrArg Value.bool (is_empty _) | (simp; done) | (simp [*]; done)), H', ⟨by first | omega | exact Nat.le_refl _⟩, by repeat (first | exact Drawn0.refl _ | apply Drawn0.step)⟩
    · replace c6 := Bool.eq_false_iff.mpr c6
      subst c6
      have H1 : (metrolabref01_column.j0 k (wrap64 ((((a0 - 48) % 256) - ((a1 - 48) % 256)) - a2))) = some (r1, r2) := by rw [if_neg (show ¬ (false = true) by decide)] at H; exact H
      clear H
      have H := H1
      clear H1
      have H' := Aside0.mk H
      clear H
      go_wp2
      go_meet
      case rel => exact ⟨_, (wrap64 ((((a0 - 48) % 256) - ((a1 - 48) % 256)) - a2)), (by first | rfl | exact congrArg Value.bool (not_empty _) | exact congrArg Value.bool (is_empty _) | (simp; done) | (simp [*]; done)), H', ⟨by first | omega | exact Nat.le_refl _⟩, by repeat (first | exact Drawn0.refl _ | apply Drawn0.step)⟩
  case rest =>
    clear HC5
    try clear c1
    try clear p2
    try clear c6
    try clear p6
    obtain ⟨kq, x10_4, rfl, HA, HJ4, ⟨mc4, rfl⟩⟩ := hcut
    cases kq with
    | zero => exact absurd HA.out (by simp [metrolabref01_column.j0])
    | succ kj4 =>
      have H := HA.out
      clear HA
      simp only [metrolabref01_column.j0] at H
      by_cases c7 : x10_4 > 9
      · rw [if_pos c7] at H
        have c7b0 : decide (9 < x10_4) = true := decide_eq_true c7
        clear c7
        simp only [Option.some.injEq, Prod.mk.injEq] at H
        obtain ⟨rfl, rfl⟩ := H
        go_wp2
        go_ret2
        exact ⟨by first | rfl | (simp; done) | (simp [*]; done), by repeat (first | exact Drawn0.refl _ | apply Drawn0.step)⟩
      · rw [if_neg c7] at H
        have c7b0 : decide (9 < x10_4) = false := decide_eq_false c7
        clear c7
        by_cases c8 : x10_4 < 0
        · rw [if_pos c8] at H
          have c8b0 : decide (x10_4 < 0) = true := decide_eq_true c8
          clear c8
          simp only [Option.some.injEq, Prod.mk.injEq] at H
          obtain ⟨rfl, rfl⟩ := H
          go_wp2
          go_ret2
          exact ⟨by first | rfl | (simp; done) | (simp [*]; done), by repeat (first | exact Drawn0.refl _ | apply Drawn0.step)⟩
        · rw [if_neg c8] at H
          have c8b0 : decide (x10_4 < 0) = false := decide_eq_false c8
          clear c8
          simp only [Option.some.injEq, Prod.mk.injEq] at H
          obtain ⟨rfl, rfl⟩ := H
          go_wp2
          go_ret2
          exact ⟨by first | rfl | (simp; done) | (simp [*]; done), by repeat (first | exact Drawn0.refl _ | apply Drawn0.step)⟩

/-! ### metrolabref01_paper: function 92 -/
def metrolabref01_paper.l0 : Nat → ByteArray → ByteArray → Bool → List Int → Int → Int → Option (ByteArray)
  | 0, _, _, _, _, _, _ => none
  | k + 1, x0, x1, x2, x8, x9, x10 => if x10 ≥ 0 then (if 0 ≤ x10 then (if x10 < (x0.size : Int) then (if x10 < (x1.size : Int) then ((metrolabref01_column.f k (bt x0 x10) (bt x1 x10) x9 x2).bind fun bt126 => (if x10 < (x8.length : Int) then (metrolabref01_paper.l0 k x0 x1 x2 (x8.set (x10 : Int).toNat bt126.1) bt126.2 (wrap64 (x10 - 1))) else (none))) else (none)) else (none)) else (none)) else ((metrolabref01_bare.f k (strOfNums x8)).bind fun t129 => (some t129))
def metrolabref01_paper.f (k : Nat) (a0 : ByteArray) (a1 : ByteArray) (a2 : Bool) : Option (ByteArray) := (metrolabref01_wide.f a0 (wrap64 ((mx (a0.size : Int) (a1.size : Int)) + 1))).bind fun t121 => ((metrolabref01_wide.f a1 (wrap64 ((mx (a0.size : Int) (a1.size : Int)) + 1))).bind fun t122 => (if 0 ≤ (wrap64 ((mx (a0.size : Int) (a1.size : Int)) + 1)) then (if (wrap64 ((mx (a0.size : Int) (a1.size : Int)) + 1) : Int).toNat ≤ 281474976710656 then (metrolabref01_paper.l0 k t121 t122 a2 (List.replicate (wrap64 ((mx (a0.size : Int) (a1.size : Int)) + 1) : Int).toNat 0) 0 (wrap64 ((wrap64 ((mx (a0.size : Int) (a1.size : Int)) + 1)) - 1))) else (none)) else (none)))
theorem metrolabref01_paper.mono_l : ∀ k, (∀ y0 y1 y2 y3 y4 y5, LeO (metrolabref01_paper.l0 k y0 y1 y2 y3 y4 y5) (metrolabref01_paper.l0 (k + 1) y0 y1 y2 y3 y4 y5))
  | 0 => fun _ _ _ _ _ _ r h => by simp [metrolabref01_paper.l0] at h
  | k + 1 => by
    have ih0 := metrolabref01_paper.mono_l k
    · intro y0 y1 y2 y3 y4 y5
      unfold metrolabref01_paper.l0
      repeat' first
      | (with_reducible exact ih0 _ _ _ _ _ _)
      | (with_reducible exact metrolabref01_bare.mono _ _)
      | (with_reducible exact metrolabref01_column.mono _ _ _ _ _)
      | (with_reducible exact LeO.refl _)
      | (with_reducible exact LeO.none _)
      | (with_reducible refine LeO.ite ?_ ?_)
      | (with_reducible refine LeO.bind ?_ (fun _ => ?_))
      | exact ih0 _ _ _ _ _ _
      | exact metrolabref01_bare.mono _ _
      | exact metrolabref01_column.mono _ _ _ _ _
      | exact LeO.none _
      | refine LeO.ite ?_ ?_
      | refine LeO.bind ?_ (fun _ => ?_)
theorem metrolabref01_paper.mono : ∀ a0 a1 a2 k, LeO (metrolabref01_paper.f k a0 a1 a2) (metrolabref01_paper.f (k + 1) a0 a1 a2) := by
  intro a0 a1 a2 k
  have ih0 := metrolabref01_paper.mono_l k
  unfold metrolabref01_paper.f
  repeat' first
      | (with_reducible exact ih0 _ _ _ _ _ _)
      | (with_reducible exact metrolabref01_bare.mono _ _)
      | (with_reducible exact metrolabref01_column.mono _ _ _ _ _)
      | (with_reducible exact LeO.refl _)
      | (with_reducible exact LeO.none _)
      | (with_reducible refine LeO.ite ?_ ?_)
      | (with_reducible refine LeO.bind ?_ (fun _ => ?_))
      | exact ih0 _ _ _ _ _ _
      | exact metrolabref01_bare.mono _ _
      | exact metrolabref01_column.mono _ _ _ _ _
      | exact LeO.none _
      | refine LeO.ite ?_ ?_
      | refine LeO.bind ?_ (fun _ => ?_)
def metrolabref01_paper.T8 : Bool × List (List Nat × List Nat) := (true, [([], []), ([], []), ([], []), ([], []), ([2, 3], [2, 3]), ([], []), ([], []), ([5, 6], [5, 6]), ([], []), ([], []), ([4, 7, 8, 9], [4, 7, 8, 9]), ([10], [10]), ([11], [11]), ([11], [11]), ([0, 1, 0, 1, 2, 3, 4, 5, 6, 7, 8, 9, 10, 11, 12], [0, 1]), ([14, 12, 10, 0, 1, 2, 3, 4, 5, 6, 7, 8, 9, 10, 11, 12], [12, 14]), ([13, 15, 0, 1, 2, 3, 4, 5, 6, 7, 8, 9, 10, 11, 12, 13, 14, 15], [8, 13])])
def metrolabref01_paper.B8 : List Nat := [0, 0, 0, 0, 12, 0, 0, 96, 0, 0, 1020, 2044, 4092, 4092, 8191, 24575, 65535]
theorem metrolabref01_paper.tab8 : rtab .any (opsOf Tryz.f92 8) = metrolabref01_paper.T8 := by kernel_rfl
theorem metrolabref01_paper.bits8 : waitsOk metrolabref01_paper.T8.2 metrolabref01_paper.B8 = true := by kernel_rfl
set_option maxHeartbeats 8000000 in
set_option maxRecDepth 100000 in
theorem metrolabref01_paper.calls (k : Nat) (a0 : ByteArray) (a1 : ByteArray) (a2 : Bool) (r : ByteArray) (w : World) (h : metrolabref01_paper.f k a0 a1 a2 = some r) :
    Calls Tryz.prog 92 #[.string a0, .string a1, .bool a2] w fun e w' => e = .returned (.string r) ∧ Below w.heap.size w w' := by
  have HB := Aside0.mk (Below.refl w.heap.size w)
  have H : ((metrolabref01_wide.f a0 (wrap64 ((mx (a0.size : Int) (a1.size : Int)) + 1))).bind fun t121 => ((metrolabref01_wide.f a1 (wrap64 ((mx (a0.size : Int) (a1.size : Int)) + 1))).bind fun t122 => (if 0 ≤ (wrap64 ((mx (a0.size : Int) (a1.size : Int)) + 1)) then (if (wrap64 ((mx (a0.size : Int) (a1.size : Int)) + 1) : Int).toNat ≤ 281474976710656 then (metrolabref01_paper.l0 k t121 t122 a2 (List.replicate (wrap64 ((mx (a0.size : Int) (a1.size : Int)) + 1) : Int).toNat 0) 0 (wrap64 ((wrap64 ((mx (a0.size : Int) (a1.size : Int)) + 1)) - 1))) else (none)) else (none)))) = some r := h
  clear h
  obtain ⟨ji4, hji4⟩ : ∃ j_ : Int, (mx (a0.size : Int) (a1.size : Int)) = j_ := ⟨_, rfl⟩
  replace H : ((metrolabref01_wide.f a0 (wrap64 ((ji4) + 1))).bind fun t121 => ((metrolabref01_wide.f a1 (wrap64 ((ji4) + 1))).bind fun t122 => (if 0 ≤ (wrap64 ((ji4) + 1)) then (if (wrap64 ((ji4) + 1) : Int).toNat ≤ 281474976710656 then (metrolabref01_paper.l0 k t121 t122 a2 (List.replicate (wrap64 ((ji4) + 1) : Int).toNat 0) 0 (wrap64 ((wrap64 ((ji4) + 1)) - 1))) else (none)) else (none)))) = some r := by first | (rw [hji4] at H; exact H) | (simp only [hji4] at H ⊢; exact H)
  (try (have hji4l : 0 ≤ ji4 := by (rw [← hji4]; unfold mx; (repeat' split) <;> omega)))
  (try (have hji4m : 0 ≤ ji4 := by omega))
  have hji4_ : (if (a0.size : Int) < (a1.size : Int) then (a1.size : Int) else (a0.size : Int)) = ji4 := hji4
  rcases (Decidable.em ((a0.size : Int) < (a1.size : Int))) with hmx_ | hmx_
  all_goals (first | rw [if_pos hmx_] at hji4_ | rw [if_neg hmx_] at hji4_)
  all_goals
    replace H := Option.bind_eq_some_iff.mp H
    obtain ⟨t121, A50, H⟩ := H
    replace H : ((metrolabref01_wide.f a1 (wrap64 ((ji4) + 1))).bind fun t122 => (if 0 ≤ (wrap64 ((ji4) + 1)) then (if (wrap64 ((ji4) + 1) : Int).toNat ≤ 281474976710656 then (metrolabref01_paper.l0 k t121 t122 a2 (List.replicate (wrap64 ((ji4) + 1) : Int).toNat 0) 0 (wrap64 ((wrap64 ((ji4) + 1)) - 1))) else (none)) else (none))) = some r := H
    have A5 := Aside0.mk A50
    clear A50
    replace H := Option.bind_eq_some_iff.mp H
    obtain ⟨t122, A60, H⟩ := H
    replace H : (if 0 ≤ (wrap64 ((ji4) + 1)) then (if (wrap64 ((ji4) + 1) : Int).toNat ≤ 281474976710656 then (metrolabref01_paper.l0 k t121 t122 a2 (List.replicate (wrap64 ((ji4) + 1) : Int).toNat 0) 0 (wrap64 ((wrap64 ((ji4) + 1)) - 1))) else (none)) else (none)) = some r := H
    have A6 := Aside0.mk A60
    clear A60
    obtain ⟨ji7, hji7⟩ : ∃ j_ : Int, (wrap64 ((ji4) + 1)) = j_ := ⟨_, rfl⟩
    replace H : (if 0 ≤ (ji7) then (if (ji7 : Int).toNat ≤ 281474976710656 then (metrolabref01_paper.l0 k t121 t122 a2 (List.replicate (ji7 : Int).toNat 0) 0 (wrap64 ((ji7) - 1))) else (none)) else (none)) = some r := by first | (rw [hji7] at H; exact H) | (simp only [hji7] at H ⊢; exact H)
    (try rw [hji7] at A5)
    (try rw [hji7] at A6)
    have hji7w : (IntKind.i64.wrap ((ji4) + 1)) = ji7 := (i64_w _).trans hji7
    by_cases c8 : 0 ≤ (ji7)
    · rw [if_pos c8] at H
      have c8b0 := eq_true c8
      have c8b1 : decide (0 ≤ (ji7)) = true := decide_eq_true c8
      clear c8
      by_cases c9 : (ji7 : Int).toNat ≤ 281474976710656
      · rw [if_pos c9] at H
        have c9b0 := eq_true c9
        have c9b1 : decide ((ji7 : Int).toNat ≤ 281474976710656) = true := decide_eq_true c9
        clear c9
        obtain ⟨y123, hy123⟩ : ∃ y_ : List Int, y_ = (List.replicate (ji7 : Int).toNat 0) := ⟨_, rfl⟩
        replace H : (metrolabref01_paper.l0 k t121 t122 a2 y123 0 (wrap64 ((ji7) - 1))) = some r := by first | (rw [hy123]; with_reducible exact H) | (have H2_ := (Option.bind_some _ _).symm.trans H; rw [hy123]; with_reducible exact H2_) | (have H2_ := (Option.bind_some _ _).symm.trans H; with_reducible exact H2_) | with_reducible exact H | (rw [hy123]; exact H) | exact H
        have Ny123 := Aside0.mk hy123
        clear hy123
        have H' := Aside0.mk H
        clear H
        go_enter Tryz.func92, Tryz.ntmps92
        go_wp2_with (first | ((with_reducible refine gate_callee (f := 110) rfl ?_); refine goesL_ (some 19) rfl rfl Tryz.func110 (by kernel_rfl) rfl #[.string a0, .int .i64 ji7] rfl (by (try simp only [List.map_toArray, List.map_cons, List.map_nil]); first | done | (simp only [hji7]; rfl) | rfl | (simp only [List.length_drop, List.length_take]; rfl)) ?_; (with_reducible refine (metrolabref01_wide.calls a0 ji7 t121 _ A5.out).mono ?_); rintro e w10 ⟨rfl, hb⟩; refine ⟨_, rfl, ?_⟩; have n0_ := Aside0.mk (below_step (by repeat (first | (with_reducible first | exact HB.out | apply below_alloc | apply pw_below_drewN | apply below_drew1) | exact HB.out)) hb); clear HB; have HB := n0_; clear n0_; (try clear hb); (try clear hb2); (try clear hk); (try clear hi)) | ((with_reducible refine gate_callee (f := 110) rfl ?_); refine goesL_ (some 22) rfl rfl Tryz.func110 (by kernel_rfl) rfl #[.string a1, .int .i64 ji7] rfl (by (try simp only [List.map_toArray, List.map_cons, List.map_nil]); first | done | (simp only [hji7]; rfl) | rfl | (simp only [List.length_drop, List.length_take]; rfl)) ?_; (with_reducible refine (metrolabref01_wide.calls a1 ji7 t122 _ A6.out).mono ?_); rintro e w11 ⟨rfl, hb⟩; refine ⟨_, rfl, ?_⟩; have n0_ := Aside0.mk (below_step (by repeat (first | (with_reducible first | exact HB.out | apply below_alloc | apply pw_below_drewN | apply below_drew1) | exact HB.out)) hb); clear HB; have HB := n0_; clear n0_; (try clear hb); (try clear hb2); (try clear hk); (try clear hi)) | ((with_reducible refine gate_dst (N := 24) rfl ?_); refine Kd.R_make (Kd.int .u8) _ 5 rfl (N := 24) rfl 88 _ _ rfl ji7 rfl rfl Tryz.underlying88 (.int .u8 0) 1 info5 rfl (by decide) (by omega) 0 (ok := fun _ => True) (okp := fun _ => True) rfl (fun _ hk => hk) trivial (of_decide_eq_true (by first | (with_reducible assumption) | assumption)) (Nat.le_trans (Nat.mul_le_mul_right _ (of_decide_eq_true (by first | (with_reducible assumption) | assumption) : ji7.toNat ≤ 281474976710656)) (by omega)) (Below.refl _ _) (Nat.le_refl _) ?_; intro v124 w12 ho13 hb hg_ hnew_; clear hg_ hnew_; (first | rw [← Ny123.out] at ho13 | (simp only [Int.reduceToNat] at ho13; rw [← Ny123.out] at ho13)); have n0_ := Aside0.mk (Kd.R_lower ho13 (below_size (by repeat (first | (with_reducible first | exact HB.out | apply below_alloc | apply pw_below_drewN | apply below_drew1) | exact HB.out)))); have n1_ := Aside0.mk (below_step (by repeat (first | (with_reducible first | exact HB.out | apply below_alloc | apply pw_below_drewN | apply below_drew1) | exact HB.out)) hb); clear HB; have HO125 := n0_; have HB := n1_; clear n0_ n1_; clear hb ho13))
        go_loopg [9, 10] k (fun kq v9 v10 w' => ∃ (x8_1 : List Int) (x9_1 : Int) (x10_1 : Int), v9 = .int .i64 x9_1 ∧ v10 = .int .i64 x10_1 ∧ Aside0 (metrolabref01_paper.l0 kq t121 t122 a2 x8_1 x9_1 x10_1 = some r) ∧ Aside0 (kq ≤ k) ∧ Aside0 (Kd.R (Kd.int .u8) 5 w' w.heap.size (fun _ => True) v124 x8_1) ∧ Aside0 (Below w.heap.size w w'))
        case atStart => exact ⟨(y123), (0), (wrap64 ((ji7) - 1)), (by first | rfl | exact congrArg Value.bool (not_empty _) | exact congrArg Value.bool (is_empty _) | (simp; done) | (simp [*]; done)), (by first | rfl | (simp; done) | (simp only [← hji7] <;> (first | rfl | simp)) | (simp [*]; done)), H', ⟨Nat.le_refl _⟩, ⟨by (with_reducible repeat (first | apply Kd.R_alloc | apply Kd.R_drewN | apply Kd.R_drew)); exact HO125.out⟩, ⟨by repeat (first | (with_reducible first | exact HB.out | apply below_alloc | apply pw_below_drewN | apply below_drew1) | exact HB.out)⟩⟩
        case round =>
          clear H'
          try clear c1
          try clear p2
          try clear p6
          try clear c8
          try clear c8b0
          try clear c8b1
          try clear c9
          try clear c9b0
          try clear c9b1
          try clear c11
          obtain ⟨x8_1, x9_1, x10_1, rfl, rfl, HA, HK1, HO_8, HB⟩ := hrel
          cases gk with
          | zero => exact absurd HA.out (by simp [metrolabref01_paper.l0])
          | succ k1 =>
            have H := HA.out
            clear HA
            simp only [metrolabref01_paper.l0] at H
            by_cases c14 : x10_1 ≥ 0
            · rw [if_pos c14] at H
              have c14b0 : decide (0 ≤ x10_1) = true := decide_eq_true c14
              clear c14
              by_cases c15 : 0 ≤ x10_1
              · rw [if_pos c15] at H
                have c15b0 : decide (0 ≤ x10_1) = true := decide_eq_true c15
                clear c15
                by_cases c16 : x10_1 < (t121.size : Int)
                · rw [if_pos c16] at H
                  have c16b0 : decide (x10_1 < (t121.size : Int)) = true := decide_eq_true c16
                  clear c16
                  by_cases c18 : x10_1 < (t122.size : Int)
                  · rw [if_pos c18] at H
                    have c18b0 : decide (x10_1 < (t122.size : Int)) = true := decide_eq_true c18
                    clear c18
                    replace H := Option.bind_eq_some_iff.mp H
                    obtain ⟨⟨t126, t127⟩, A200, H⟩ := H
                    replace H : (if x10_1 < (x8_1.length : Int) then (metrolabref01_paper.l0 k1 t121 t122 a2 (x8_1.set (x10_1 : Int).toNat t126) t127 (wrap64 (x10_1 - 1))) else (none)) = some r := H
                    have A20 := Aside0.mk A200
                    clear A200
                    by_cases c21 : x10_1 < (x8_1.length : Int)
                    · rw [if_pos c21] at H
                      have c21b0 : decide (x10_1 < (x8_1.length : Int)) = true := decide_eq_true c21
                      clear c21
                      obtain ⟨y128, hy128⟩ : ∃ y_ : List Int, y_ = (x8_1.set (x10_1 : Int).toNat t126) := ⟨_, rfl⟩
                      replace H : (metrolabref01_paper.l0 k1 t121 t122 a2 y128 t127 (wrap64 (x10_1 - 1))) = some r := by first | (rw [hy128]; with_reducible exact H) | (have H2_ := (Option.bind_some _ _).symm.trans H; rw [hy128]; with_reducible exact H2_) | (have H2_ := (Option.bind_some _ _).symm.trans H; with_reducible exact H2_) | with_reducible exact H | (rw [hy128]; exact H) | exact H
                      have Ny128 := Aside0.mk hy128
                      clear hy128
                      have H' := Aside0.mk H
                      clear H
                      try go_wp2
                      have n0_ := Aside0.mk (Kd.R_drew HO_8.out)
                      have n1_ := Aside0.mk (below_drew1 HB.out)
                      clear HO_8
                      clear HB
                      have HO_8 := n0_
                      have HB := n1_
                      clear n0_ n1_
                      have p17 : 0 ≤ (x10_1 : Int) := of_decide_eq_true (by first | (with_reducible assumption) | assumption)
                      have q17 : x10_1 < (t121.size : Int) := of_decide_eq_true (by first | (with_reducible assumption) | assumption)
                      have hx17 := bt_at t121 x10_1
                      replace p17 := eq_true p17
                      replace q17 := eq_true q17
                      have p19 : 0 ≤ (x10_1 : Int) := of_decide_eq_true (by first | (with_reducible assumption) | assumption)
                      have q19 : x10_1 < (t122.size : Int) := of_decide_eq_true (by first | (with_reducible assumption) | assumption)
                      have hx19 := bt_at t122 x10_1
                      replace p19 := eq_true p19
                      replace q19 := eq_true q19
                      refine start_ (n := 17) (S := fun w' => True) (ds := [15]) #[false, false, false, false, false, false, false, false, false, false, false, false, false, false, false, false, false] (by kernel_rfl) rfl rfl trivial (fun hHeld => ?_); refine with_tabW metrolabref01_paper.tab8 metrolabref01_paper.bits8 (fun HT_ HW_ => ?_)
                      generalize wr.drew = w23 at HO_8 HB hHeld ⊢
                      refine pure_ (i := 0) (N := some 32) (v := ?_) (a' := ?_) #[true, false, false, false, false, false, false, false, false, false, false, false, false, false, false, false, false] rfl rfl (any_of HT_.out (by kernel_rfl)) (fun _ _ _ h => h) (Or.inl ⟨by rfl, ?_⟩) ?_ ?_
                      rotate_left
                      · intro w'
                        go_simp
                        with_reducible rfl
                      rotate_left
                      · simp only [Act.put, List.setIfInBounds_toArray, List.set_cons_zero, List.set_cons_succ, i64_w, i32_w]
                        rfl
                      refine pure_ (i := 1) (N := some 33) (v := ?_) (a' := ?_) #[true, true, false, false, false, false, false, false, false, false, false, false, false, false, false, false, false] rfl rfl (any_of HT_.out (by kernel_rfl)) (fun _ _ _ h => h) (Or.inl ⟨by rfl, ?_⟩) ?_ ?_
                      rotate_left
                      · intro w'
                        go_simp
                        with_reducible rfl
                      rotate_left
                      · simp only [Act.put, List.setIfInBounds_toArray, List.set_cons_zero, List.set_cons_succ, i64_w, i32_w]
                        rfl
                      refine pure_ (i := 2) (N := some 34) (v := ?_) (a' := ?_) #[true, true, true, false, false, false, false, false, false, false, false, false, false, false, false, false, false] rfl rfl (any_of HT_.out (by kernel_rfl)) (fun _ _ _ h => h) (Or.inl ⟨by rfl, ?_⟩) ?_ ?_
                      rotate_left
                      · intro w'
                        go_simp
                        with_reducible rfl
                      rotate_left
                      · simp only [Act.put, List.setIfInBounds_toArray, List.set_cons_zero, List.set_cons_succ, i64_w, i32_w]
                        rfl
                      refine pure_ (i := 3) (N := some 35) (v := ?_) (a' := ?_) #[true, true, true, true, false, false, false, false, false, false, false, false, false, false, false, false, false] rfl rfl (any_of HT_.out (by kernel_rfl)) (fun _ _ _ h => h) (Or.inl ⟨by rfl, ?_⟩) ?_ ?_
                      rotate_left
                      · intro w'
                        go_simp
                        with_reducible rfl
                      rotate_left
                      · simp only [Act.put, List.setIfInBounds_toArray, List.set_cons_zero, List.set_cons_succ, i64_w, i32_w]
                        rfl
                      refine pure_ (i := 5) (N := some 37) (v := ?_) (a' := ?_) #[true, true, true, true, false, true, false, false, false, false, false, false, false, false, false, false, false] rfl rfl (any_of HT_.out (by kernel_rfl)) (fun _ _ _ h => h) (Or.inl ⟨by rfl, ?_⟩) ?_ ?_
                      rotate_left
                      · intro w'
                        go_simp
                        with_reducible rfl
                      rotate_left
                      · simp only [Act.put, List.setIfInBounds_toArray, List.set_cons_zero, List.set_cons_succ, i64_w, i32_w]
                        rfl
                      refine pure_ (i := 6) (N := some 38) (v := ?_) (a' := ?_) #[true, true, true, true, false, true, true, false, false, false, false, false, false, false, false, false, false] rfl rfl (any_of HT_.out (by kernel_rfl)) (fun _ _ _ h => h) (Or.inl ⟨by rfl, ?_⟩) ?_ ?_
                      rotate_left
                      · intro w'
                        go_simp
                        with_reducible rfl
                      rotate_left
                      · simp only [Act.put, List.setIfInBounds_toArray, List.set_cons_zero, List.set_cons_succ, i64_w, i32_w]
                        rfl
                      refine pure_ (i := 8) (N := some 40) (v := ?_) (a' := ?_) #[true, true, true, true, false, true, true, false, true, false, false, false, false, false, false, false, false] rfl rfl (any_of HT_.out (by kernel_rfl)) (fun _ _ _ h => h) (Or.inl ⟨by rfl, ?_⟩) ?_ ?_
                      rotate_left
                      · intro w'
                        go_simp
                        with_reducible rfl
                      rotate_left
                      · simp only [Act.put, List.setIfInBounds_toArray, List.set_cons_zero, List.set_cons_succ, i64_w, i32_w]
                        rfl
                      refine pure_ (i := 9) (N := some 41) (v := ?_) (a' := ?_) #[true, true, true, true, false, true, true, false, true, true, false, false, false, false, false, false, false] rfl rfl (any_of HT_.out (by kernel_rfl)) (fun _ _ _ h => h) (Or.inl ⟨by rfl, ?_⟩) ?_ ?_
                      rotate_left
                      · intro w'
                        go_simp
                        with_reducible rfl
                      rotate_left
                      · simp only [Act.put, List.setIfInBounds_toArray, List.set_cons_zero, List.set_cons_succ, i64_w, i32_w]
                        rfl
                      refine take_ (i := 4) (N := some 36) (v := ?_) (a' := ?_) #[true, true, true, true, true, true, true, false, true, true, false, false, false, false, false, false, false] rfl rfl (take_ofW HT_.out HW_.out (by kernel_rfl)) (fun _ _ _ h => h) (Or.inl ⟨by rfl, ?_⟩) hHeld ?_ ?_
                      rotate_left
                      · intro w' _
                        go_simp
                        with_reducible rfl
                      rotate_left
                      · simp only [Act.put, List.setIfInBounds_toArray, List.set_cons_zero, List.set_cons_succ, i64_w, i32_w]
                        rfl
                      refine take_ (i := 7) (N := some 39) (v := ?_) (a' := ?_) #[true, true, true, true, true, true, true, true, true, true, false, false, false, false, false, false, false] rfl rfl (take_ofW HT_.out HW_.out (by kernel_rfl)) (fun _ _ _ h => h) (Or.inl ⟨by rfl, ?_⟩) hHeld ?_ ?_
                      rotate_left
                      · intro w' _
                        go_simp
                        with_reducible rfl
                      rotate_left
                      · simp only [Act.put, List.setIfInBounds_toArray, List.set_cons_zero, List.set_cons_succ, i64_w, i32_w]
                        rfl
                      refine one_ (i := 10) (N := some 42) #[true, true, true, true, true, true, true, true, true, true, true, false, false, false, false, false, false] rfl rfl (one_of HT_.out (by kernel_rfl)) (by decide) (fun K hK => ?_)
                      refine goes_ Tryz.func111 (by kernel_rfl) rfl #[.int .u8 (bt t121 x10_1), .int .u8 (bt t122 x10_1), .int .i64 x9_1, .bool a2] (by rfl) rfl rfl (by (try simp only [List.map_toArray, List.map_cons, List.map_nil]); first | done | rfl | (simp only [List.length_drop, List.length_take]; rfl)) ?_
                      with_reducible refine (metrolabref01_column.calls k1 (bt t121 x10_1) (bt t122 x10_1) x9_1 a2 t126 t127 _ A20.out).mono ?_
                      rintro e w' ⟨rfl, ⟨nd, rfl⟩⟩
                      refine ⟨_, rfl, ?_⟩
                      have p22 : 0 ≤ (x10_1 : Int) := of_decide_eq_true (by first | (with_reducible assumption) | assumption)
                      have q22 : (x10_1 : Int) < ((x8_1.length : Int) : Int) := of_decide_eq_true (by first | (with_reducible assumption) | assumption)
                      obtain ⟨go22, co22, eo22, gb22, gl22, cl22, HG22⟩ := Kd.R_form HO_8.out (by omega)
                      (first | cases eo22 | (injection eo22 with ea_ en_ ec_; (first | subst ea_ | (injection ea_ with ea_; subst ea_)); subst ec_; clear en_))
                      have GB22 := Aside0.mk gb22
                      have GG22 := Aside0.mk HG22
                      clear gb22 gl22 HG22
                      obtain ⟨hx22_0, hf22_0⟩ := Kd.R_celln 0 HO_8.out (x10_1 : Int) p22 q22
                      replace p22 := eq_true p22
                      replace q22 := eq_true q22
                      have HP24 := Kd.R_putn HO_8.out (x10_1 : Int) t126
                      rw [← Ny128.out] at HP24
                      have HQ24 := Aside0.mk HP24
                      clear HP24
                      refine hK.out _ _ trivial (fun hHeld => ?_)
                      clear hK K
                      refine norm_ (a' := ?_) ?_ ?_
                      rotate_left
                      · show Act.put _ (some 42) _ = _
                        simp only [Act.put, List.setIfInBounds_toArray, List.set_cons_zero, List.set_cons_succ, i64_w, i32_w]
                        rfl
                      refine pure_ (i := 11) (N := some 31) (v := ?_) (a' := ?_) #[true, true, true, true, true, true, true, true, true, true, true, true, false, false, false, false, false] rfl rfl (any_of HT_.out (by kernel_rfl)) (fun _ _ _ h => h) (Or.inl ⟨by rfl, ?_⟩) ?_ ?_
                      rotate_left
                      · intro w'
                        go_simp
                        with_reducible rfl
                      rotate_left
                      · simp only [Act.put, List.setIfInBounds_toArray, List.set_cons_zero, List.set_cons_succ, i64_w, i32_w]
                        rfl
                      refine pure_ (i := 12) (N := some 43) (v := ?_) (a' := ?_) #[true, true, true, true, true, true, true, true, true, true, true, true, true, false, false, false, false] rfl rfl (any_of HT_.out (by kernel_rfl)) (fun _ _ _ h => h) (Or.inl ⟨by rfl, ?_⟩) ?_ ?_
                      rotate_left
                      · intro w'
                        go_simp
                        with_reducible rfl
                      rotate_left
                      · simp only [Act.put, List.setIfInBounds_toArray, List.set_cons_zero, List.set_cons_succ, i64_w, i32_w]
                        rfl
                      refine pure_ (i := 13) (N := some 44) (v := ?_) (a' := ?_) #[true, true, true, true, true, true, true, true, true, true, true, true, true, true, false, false, false] rfl rfl (any_of HT_.out (by kernel_rfl)) (fun _ _ _ h => h) (Or.inl ⟨by rfl, ?_⟩) ?_ ?_
                      rotate_left
                      · intro w'
                        go_simp
                        with_reducible rfl
                      rotate_left
                      · simp only [Act.put, List.setIfInBounds_toArray, List.set_cons_zero, List.set_cons_succ, i64_w, i32_w]
                        rfl
                      refine pure_ (i := 14) (N := some 45) (v := ?_) (a' := ?_) #[true, true, true, true, true, true, true, true, true, true, true, true, true, true, true, false, false] rfl rfl (any_of HT_.out (by kernel_rfl)) (fun _ _ _ h => h) (Or.inl ⟨by rfl, ?_⟩) ?_ ?_
                      rotate_left
                      · intro w'
                        go_simp
                        with_reducible rfl
                      rotate_left
                      · simp only [Act.put, List.setIfInBounds_toArray, List.set_cons_zero, List.set_cons_succ, i64_w, i32_w]
                        rfl
                      refine last_ (i := 15) (N := none) #[true, true, true, true, true, true, true, true, true, true, true, true, true, true, true, true, false] rfl rfl (one_of HT_.out (by kernel_rfl)) (by decide) (fun K hK => ?_)
                      refine skip_ (w1 := ?_) (by rfl) rfl ?_ ?_
                      rotate_left
                      · go_simp
                        rfl
                      refine hK.out _ _ ?_
                      clear hK K
                      refine pure_ (i := 16) (N := some 9) (v := ?_) (a' := ?_) #[true, true, true, true, true, true, true, true, true, true, true, true, true, true, true, true, true] rfl rfl (any_of HT_.out (by kernel_rfl)) (fun _ _ _ h => h) (Or.inl ⟨by rfl, ?_⟩) ?_ ?_
                      rotate_left
                      · intro w'
                        go_simp
                        with_reducible rfl
                      rotate_left
                      · simp only [Act.put, List.setIfInBounds_toArray, List.set_cons_zero, List.set_cons_succ, i64_w, i32_w]
                        rfl
                      refine done_ (done_of HT_.out (by kernel_rfl)) ?_
                      try go_wp2
                      go_roundg k1
                      case measure => have := HK1.out; omega
                      case rel => exact ⟨(y128), (t127), (wrap64 (x10_1 - 1)), (by first | rfl | exact congrArg Value.bool (not_empty _) | exact congrArg Value.bool (is_empty _) | (simp; done) | (simp [*]; done)), (by first | rfl | exact congrArg Value.bool (not_empty _) | exact congrArg Value.bool (is_empty _) | (simp; done) | (simp [*]; done)), H', ⟨by have := HK1.out; omega⟩, ⟨by (with_reducible repeat (first | apply Kd.R_alloc | apply Kd.R_drewN | apply Kd.R_drew)); first | exact HQ24.out | (simp only [wrap_mod]; exact HQ24.out)⟩, ⟨by repeat (first | (with_reducible first | exact HB.out | apply below_alloc | apply pw_below_drewN | apply below_drew1 | refine below_set ?_ GB22.out) | exact HB.out)⟩⟩
                    · rw [if_neg c21] at H
                      exact absurd H (by simp)
                  · rw [if_neg c18] at H
                    exact absurd H (by simp)
                · rw [if_neg c16] at H
                  exact absurd H (by simp)
              · rw [if_neg c15] at H
                exact absurd H (by simp)
            · rw [if_neg c14] at H
              have c14b0 : decide (0 ≤ x10_1) = false := decide_eq_false c14
              clear c14
              replace H := Option.bind_eq_some_iff.mp H
              obtain ⟨t129, A250, H⟩ := H
              replace H : (some t129) = some r := H
              have A25 := Aside0.mk A250
              clear A250
              obtain rfl := Option.some.inj H
              have hcv26 := own_string (P := Tryz.prog) Tryz.underlying88 Tryz.underlying5 Tryz.underlying9 (Kd.own_of_R HO_8.out)
              go_wp2_with (first | ((with_reducible refine gate_callee (f := 96) rfl ?_); refine goesL_ (some 48) rfl rfl Tryz.func96 (by kernel_rfl) rfl #[.string (strOfNums x8_1)] rfl (by (try simp only [List.map_toArray, List.map_cons, List.map_nil]); first | done | rfl | (simp only [List.length_drop, List.length_take]; rfl)) ?_; (with_reducible refine (metrolabref01_bare.calls k1 (strOfNums x8_1) t129 _ A25.out).mono ?_); rintro e w' ⟨rfl, ⟨nd, rfl⟩⟩; refine ⟨_, rfl, ?_⟩))
              go_ret
              exact ⟨by first | rfl | (simp [errW_none, errW_some] <;> rfl) | (simp only [← hji4, ← hji7]; first | rfl | (simp [errW_none, errW_some] <;> rfl)) | (simp [*, errW_none, errW_some] <;> rfl), by repeat (first | (with_reducible first | exact HB.out | apply below_alloc | apply pw_below_drewN | apply below_drew1) | exact HB.out)⟩
      · rw [if_neg c9] at H
        exact absurd H (by simp)
    · rw [if_neg c8] at H
      exact absurd H (by simp)

/-! ### metrolabref01_less: function 93 -/
def metrolabref01_less.f (a0 : ByteArray) (a1 : ByteArray) : Option (Bool) := if (a0.size : Int) < (a1.size : Int) then (some true) else (if (a0.size : Int) = (a1.size : Int) then (some (Op.bytesLess a0.toList a1.toList)) else (some false))
set_option maxHeartbeats 8000000 in
set_option maxRecDepth 100000 in
theorem metrolabref01_less.calls (a0 : ByteArray) (a1 : ByteArray) (r : Bool) (w : World) (h : metrolabref01_less.f a0 a1 = some r) :
    Calls Tryz.prog 93 #[.string a0, .string a1] w fun e w' => e = .returned (.bool r) ∧ Drawn0 w w' := by
  have H : (if (a0.size : Int) < (a1.size : Int) then (some true) else (if (a0.size : Int) = (a1.size : Int) then (some (Op.bytesLess a0.toList a1.toList)) else (some false))) = some r := h
  clear h
  by_cases c3 : (a0.size : Int) < (a1.size : Int)
  · rw [if_pos c3] at H
    have c3b0 : decide ((a0.size : Int) < (a1.size : Int)) = true := decide_eq_true c3
    have c3b1 : decide (a0.size < a1.size) = true := decide_eq_true (Int.ofNat_lt.mp c3)
    clear c3
    obtain rfl := Option.some.inj H
    go_enter Tryz.func93, Tryz.ntmps93
    go_wp2
    go_ret
    exact ⟨by first | rfl | (simp; done) | (simp [*]; done), by repeat (first | exact Drawn0.refl _ | apply Drawn0.step)⟩
  · rw [if_neg c3] at H
    have c3b0 : decide ((a0.size : Int) < (a1.size : Int)) = false := decide_eq_false c3
    have c3b1 : decide (a0.size < a1.size) = false := decide_eq_false (fun h => c3 (Int.ofNat_lt.mpr h))
    clear c3
    by_cases c4 : (a0.size : Int) = (a1.size : Int)
    · rw [if_pos c4] at H
      have c4b0 : ((a0.size : Int) == (a1.size : Int)) = true := beq_iff_eq.mpr c4
      have c4b1 : ((a0.size : Int) != (a1.size : Int)) = false := bne_eq_false_iff_eq.mpr c4
      have c4b2 : (a0.size == a1.size) = true := by first | simpa using c4 | (simp at c4 ⊢; omega)
      clear c4
      obtain rfl := Option.some.inj H
      go_enter Tryz.func93, Tryz.ntmps93
      go_wp2
      go_ret
      exact ⟨by first | rfl | (simp; done) | (simp [*]; done), by repeat (first | exact Drawn0.refl _ | apply Drawn0.step)⟩
    · rw [if_neg c4] at H
      have c4b0 : ((a0.size : Int) == (a1.size : Int)) = false := beq_eq_false_iff_ne.mpr c4
      have c4b1 : ((a0.size : Int) != (a1.size : Int)) = true := bne_iff_ne.mpr c4
      have c4b2 : (a0.size == a1.size) = false := by first | simpa using c4 | (simp at c4 ⊢; omega)
      obtain rfl := Option.some.inj H
      go_enter Tryz.func93, Tryz.ntmps93
      go_wp2
      go_ret
      exact ⟨by first | rfl | (simp; done) | (simp [*]; done), by repeat (first | exact Drawn0.refl _ | apply Drawn0.step)⟩

end Go.Proofs.YtpkfnclbcmnckaaGreatDoor.ZP
