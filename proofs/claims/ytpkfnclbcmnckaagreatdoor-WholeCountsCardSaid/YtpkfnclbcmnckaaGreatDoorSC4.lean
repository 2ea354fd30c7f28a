/- WholeCounts: Pow and Binomial return the results or errors of the reference for all numbers. Conditions: package-level variables of Go's library hold what their initialisers lay (tied). -/
import Derived.Test.YtpkfnclbcmnckaaGreatDoorSC3
import Derived.Test.YtpkfnclbcmnckaaGreatDoorRows
import Derived.Lib.LaidTab
import Derived.Stop.LaidErr
import Derived.Lay
import Derived.ProofKit
import Derived.LaidMore
import Derived.Test.YtpkfnclbcmnckaaGreatDoorCards
import Derived.Test.YtpkfnclbcmnckaaGreatDoorTie
import Derived.WalkKit
import Derived.OpenShut
import Derived.ShutString
import Derived.ChangeOld
import Derived.Below
import Derived.SizedLaws
import Derived.SevenTiedAt
namespace Go.Proofs.YtpkfnclbcmnckaaGreatDoor.ZLC
open Go.RowKit Go.Proofs.YtpkfnclbcmnckaaGreatDoorW.PrintWords Go.Proofs.YtpkfnclbcmnckaaGreatDoorW.PrintLast Go.Proofs.YtpkfnclbcmnckaaGreatDoorW.PrintMore
attribute [local go_sem] max2_int min2_int max_two min_two max_three min_three max_four min_four   -- for this text's walks alone
set_option linter.unusedVariables false
set_option linter.unusedSimpArgs false
mutual
def metrolablaw01_WholeCounts.j0 : Nat → ByteArray → Int → Int → Bool → Option (Bool)
  | 0, _, _, _, _ => none
  | k + 1, x0, x1, x2, x36 => if x36 = true then ((whole_Pow.f x0 x1).bind fun bt103 => ((ZK.metrolabref01_Pow.f k x0 x1).bind fun bt105 => (if bt103.1.toList = bt105.1.toList then (if bt103.2 = bt105.2 then (metrolablaw01_WholeCounts.j1 k x1 x2) else (some false)) else (some false)))) else (metrolablaw01_WholeCounts.j1 k x1 x2)
def metrolablaw01_WholeCounts.j1 : Nat → Int → Int → Option (Bool)
  | 0, _, _ => none
  | k + 1, x1, x2 => if x1 > 40 then (metrolablaw01_WholeCounts.j2 k x1 x2 (decide (x1 ≤ 4096))) else (metrolablaw01_WholeCounts.j2 k x1 x2 false)
def metrolablaw01_WholeCounts.j2 : Nat → Int → Int → Bool → Option (Bool)
  | 0, _, _, _ => none
  | k + 1, x1, x2, x62 => if x62 = true then ((awake.f).bind fun t107 => (some t107)) else ((whole_Binomial.f x1 x2).bind fun bt108 => ((ZK.metrolabref01_Binomial.f k x1 x2).bind fun bt110 => (if bt108.1.toList = bt110.1.toList then (if bt108.2 = bt110.2 then ((awake.f).bind fun t112 => (some t112)) else (some false)) else (some false))))
end
def metrolablaw01_WholeCounts.f (k : Nat) (a0 : ByteArray) (a1 : Int) (a2 : Int) : Option (Bool) := (ZP.metrolabref01_Few.f k a0).bind fun t101 => (if t101 = true then (if a1 ≤ 30 then (metrolablaw01_WholeCounts.j0 k a0 a1 a2 true) else (if a1 > 4096 then (metrolablaw01_WholeCounts.j0 k a0 a1 a2 true) else (if a0.toList = ([48] : List UInt8) then (metrolablaw01_WholeCounts.j0 k a0 a1 a2 true) else (if a0.toList = ([49] : List UInt8) then (metrolablaw01_WholeCounts.j0 k a0 a1 a2 true) else (metrolablaw01_WholeCounts.j0 k a0 a1 a2 (a0.toList == ([45, 49] : List UInt8))))))) else ((awake.f).bind fun t102 => (some t102)))
theorem metrolablaw01_WholeCounts.mono_l : ∀ k, (∀ y0 y1 y2 y3, LeO (metrolablaw01_WholeCounts.j0 k y0 y1 y2 y3) (metrolablaw01_WholeCounts.j0 (k + 1) y0 y1 y2 y3)) ∧ (∀ y0 y1, LeO (metrolablaw01_WholeCounts.j1 k y0 y1) (metrolablaw01_WholeCounts.j1 (k + 1) y0 y1)) ∧ (∀ y0 y1 y2, LeO (metrolablaw01_WholeCounts.j2 k y0 y1 y2) (metrolablaw01_WholeCounts.j2 (k + 1) y0 y1 y2))
  | 0 => ⟨fun _ _ _ _ r h => by simp [metrolablaw01_WholeCounts.j0] at h, fun _ _ r h => by simp [metrolablaw01_WholeCounts.j1] at h, fun _ _ _ r h => by simp [metrolablaw01_WholeCounts.j2] at h⟩
  | k + 1 => by
    obtain ⟨ih0, ih1, ih2⟩ := metrolablaw01_WholeCounts.mono_l k
    refine ⟨?_, ?_, ?_⟩
    · intro y0 y1 y2 y3
      unfold metrolablaw01_WholeCounts.j0
      repeat' first
      | (with_reducible exact ih0 _ _ _ _)
      | (with_reducible exact ih1 _ _)
      | (with_reducible exact ih2 _ _ _)
      | (with_reducible exact ZK.metrolabref01_Binomial.mono _ _ _)
      | (with_reducible exact ZK.metrolabref01_Pow.mono _ _ _)
      | (with_reducible exact ZP.metrolabref01_Few.mono _ _)
      | (with_reducible exact LeO.refl _)
      | (with_reducible exact LeO.none _)
      | (with_reducible refine LeO.ite ?_ ?_)
      | (with_reducible refine LeO.bind ?_ (fun _ => ?_))
      | exact ih0 _ _ _ _
      | exact ih1 _ _
      | exact ih2 _ _ _
      | exact ZK.metrolabref01_Binomial.mono _ _ _
      | exact ZK.metrolabref01_Pow.mono _ _ _
      | exact ZP.metrolabref01_Few.mono _ _
      | exact LeO.none _
      | refine LeO.ite ?_ ?_
      | refine LeO.bind ?_ (fun _ => ?_)
    · intro y0 y1
      unfold metrolablaw01_WholeCounts.j1
      repeat' first
      | (with_reducible exact ih0 _ _ _ _)
      | (with_reducible exact ih1 _ _)
      | (with_reducible exact ih2 _ _ _)
      | (with_reducible exact ZK.metrolabref01_Binomial.mono _ _ _)
      | (with_reducible exact ZK.metrolabref01_Pow.mono _ _ _)
      | (with_reducible exact ZP.metrolabref01_Few.mono _ _)
      | (with_reducible exact LeO.refl _)
      | (with_reducible exact LeO.none _)
      | (with_reducible refine LeO.ite ?_ ?_)
      | (with_reducible refine LeO.bind ?_ (fun _ => ?_))
      | exact ih0 _ _ _ _
      | exact ih1 _ _
      | exact ih2 _ _ _
      | exact ZK.metrolabref01_Binomial.mono _ _ _
      | exact ZK.metrolabref01_Pow.mono _ _ _
      | exact ZP.metrolabref01_Few.mono _ _
      | exact LeO.none _
      | refine LeO.ite ?_ ?_
      | refine LeO.bind ?_ (fun _ => ?_)
    · intro y0 y1 y2
      unfold metrolablaw01_WholeCounts.j2
      repeat' first
      | (with_reducible exact ih0 _ _ _ _)
      | (with_reducible exact ih1 _ _)
      | (with_reducible exact ih2 _ _ _)
      | (with_reducible exact ZK.metrolabref01_Binomial.mono _ _ _)
      | (with_reducible exact ZK.metrolabref01_Pow.mono _ _ _)
      | (with_reducible exact ZP.metrolabref01_Few.mono _ _)
      | (with_reducible exact LeO.refl _)
      | (with_reducible exact LeO.none _)
      | (with_reducible refine LeO.ite ?_ ?_)
      | (with_reducible refine LeO.bind ?_ (fun _ => ?_))
      | exact ih0 _ _ _ _
      | exact ih1 _ _
      | exact ih2 _ _ _
      | exact ZK.metrolabref01_Binomial.mono _ _ _
      | exact ZK.metrolabref01_Pow.mono _ _ _
      | exact ZP.metrolabref01_Few.mono _ _
      | exact LeO.none _
      | refine LeO.ite ?_ ?_
      | refine LeO.bind ?_ (fun _ => ?_)
theorem metrolablaw01_WholeCounts.mono : ∀ a0 a1 a2 k, LeO (metrolablaw01_WholeCounts.f k a0 a1 a2) (metrolablaw01_WholeCounts.f (k + 1) a0 a1 a2) := by
  intro a0 a1 a2 k
  obtain ⟨ih0, ih1, ih2⟩ := metrolablaw01_WholeCounts.mono_l k
  unfold metrolablaw01_WholeCounts.f
  repeat' first
      | (with_reducible exact ih0 _ _ _ _)
      | (with_reducible exact ih1 _ _)
      | (with_reducible exact ih2 _ _ _)
      | (with_reducible exact ZK.metrolabref01_Binomial.mono _ _ _)
      | (with_reducible exact ZK.metrolabref01_Pow.mono _ _ _)
      | (with_reducible exact ZP.metrolabref01_Few.mono _ _)
      | (with_reducible exact LeO.refl _)
      | (with_reducible exact LeO.none _)
      | (with_reducible refine LeO.ite ?_ ?_)
      | (with_reducible refine LeO.bind ?_ (fun _ => ?_))
      | exact ih0 _ _ _ _
      | exact ih1 _ _
      | exact ih2 _ _ _
      | exact ZK.metrolabref01_Binomial.mono _ _ _
      | exact ZK.metrolabref01_Pow.mono _ _ _
      | exact ZP.metrolabref01_Few.mono _ _
      | exact LeO.none _
      | refine LeO.ite ?_ ?_
      | refine LeO.bind ?_ (fun _ => ?_)
set_option maxHeartbeats 8000000 in
set_option maxRecDepth 100000 in
theorem metrolablaw01_WholeCounts.calls (k : Nat) (a0 : ByteArray) (a1 : Int) (a2 : Int) (r : Bool) (w : World) (h : metrolablaw01_WholeCounts.f k a0 a1 a2 = some r) (HE_ : Env w) :
    Calls Tryz.prog 4 #[.string a0, .int .i64 a1, .int .i64 a2] w fun e w' => e = .returned (.bool r) ∧ Below w.heap.size w w' := by
  have ENV0 := Aside0.mk HE_
  clear HE_
  have HB := Aside0.mk (Below.refl w.heap.size w)
  have H : ((ZP.metrolabref01_Few.f k a0).bind fun t101 => (if t101 = true then (if a1 ≤ 30 then (metrolablaw01_WholeCounts.j0 k a0 a1 a2 true) else (if a1 > 4096 then (metrolablaw01_WholeCounts.j0 k a0 a1 a2 true) else (if a0.toList = ([48] : List UInt8) then (metrolablaw01_WholeCounts.j0 k a0 a1 a2 true) else (if a0.toList = ([49] : List UInt8) then (metrolablaw01_WholeCounts.j0 k a0 a1 a2 true) else (metrolablaw01_WholeCounts.j0 k a0 a1 a2 (a0.toList == ([45, 49] : List UInt8))))))) else ((awake.f).bind fun t102 => (some t102)))) = some r := h
  clear h
  replace H := Option.bind_eq_some_iff.mp H
  obtain ⟨t101, A40, H⟩ := H
  replace H : (if t101 = true then (if a1 ≤ 30 then (metrolablaw01_WholeCounts.j0 k a0 a1 a2 true) else (if a1 > 4096 then (metrolablaw01_WholeCounts.j0 k a0 a1 a2 true) else (if a0.toList = ([48] : List UInt8) then (metrolablaw01_WholeCounts.j0 k a0 a1 a2 true) else (if a0.toList = ([49] : List UInt8) then (metrolablaw01_WholeCounts.j0 k a0 a1 a2 true) else (metrolablaw01_WholeCounts.j0 k a0 a1 a2 (a0.toList == ([45, 49] : List UInt8))))))) else ((awake.f).bind fun t102 => (some t102))) = some r := H
  have A4 := Aside0.mk A40
  clear A40
  by_cases c5 : t101 = true
  · subst c5
    have H1 : (if a1 ≤ 30 then (metrolablaw01_WholeCounts.j0 k a0 a1 a2 true) else (if a1 > 4096 then (metrolablaw01_WholeCounts.j0 k a0 a1 a2 true) else (if a0.toList = ([48] : List UInt8) then (metrolablaw01_WholeCounts.j0 k a0 a1 a2 true) else (if a0.toList = ([49] : List UInt8) then (metrolablaw01_WholeCounts.j0 k a0 a1 a2 true) else (metrolablaw01_WholeCounts.j0 k a0 a1 a2 (a0.toList == ([45, 49] : List UInt8))))))) = some r := by rw [if_pos rfl] at H; exact H
    clear H
    have H := H1
    clear H1
    have HC6 := Aside0.mk H
    clear H
    go_enter Tryz.func4, Tryz.ntmps4
    go_upto_region 3 with (first | ((with_reducible refine gate_callee (f := 8) rfl ?_); refine goesL_ (some 16) rfl rfl Tryz.func8 (by kernel_rfl) rfl #[.string a0] rfl (by (try simp only [List.map_toArray, List.map_cons, List.map_nil]); first | done | rfl | (simp only [List.length_drop, List.length_take]; rfl)) ?_; (with_reducible refine (ZP.metrolabref01_Few.calls k a0 true _ A4.out).mono ?_); rintro e w' ⟨rfl, ⟨nd, rfl⟩⟩; refine ⟨_, rfl, ?_⟩))
    (try simp only [Act.put, List.setIfInBounds_toArray, List.set_cons_zero, List.set_cons_succ])
    go_cut [36] (fun v36 wc => ∃ (kq : Nat) (x36_5 : Bool), v36 = .bool x36_5 ∧ Aside0 (metrolablaw01_WholeCounts.j0 kq a0 a1 a2 x36_5 = some r) ∧ Aside0 (kq ≤ k) ∧ Aside0 (Below w.heap.size w wc))
    case first =>
      have H := HC6.out
      clear HC6
      by_cases c7 : a1 ≤ 30
      · rw [if_pos c7] at H
        have c7b0 : decide (a1 ≤ 30) = true := decide_eq_true c7
        clear c7
        (first | rw [c7b0] | (simp only [i64_w, i32_w]; rw [c7b0]) | skip)
        have H' := Aside0.mk H
        clear H
        go_wp2
        go_meet
        case rel => exact ⟨_, (true), (by first | rfl | exact congrArg Value.bool (not_empty _) | exact congrArg Value.bool (is_empty _) | (simp; done) | (simp [*]; done)), H', ⟨by first | omega | exact Nat.le_refl _⟩, ⟨by repeat (first | (with_reducible first | exact HB.out | apply below_alloc | apply pw_below_drewN | apply below_drew1) | exact HB.out)⟩⟩
      · rw [if_neg c7] at H
        have c7b0 : decide (a1 ≤ 30) = false := decide_eq_false c7
        clear c7
        (first | rw [c7b0] | (simp only [i64_w, i32_w]; rw [c7b0]) | skip)
        by_cases c8 : a1 > 4096
        · rw [if_pos c8] at H
          have c8b0 : decide (4096 < a1) = true := decide_eq_true c8
          clear c8
          have H' := Aside0.mk H
          clear H
          go_wp2
          go_meet
          case rel => exact ⟨_, (true), (by first | rfl | exact congrArg Value.bool (not_empty _) | exact congrArg Value.bool (is_empty _) | (simp; done) | (simp [*]; done)), H', ⟨by first | omega | exact Nat.le_refl _⟩, ⟨by repeat (first | (with_reducible first | exact HB.out | apply below_alloc | apply pw_below_drewN | apply below_drew1) | exact HB.out)⟩⟩
        · rw [if_neg c8] at H
          have c8b0 : decide (4096 < a1) = false := decide_eq_false c8
          clear c8
          by_cases c9 : a0.toList = ([48] : List UInt8)
          · rw [if_pos c9] at H
            have c9b0 : (a0.toList == ([48] : List UInt8)) = true := beq_iff_eq.mpr c9
            have c9b1 : (a0.toList != ([48] : List UInt8)) = false := bne_eq_false_iff_eq.mpr c9
            clear c9
            have H' := Aside0.mk H
            clear H
            go_wp2
            go_meet
            case rel => exact ⟨_, (true), (by first | rfl | exact congrArg Value.bool (not_empty _) | exact congrArg Value.bool (is_empty _) | (simp; done) | (simp [*]; done)), H', ⟨by first | omega | exact Nat.le_refl _⟩, ⟨by repeat (first | (with_reducible first | exact HB.out | apply below_alloc | apply pw_below_drewN | apply below_drew1) | exact HB.out)⟩⟩
          · rw [if_neg c9] at H
            have c9b0 : (a0.toList == ([48] : List UInt8)) = false := beq_eq_false_iff_ne.mpr c9
            have c9b1 : (a0.toList != ([48] : List UInt8)) = true := bne_iff_ne.mpr c9
            by_cases c10 : a0.toList = ([49] : List UInt8)
            · rw [if_pos c10] at H
              have c10b0 : (a0.toList == ([49] : List UInt8)) = true := beq_iff_eq.mpr c10
              have c10b1 : (a0.toList != ([49] : List UInt8)) = false := bne_eq_false_iff_eq.mpr c10
              clear c10
              have H' := Aside0.mk H
              clear H
              go_wp2
              go_meet
              case rel => exact ⟨_, (true), (by first | rfl | exact congrArg Value.bool (not_empty _) | exact congrArg Value.bool (is_empty _) | (simp; done) | (simp [*]; done)), H', ⟨by first | omega | exact Nat.le_refl _⟩, ⟨by repeat (first | (with_reducible first | exact HB.out | apply below_alloc | apply pw_below_drewN | apply below_drew1) | exact HB.out)⟩⟩
            · rw [if_neg c10] at H
              have c10b0 : (a0.toList == ([49] : List UInt8)) = false := beq_eq_false_iff_ne.mpr c10
              have c10b1 : (a0.toList != ([49] : List UInt8)) = true := bne_iff_ne.mpr c10
              have H' := Aside0.mk H
              clear H
              go_wp2
              go_meet
              case rel => exact ⟨_, ((a0.toList == ([45, 49] : List UInt8))), (by first | rfl | exact congrArg Value.bool (not_empty _) | exact congrArg Value.bool (is_empty _) | (simp; done) | (simp [*]; done)), H', ⟨by first | omega | exact Nat.le_refl _⟩, ⟨by repeat (first | (with_reducible first | exact HB.out | apply below_alloc | apply pw_below_drewN | apply below_drew1) | exact HB.out)⟩⟩
    case rest =>
      clear HC6
      try clear c1
      try clear p2
      try clear c4
      try clear c5
      try clear c7
      try clear c7b0
      try clear c8
      try clear c8b0
      try clear c9
      try clear c9b0
      try clear c9b1
      try clear c10
      try clear c10b0
      try clear c10b1
      obtain ⟨kq, x36_5, rfl, HA, HJ5, HB⟩ := hcut
      cases kq with
      | zero => exact absurd HA.out (by simp [metrolablaw01_WholeCounts.j0])
      | succ kj5 =>
        have H := HA.out
        clear HA
        simp only [metrolablaw01_WholeCounts.j0] at H
        have HC11 := Aside0.mk H
        clear H
        go_upto_if 36 with (fail)
        go_cut [] (fun wc => ∃ (kq : Nat), Aside0 (metrolablaw01_WholeCounts.j1 kq a1 a2 = some r) ∧ Aside0 (kq ≤ kj5) ∧ Aside0 (Below w.heap.size w wc))
        case first =>
          have H := HC11.out
          clear HC11
          by_cases c12 : x36_5 = true
          · subst c12
            have H1 : ((whole_Pow.f a0 a1).bind fun bt103 => ((ZK.metrolabref01_Pow.f kj5 a0 a1).bind fun bt105 => (if bt103.1.toList = bt105.1.toList then (if bt103.2 = bt105.2 then (metrolablaw01_WholeCounts.j1 kj5 a1 a2) else (some false)) else (some false)))) = some r := by rw [if_pos rfl] at H; exact H
            clear H
            have H := H1
            clear H1
            replace H := Option.bind_eq_some_iff.mp H
            obtain ⟨⟨t103, t104⟩, A130, H⟩ := H
            replace H : ((ZK.metrolabref01_Pow.f kj5 a0 a1).bind fun bt105 => (if t103.toList = bt105.1.toList then (if t104 = bt105.2 then (metrolablaw01_WholeCounts.j1 kj5 a1 a2) else (some false)) else (some false))) = some r := H
            have A13 := Aside0.mk A130
            clear A130
            replace H := Option.bind_eq_some_iff.mp H
            obtain ⟨⟨t105, t106⟩, A140, H⟩ := H
            replace H : (if t103.toList = t105.toList then (if t104 = t106 then (metrolablaw01_WholeCounts.j1 kj5 a1 a2) else (some false)) else (some false)) = some r := H
            have A14 := Aside0.mk A140
            clear A140
            by_cases c15 : t103.toList = t105.toList
            · rw [if_pos c15] at H
              have c15b0 : (t103.toList == t105.toList) = true := beq_iff_eq.mpr c15
              have c15b1 : (t103.toList != t105.toList) = false := bne_eq_false_iff_eq.mpr c15
              clear c15
              (first | rw [c15b0] | (simp only [i64_w, i32_w]; rw [c15b0]) | skip)
              by_cases c16 : t104 = t106
              · rw [if_pos c16] at H
                have c16b0 : (t104 == t106) = true := beq_iff_eq.mpr c16
                have c16b1 : (t104 != t106) = false := bne_eq_false_iff_eq.mpr c16
                clear c16
                have H' := Aside0.mk H
                clear H
                go_wp2_with (first | ((with_reducible refine gate_callee (f := 17) rfl ?_); refine goesL_ (some 40) rfl rfl Tryz.func17 (by kernel_rfl) rfl #[.string a0, .int .i64 a1] rfl (by (try simp only [List.map_toArray, List.map_cons, List.map_nil]); first | done | rfl | (simp only [List.length_drop, List.length_take]; rfl)) ?_; (with_reducible refine (whole_Pow.calls a0 a1 t103 t104 _ A13.out (Env.below ENV0.out (by repeat (first | (with_reducible first | exact HB.out | apply below_alloc | apply pw_below_drewN | apply below_drew1) | exact HB.out)))).mono ?_); rintro e w17 ⟨rfl, hb⟩; refine ⟨_, rfl, ?_⟩; have n0_ := Aside0.mk (below_step (by repeat (first | (with_reducible first | exact HB.out | apply below_alloc | apply pw_below_drewN | apply below_drew1) | exact HB.out)) hb); clear HB; have HB := n0_; clear n0_; (try clear hb); (try clear hb2); (try clear hk); (try clear hi)) | ((with_reducible refine gate_callee (f := 18) rfl ?_); refine goesL_ (some 46) rfl rfl Tryz.func18 (by kernel_rfl) rfl #[.string a0, .int .i64 a1] rfl (by (try simp only [List.map_toArray, List.map_cons, List.map_nil]); first | done | rfl | (simp only [List.length_drop, List.length_take]; rfl)) ?_; (with_reducible refine (ZK.metrolabref01_Pow.calls kj5 a0 a1 t105 t106 _ A14.out).mono ?_); rintro e w18 ⟨rfl, hb⟩; refine ⟨_, rfl, ?_⟩; have n0_ := Aside0.mk (below_step (by repeat (first | (with_reducible first | exact HB.out | apply below_alloc | apply pw_below_drewN | apply below_drew1) | exact HB.out)) hb); clear HB; have HB := n0_; clear n0_; (try clear hb); (try clear hb2); (try clear hk); (try clear hi)))
                go_meet
                case rel => exact ⟨_, H', ⟨by have := HJ5.out; first | omega | exact Nat.le_refl _⟩, ⟨by repeat (first | (with_reducible first | exact HB.out | apply below_alloc | apply pw_below_drewN | apply below_drew1) | exact HB.out)⟩⟩
              · rw [if_neg c16] at H
                have c16b0 : (t104 == t106) = false := beq_eq_false_iff_ne.mpr c16
                have c16b1 : (t104 != t106) = true := bne_iff_ne.mpr c16
                obtain rfl := Option.some.inj H
                go_wp2_with (first | ((with_reducible refine gate_callee (f := 17) rfl ?_); refine goesL_ (some 40) rfl rfl Tryz.func17 (by kernel_rfl) rfl #[.string a0, .int .i64 a1] rfl (by (try simp only [List.map_toArray, List.map_cons, List.map_nil]); first | done | rfl | (simp only [List.length_drop, List.length_take]; rfl)) ?_; (with_reducible refine (whole_Pow.calls a0 a1 t103 t104 _ A13.out (Env.below ENV0.out (by repeat (first | (with_reducible first | exact HB.out | apply below_alloc | apply pw_below_drewN | apply below_drew1) | exact HB.out)))).mono ?_); rintro e w19 ⟨rfl, hb⟩; refine ⟨_, rfl, ?_⟩; have n0_ := Aside0.mk (below_step (by repeat (first | (with_reducible first | exact HB.out | apply below_alloc | apply pw_below_drewN | apply below_drew1) | exact HB.out)) hb); clear HB; have HB := n0_; clear n0_; (try clear hb); (try clear hb2); (try clear hk); (try clear hi)) | ((with_reducible refine gate_callee (f := 18) rfl ?_); refine goesL_ (some 46) rfl rfl Tryz.func18 (by kernel_rfl) rfl #[.string a0, .int .i64 a1] rfl (by (try simp only [List.map_toArray, List.map_cons, List.map_nil]); first | done | rfl | (simp only [List.length_drop, List.length_take]; rfl)) ?_; (with_reducible refine (ZK.metrolabref01_Pow.calls kj5 a0 a1 t105 t106 _ A14.out).mono ?_); rintro e w20 ⟨rfl, hb⟩; refine ⟨_, rfl, ?_⟩; have n0_ := Aside0.mk (below_step (by repeat (first | (with_reducible first | exact HB.out | apply below_alloc | apply pw_below_drewN | apply below_drew1) | exact HB.out)) hb); clear HB; have HB := n0_; clear n0_; (try clear hb); (try clear hb2); (try clear hk); (try clear hi)))
                go_ret
                exact ⟨by first | rfl | (simp [errW_none, errW_some] <;> rfl) | (simp [*, errW_none, errW_some] <;> rfl), by repeat (first | (with_reducible first | exact HB.out | apply below_alloc | apply pw_below_drewN | apply below_drew1) | exact HB.out)⟩
            · rw [if_neg c15] at H
              have c15b0 : (t103.toList == t105.toList) = false := beq_eq_false_iff_ne.mpr c15
              have c15b1 : (t103.toList != t105.toList) = true := bne_iff_ne.mpr c15
              (first | rw [c15b0] | (simp only [i64_w, i32_w]; rw [c15b0]) | skip)
              obtain rfl := Option.some.inj H
              go_wp2_with (first | ((with_reducible refine gate_callee (f := 17) rfl ?_); refine goesL_ (some 40) rfl rfl Tryz.func17 (by kernel_rfl) rfl #[.string a0, .int .i64 a1] rfl (by (try simp only [List.map_toArray, List.map_cons, List.map_nil]); first | done | rfl | (simp only [List.length_drop, List.length_take]; rfl)) ?_; (with_reducible refine (whole_Pow.calls a0 a1 t103 t104 _ A13.out (Env.below ENV0.out (by repeat (first | (with_reducible first | exact HB.out | apply below_alloc | apply pw_below_drewN | apply below_drew1) | exact HB.out)))).mono ?_); rintro e w21 ⟨rfl, hb⟩; refine ⟨_, rfl, ?_⟩; have n0_ := Aside0.mk (below_step (by repeat (first | (with_reducible first | exact HB.out | apply below_alloc | apply pw_below_drewN | apply below_drew1) | exact HB.out)) hb); clear HB; have HB := n0_; clear n0_; (try clear hb); (try clear hb2); (try clear hk); (try clear hi)) | ((with_reducible refine gate_callee (f := 18) rfl ?_); refine goesL_ (some 46) rfl rfl Tryz.func18 (by kernel_rfl) rfl #[.string a0, .int .i64 a1] rfl (by (try simp only [List.map_toArray, List.map_cons, List.map_nil]); first | done | rfl | (simp only [List.length_drop, List.length_take]; rfl)) ?_; (with_reducible refine (ZK.metrolabref01_Pow.calls kj5 a0 a1 t105 t106 _ A14.out).mono ?_); rintro e w22 ⟨rfl, hb⟩; refine ⟨_, rfl, ?_⟩; have n0_ := Aside0.mk (below_step (by repeat (first | (with_reducible first | exact HB.out | apply below_alloc | apply pw_below_drewN | apply below_drew1) | exact HB.out)) hb); clear HB; have HB := n0_; clear n0_; (try clear hb); (try clear hb2); (try clear hk); (try clear hi)))
              go_ret
              exact ⟨by first | rfl | (simp [errW_none, errW_some] <;> rfl) | (simp [*, errW_none, errW_some] <;> rfl), by repeat (first | (with_reducible first | exact HB.out | apply below_alloc | apply pw_below_drewN | apply below_drew1) | exact HB.out)⟩
          · replace c12 := Bool.eq_false_iff.mpr c12
            subst c12
            have H1 : (metrolablaw01_WholeCounts.j1 kj5 a1 a2) = some r := by rw [if_neg (show ¬ (false = true) by decide)] at H; exact H
            clear H
            have H := H1
            clear H1
            have H' := Aside0.mk H
            clear H
            go_wp2
            go_meet
            case rel => exact ⟨_, H', ⟨by have := HJ5.out; first | omega | exact Nat.le_refl _⟩, ⟨by repeat (first | (with_reducible first | exact HB.out | apply below_alloc | apply pw_below_drewN | apply below_drew1) | exact HB.out)⟩⟩
        case rest =>
          clear HC11
          try clear c1
          try clear p2
          try clear c4
          try clear c5
          try clear c7
          try clear c7b0
          try clear c8
          try clear c8b0
          try clear c9
          try clear c9b0
          try clear c9b1
          try clear c10
          try clear c10b0
          try clear c10b1
          try clear c12
          try clear c15
          try clear c15b0
          try clear c15b1
          try clear c16
          try clear c16b0
          try clear c16b1
          try clear c17
          try clear c18
          try clear p2
          obtain ⟨kq, HA, HJ10, HB⟩ := hcut
          cases kq with
          | zero => exact absurd HA.out (by simp [metrolablaw01_WholeCounts.j1])
          | succ kj10 =>
            have H := HA.out
            clear HA
            simp only [metrolablaw01_WholeCounts.j1] at H
            have HC23 := Aside0.mk H
            clear H
            go_upto_region 8 with (fail)
            go_cut [62] (fun v62 wc => ∃ (kq : Nat) (x62_22 : Bool), v62 = .bool x62_22 ∧ Aside0 (metrolablaw01_WholeCounts.j2 kq a1 a2 x62_22 = some r) ∧ Aside0 (kq ≤ kj10) ∧ Aside0 (Below w.heap.size w wc))
            case first =>
              have H := HC23.out
              clear HC23
              by_cases c24 : a1 > 40
              · rw [if_pos c24] at H
                have c24b0 : decide (40 < a1) = true := decide_eq_true c24
                clear c24
                (first | rw [c24b0] | (simp only [i64_w, i32_w]; rw [c24b0]) | skip)
                have H' := Aside0.mk H
                clear H
                go_wp2
                go_meet
                case rel => exact ⟨_, (decide (a1 ≤ 4096)), (by first | rfl | exact congrArg Value.bool (not_empty _) | exact congrArg Value.bool (is_empty _) | (simp; done) | (simp [*]; done)), H', ⟨by have := HJ5.out; have := HJ10.out; first | omega | exact Nat.le_refl _⟩, ⟨by repeat (first | (with_reducible first | exact HB.out | apply below_alloc | apply pw_below_drewN | apply below_drew1) | exact HB.out)⟩⟩
              · rw [if_neg c24] at H
                have c24b0 : decide (40 < a1) = false := decide_eq_false c24
                clear c24
                (first | rw [c24b0] | (simp only [i64_w, i32_w]; rw [c24b0]) | skip)
                have H' := Aside0.mk H
                clear H
                go_wp2
                go_meet
                case rel => exact ⟨_, (false), (by first | rfl | exact congrArg Value.bool (not_empty _) | exact congrArg Value.bool (is_empty _) | (simp; done) | (simp [*]; done)), H', ⟨by have := HJ5.out; have := HJ10.out; first | omega | exact Nat.le_refl _⟩, ⟨by repeat (first | (with_reducible first | exact HB.out | apply below_alloc | apply pw_below_drewN | apply below_drew1) | exact HB.out)⟩⟩
            case rest =>
              clear HC23
              try clear c1
              try clear c2
              try clear p2
              try clear c4
              try clear c5
              try clear c7
              try clear c7b0
              try clear c8
              try clear c8b0
              try clear c9
              try clear c9b0
              try clear c9b1
              try clear c10
              try clear c10b0
              try clear c10b1
              try clear c12
              try clear c15
              try clear c15b0
              try clear c15b1
              try clear c16
              try clear c16b0
              try clear c16b1
              try clear c17
              try clear c18
              try clear c24
              try clear c24b0
              try clear p2
              obtain ⟨kq, x62_22, rfl, HA, HJ22, HB⟩ := hcut
              cases kq with
              | zero => exact absurd HA.out (by simp [metrolablaw01_WholeCounts.j2])
              | succ kj22 =>
                have H := HA.out
                clear HA
                simp only [metrolablaw01_WholeCounts.j2] at H
                by_cases c25 : x62_22 = true
                · subst c25
                  have H1 : ((awake.f).bind fun t107 => (some t107)) = some r := by rw [if_pos rfl] at H; exact H
                  clear H
                  have H := H1
                  clear H1
                  replace H := Option.bind_eq_some_iff.mp H
                  obtain ⟨t107, A260, H⟩ := H
                  replace H : (some t107) = some r := H
                  have A26 := Aside0.mk A260
                  clear A260
                  obtain rfl := Option.some.inj H
                  go_wp2_with (first | ((with_reducible refine gate_callee (f := 9) rfl ?_); refine goesL_ (some 63) rfl rfl Tryz.func9 (by kernel_rfl) rfl #[] rfl (by (try simp only [List.map_toArray, List.map_cons, List.map_nil]); first | done | rfl | (simp only [List.length_drop, List.length_take]; rfl)) ?_; (with_reducible refine (awake.calls  t107 _ A26.out (Env.below ENV0.out (by repeat (first | (with_reducible first | exact HB.out | apply below_alloc | apply pw_below_drewN | apply below_drew1) | exact HB.out)))).mono ?_); rintro e w27 ⟨rfl, hb⟩; refine ⟨_, rfl, ?_⟩; have n0_ := Aside0.mk (below_step (by repeat (first | (with_reducible first | exact HB.out | apply below_alloc | apply pw_below_drewN | apply below_drew1) | exact HB.out)) hb); clear HB; have HB := n0_; clear n0_; (try clear hb); (try clear hb2); (try clear hk); (try clear hi)))
                  go_ret
                  exact ⟨by first | rfl | (simp [errW_none, errW_some] <;> rfl) | (simp [*, errW_none, errW_some] <;> rfl), by repeat (first | (with_reducible first | exact HB.out | apply below_alloc | apply pw_below_drewN | apply below_drew1) | exact HB.out)⟩
                · replace c25 := Bool.eq_false_iff.mpr c25
                  subst c25
                  have H1 : ((whole_Binomial.f a1 a2).bind fun bt108 => ((ZK.metrolabref01_Binomial.f kj22 a1 a2).bind fun bt110 => (if bt108.1.toList = bt110.1.toList then (if bt108.2 = bt110.2 then ((awake.f).bind fun t112 => (some t112)) else (some false)) else (some false)))) = some r := by rw [if_neg (show ¬ (false = true) by decide)] at H; exact H
                  clear H
                  have H := H1
                  clear H1
                  replace H := Option.bind_eq_some_iff.mp H
                  obtain ⟨⟨t108, t109⟩, A280, H⟩ := H
                  replace H : ((ZK.metrolabref01_Binomial.f kj22 a1 a2).bind fun bt110 => (if t108.toList = bt110.1.toList then (if t109 = bt110.2 then ((awake.f).bind fun t112 => (some t112)) else (some false)) else (some false))) = some r := H
                  have A28 := Aside0.mk A280
                  clear A280
                  replace H := Option.bind_eq_some_iff.mp H
                  obtain ⟨⟨t110, t111⟩, A290, H⟩ := H
                  replace H : (if t108.toList = t110.toList then (if t109 = t111 then ((awake.f).bind fun t112 => (some t112)) else (some false)) else (some false)) = some r := H
                  have A29 := Aside0.mk A290
                  clear A290
                  by_cases c30 : t108.toList = t110.toList
                  · rw [if_pos c30] at H
                    have c30b0 : (t108.toList == t110.toList) = true := beq_iff_eq.mpr c30
                    have c30b1 : (t108.toList != t110.toList) = false := bne_eq_false_iff_eq.mpr c30
                    clear c30
                    by_cases c31 : t109 = t111
                    · rw [if_pos c31] at H
                      have c31b0 : (t109 == t111) = true := beq_iff_eq.mpr c31
                      have c31b1 : (t109 != t111) = false := bne_eq_false_iff_eq.mpr c31
                      clear c31
                      replace H := Option.bind_eq_some_iff.mp H
                      obtain ⟨t112, A320, H⟩ := H
                      replace H : (some t112) = some r := H
                      have A32 := Aside0.mk A320
                      clear A320
                      obtain rfl := Option.some.inj H
                      go_wp2_with (first | ((with_reducible refine gate_callee (f := 19) rfl ?_); refine goesL_ (some 67) rfl rfl Tryz.func19 (by kernel_rfl) rfl #[.int .i64 a1, .int .i64 a2] rfl (by (try simp only [List.map_toArray, List.map_cons, List.map_nil]); first | done | rfl | (simp only [List.length_drop, List.length_take]; rfl)) ?_; (with_reducible refine (whole_Binomial.calls a1 a2 t108 t109 _ A28.out (Env.below ENV0.out (by repeat (first | (with_reducible first | exact HB.out | apply below_alloc | apply pw_below_drewN | apply below_drew1) | exact HB.out)))).mono ?_); rintro e w33 ⟨rfl, hb⟩; refine ⟨_, rfl, ?_⟩; have n0_ := Aside0.mk (below_step (by repeat (first | (with_reducible first | exact HB.out | apply below_alloc | apply pw_below_drewN | apply below_drew1) | exact HB.out)) hb); clear HB; have HB := n0_; clear n0_; (try clear hb); (try clear hb2); (try clear hk); (try clear hi)) | ((with_reducible refine gate_callee (f := 20) rfl ?_); refine goesL_ (some 73) rfl rfl Tryz.func20 (by kernel_rfl) rfl #[.int .i64 a1, .int .i64 a2] rfl (by (try simp only [List.map_toArray, List.map_cons, List.map_nil]); first | done | rfl | (simp only [List.length_drop, List.length_take]; rfl)) ?_; (with_reducible refine (ZK.metrolabref01_Binomial.calls kj22 a1 a2 t110 t111 _ A29.out).mono ?_); rintro e w34 ⟨rfl, hb⟩; refine ⟨_, rfl, ?_⟩; have n0_ := Aside0.mk (below_step (by repeat (first | (with_reducible first | exact HB.out | apply below_alloc | apply pw_below_drewN | apply below_drew1) | exact HB.out)) hb); clear HB; have HB := n0_; clear n0_; (try clear hb); (try clear hb2); (try clear hk); (try clear hi)) | (go_at_call 9; (with_reducible refine (awake.calls  t112 _ A32.out (Env.below ENV0.out (by repeat (first | (with_reducible first | exact HB.out | apply below_alloc | apply pw_below_drewN | apply below_drew1) | exact HB.out)))).mono ?_); rintro e w35 ⟨rfl, hb⟩; have n0_ := Aside0.mk (below_step (by repeat (first | (with_reducible first | exact HB.out | apply below_alloc | apply pw_below_drewN | apply below_drew1) | exact HB.out)) hb); clear HB; have HB := n0_; clear n0_; (try clear hb); (try clear hb2); (try clear hk); (try clear hi)))
                      go_ret
                      exact ⟨by first | rfl | (simp [errW_none, errW_some] <;> rfl) | (simp [*, errW_none, errW_some] <;> rfl), by repeat (first | (with_reducible first | exact HB.out | apply below_alloc | apply pw_below_drewN | apply below_drew1) | exact HB.out)⟩
                    · rw [if_neg c31] at H
                      have c31b0 : (t109 == t111) = false := beq_eq_false_iff_ne.mpr c31
                      have c31b1 : (t109 != t111) = true := bne_iff_ne.mpr c31
                      obtain rfl := Option.some.inj H
                      go_wp2_with (first | ((with_reducible refine gate_callee (f := 19) rfl ?_); refine goesL_ (some 67) rfl rfl Tryz.func19 (by kernel_rfl) rfl #[.int .i64 a1, .int .i64 a2] rfl (by (try simp only [List.map_toArray, List.map_cons, List.map_nil]); first | done | rfl | (simp only [List.length_drop, List.length_take]; rfl)) ?_; (with_reducible refine (whole_Binomial.calls a1 a2 t108 t109 _ A28.out (Env.below ENV0.out (by repeat (first | (with_reducible first | exact HB.out | apply below_alloc | apply pw_below_drewN | apply below_drew1) | exact HB.out)))).mono ?_); rintro e w36 ⟨rfl, hb⟩; refine ⟨_, rfl, ?_⟩; have n0_ := Aside0.mk (below_step (by repeat (first | (with_reducible first | exact HB.out | apply below_alloc | apply pw_below_drewN | apply below_drew1) | exact HB.out)) hb); clear HB; have HB := n0_; clear n0_; (try clear hb); (try clear hb2); (try clear hk); (try clear hi)) | ((with_reducible refine gate_callee (f := 20) rfl ?_); refine goesL_ (some 73) rfl rfl Tryz.func20 (by kernel_rfl) rfl #[.int .i64 a1, .int .i64 a2] rfl (by (try simp only [List.map_toArray, List.map_cons, List.map_nil]); first | done | rfl | (simp only [List.length_drop, List.length_take]; rfl)) ?_; (with_reducible refine (ZK.metrolabref01_Binomial.calls kj22 a1 a2 t110 t111 _ A29.out).mono ?_); rintro e w37 ⟨rfl, hb⟩; refine ⟨_, rfl, ?_⟩; have n0_ := Aside0.mk (below_step (by repeat (first | (with_reducible first | exact HB.out | apply below_alloc | apply pw_below_drewN | apply below_drew1) | exact HB.out)) hb); clear HB; have HB := n0_; clear n0_; (try clear hb); (try clear hb2); (try clear hk); (try clear hi)))
                      go_ret
                      exact ⟨by first | rfl | (simp [errW_none, errW_some] <;> rfl) | (simp [*, errW_none, errW_some] <;> rfl), by repeat (first | (with_reducible first | exact HB.out | apply below_alloc | apply pw_below_drewN | apply below_drew1) | exact HB.out)⟩
                  · rw [if_neg c30] at H
                    have c30b0 : (t108.toList == t110.toList) = false := beq_eq_false_iff_ne.mpr c30
                    have c30b1 : (t108.toList != t110.toList) = true := bne_iff_ne.mpr c30
                    obtain rfl := Option.some.inj H
                    go_wp2_with (first | ((with_reducible refine gate_callee (f := 19) rfl ?_); refine goesL_ (some 67) rfl rfl Tryz.func19 (by kernel_rfl) rfl #[.int .i64 a1, .int .i64 a2] rfl (by (try simp only [List.map_toArray, List.map_cons, List.map_nil]); first | done | rfl | (simp only [List.length_drop, List.length_take]; rfl)) ?_; (with_reducible refine (whole_Binomial.calls a1 a2 t108 t109 _ A28.out (Env.below ENV0.out (by repeat (first | (with_reducible first | exact HB.out | apply below_alloc | apply pw_below_drewN | apply below_drew1) | exact HB.out)))).mono ?_); rintro e w38 ⟨rfl, hb⟩; refine ⟨_, rfl, ?_⟩; have n0_ := Aside0.mk (below_step (by repeat (first | (with_reducible first | exact HB.out | apply below_alloc | apply pw_below_drewN | apply below_drew1) | exact HB.out)) hb); clear HB; have HB := n0_; clear n0_; (try clear hb); (try clear hb2); (try clear hk); (try clear hi)) | ((with_reducible refine gate_callee (f := 20) rfl ?_); refine goesL_ (some 73) rfl rfl Tryz.func20 (by kernel_rfl) rfl #[.int .i64 a1, .int .i64 a2] rfl (by (try simp only [List.map_toArray, List.map_cons, List.map_nil]); first | done | rfl | (simp only [List.length_drop, List.length_take]; rfl)) ?_; (with_reducible refine (ZK.metrolabref01_Binomial.calls kj22 a1 a2 t110 t111 _ A29.out).mono ?_); rintro e w39 ⟨rfl, hb⟩; refine ⟨_, rfl, ?_⟩; have n0_ := Aside0.mk (below_step (by repeat (first | (with_reducible first | exact HB.out | apply below_alloc | apply pw_below_drewN | apply below_drew1) | exact HB.out)) hb); clear HB; have HB := n0_; clear n0_; (try clear hb); (try clear hb2); (try clear hk); (try clear hi)))
                    go_ret
                    exact ⟨by first | rfl | (simp [errW_none, errW_some] <;> rfl) | (simp [*, errW_none, errW_some] <;> rfl), by repeat (first | (with_reducible first | exact HB.out | apply below_alloc | apply pw_below_drewN | apply below_drew1) | exact HB.out)⟩
  · replace c5 := Bool.eq_false_iff.mpr c5
    subst c5
    have H1 : ((awake.f).bind fun t102 => (some t102)) = some r := by rw [if_neg (show ¬ (false = true) by decide)] at H; exact H
    clear H
    have H := H1
    clear H1
    replace H := Option.bind_eq_some_iff.mp H
    obtain ⟨t102, A400, H⟩ := H
    replace H : (some t102) = some r := H
    have A40 := Aside0.mk A400
    clear A400
    obtain rfl := Option.some.inj H
    go_enter Tryz.func4, Tryz.ntmps4
    go_wp2_with (first | ((with_reducible refine gate_callee (f := 8) rfl ?_); refine goesL_ (some 16) rfl rfl Tryz.func8 (by kernel_rfl) rfl #[.string a0] rfl (by (try simp only [List.map_toArray, List.map_cons, List.map_nil]); first | done | rfl | (simp only [List.length_drop, List.length_take]; rfl)) ?_; (with_reducible refine (ZP.metrolabref01_Few.calls k a0 false _ A4.out).mono ?_); rintro e w' ⟨rfl, ⟨nd, rfl⟩⟩; refine ⟨_, rfl, ?_⟩) | ((with_reducible refine gate_callee (f := 9) rfl ?_); refine goesL_ (some 18) rfl rfl Tryz.func9 (by kernel_rfl) rfl #[] rfl (by (try simp only [List.map_toArray, List.map_cons, List.map_nil]); first | done | rfl | (simp only [List.length_drop, List.length_take]; rfl)) ?_; (with_reducible refine (awake.calls  t102 _ A40.out (Env.below ENV0.out (by repeat (first | (with_reducible first | exact HB.out | apply below_alloc | apply pw_below_drewN | apply below_drew1) | exact HB.out)))).mono ?_); rintro e w41 ⟨rfl, hb⟩; refine ⟨_, rfl, ?_⟩; have n0_ := Aside0.mk (below_step (by repeat (first | (with_reducible first | exact HB.out | apply below_alloc | apply pw_below_drewN | apply below_drew1) | exact HB.out)) hb); clear HB; have HB := n0_; clear n0_; (try clear hb); (try clear hb2); (try clear hk); (try clear hi)))
    go_ret
    exact ⟨by first | rfl | (simp [errW_none, errW_some] <;> rfl) | (simp [*, errW_none, errW_some] <;> rfl), by repeat (first | (with_reducible first | exact HB.out | apply below_alloc | apply pw_below_drewN | apply below_drew1) | exact HB.out)⟩
end Go.Proofs.YtpkfnclbcmnckaaGreatDoor.ZLC
set_option linter.unusedVariables false
namespace Go.Proofs.YtpkfnclbcmnckaaGreatDoor
open Go Go.RowKit Go.Proofs.YtpkfnclbcmnckaaGreatDoor.Dec Go.Proofs.YtpkfnclbcmnckaaGreatDoor.Mem Go.Proofs.YtpkfnclbcmnckaaGreatDoor.Wid Go.Proofs.YtpkfnclbcmnckaaGreatDoorW.PrintWords Go.Proofs.YtpkfnclbcmnckaaGreatDoorW.PrintMore
theorem counts_j2 (n x : Int) (c : Bool) (h : c = false → n ≤ 40 ∨ 4096 < n) : Ev (fun k => ZLC.metrolablaw01_WholeCounts.j2 k n x c) true := by
  cases c
  · have e1 : whole_Binomial.f n x = some (binS n x) := rfl
    have hb := rbinomial_is n x (h rfl)
    generalize binS n x = b at e1 hb
    refine Ev.step (f := fun k => (ZK.metrolabref01_Binomial.f k n x).bind fun bt110 => (if b.1.toList = bt110.1.toList then (if b.2 = bt110.2 then ((awake.f).bind fun t112 => (some t112)) else (some false)) else (some false))) (fun k => ?_) (Ev.bind hb (Ev.pos rfl (Ev.pos rfl (Ev.now _))))
    rw [ZLC.metrolablaw01_WholeCounts.j2, if_neg (show ¬ (false = true) by decide), e1]
    rfl
  · exact Ev.after 1 fun k => rfl
theorem counts_j1 (n x : Int) : Ev (fun k => ZLC.metrolablaw01_WholeCounts.j1 k n x) true := by
  by_cases h : n > 40
  · refine Ev.step (f := fun k => ZLC.metrolablaw01_WholeCounts.j2 k n x (decide (n ≤ 4096))) (fun k => ?_) (counts_j2 n x _ (fun hc => .inr (by have := of_decide_eq_false hc; omega)))
    rw [ZLC.metrolablaw01_WholeCounts.j1, if_pos h]
  · refine Ev.step (f := fun k => ZLC.metrolablaw01_WholeCounts.j2 k n x false) (fun k => ?_) (counts_j2 n x _ (fun hc => .inl (by omega)))
    rw [ZLC.metrolablaw01_WholeCounts.j1, if_neg h]
theorem counts_j0 (a : ByteArray) (ha : a.size ≤ 9223372036854775807) (n x : Int) (c : Bool) : Ev (fun k => ZLC.metrolablaw01_WholeCounts.j0 k a n x c) true := by
  cases c
  · refine Ev.step (f := fun k => ZLC.metrolablaw01_WholeCounts.j1 k n x) (fun k => ?_) (counts_j1 n x)
    rw [ZLC.metrolablaw01_WholeCounts.j0, if_neg (show ¬ (false = true) by decide)]
  · have e1 : whole_Pow.f a n = some (powS a n) := if_pos ha
    have hp := rpow_is a n ha
    generalize powS a n = b at e1 hp
    refine Ev.step (f := fun k => (ZK.metrolabref01_Pow.f k a n).bind fun bt105 => (if b.1.toList = bt105.1.toList then (if b.2 = bt105.2 then (ZLC.metrolablaw01_WholeCounts.j1 k n x) else (some false)) else (some false))) (fun k => ?_) (Ev.bind hp (Ev.pos rfl (Ev.pos rfl (counts_j1 n x))))
    rw [ZLC.metrolablaw01_WholeCounts.j0, if_pos (rfl : true = true), e1]
    rfl
theorem counts_pure (a : ByteArray) (n x : Int) (ha0 : a.size ≤ 140737488351232) (h0 : -9223372036854775808 ≤ n) (h1 : n ≤ 9223372036854775807) (h2 : -9223372036854775808 ≤ x) (h3 : x ≤ 9223372036854775807) : ∃ k, ZLC.metrolablaw01_WholeCounts.f k a n x = some true := by
  have ha : a.size ≤ 9223372036854775807 := Nat.le_trans ha0 (by decide)
  have h : Ev (fun k => ZLC.metrolablaw01_WholeCounts.f k a n x) true := by
    have hj := fun c => counts_j0 a ha n x c
    unfold ZLC.metrolablaw01_WholeCounts.f
    obtain ⟨t, ht, _⟩ := rfew_is a ha
    refine Ev.bind ht ?_
    cases t
    · exact Ev.neg (by decide) (Ev.now _)
    · refine Ev.pos rfl ?_
      by_cases c1 : n ≤ 30
      · exact Ev.pos c1 (hj _)
      · refine Ev.neg c1 ?_
        by_cases c2 : n > 4096
        · exact Ev.pos c2 (hj _)
        · refine Ev.neg c2 ?_
          by_cases c3 : a.toList = [48]
          · exact Ev.pos c3 (hj _)
          · refine Ev.neg c3 ?_
            by_cases c4 : a.toList = [49]
            · exact Ev.pos c4 (hj _)
            · exact Ev.neg c4 (hj _)
  obtain ⟨K, hK⟩ := h
  exact ⟨K, hK K (Nat.le_refl _)⟩
end Go.Proofs.YtpkfnclbcmnckaaGreatDoor
set_option linter.unusedVariables false
namespace Go.Proofs.YtpkfnclbcmnckaaGreatDoor
open Go Go.RowKit Go.ChangeShapes Go.WideShapes Go.ChangeAt
theorem own : ownKnob Tryz.prog.godebug = none := by kernel_rfl
theorem g_pow : Tryz.prog.globalNamed "internal/strconv.uint64pow10" = some 5 := by kernel_rfl
theorem gt_pow : (Tryz.prog.globals[5]?).map (·.type) = some 158 := by kernel_rfl
theorem g_err : Tryz.prog.globalNamed "strconv.ErrRange" = some 1 := by kernel_rfl
theorem gt_err : (Tryz.prog.globals[1]?).map (·.type) = some 81 := by kernel_rfl
theorem cells_u64 : Tryz.prog.cellsOf 132 = 1 := by kernel_rfl
theorem cells_pow : Tryz.prog.cellsOf 158 = 20 := by kernel_rfl
theorem cells_es : Tryz.prog.cellsOf 149 = 1 := by kernel_rfl
theorem cells_str : Tryz.prog.cellsOf 9 = 1 := by kernel_rfl
theorem row_es (u : TypeId) (h : Tryz.prog.typeName? 3 u = some "*errors.errorString") : u = 147 :=
  typeName_ptr_named (nm := "errors.errorString") (by kernel_rfl) (by kernel_rfl) (by decide) u h
def ErrsRange : List UInt8 := [118, 97, 108, 117, 101, 32, 111, 117, 116, 32, 111, 102, 32, 114, 97, 110, 103, 101]
theorem env_of_laid {W : World} {x0 x1 x3 : String × DataW Unit} {r : List (String × DataW Unit)}
    (h : laidMet Tryz.prog (x0 :: x1 :: ("internal/strconv.uint64pow10", Lib.tabData .u64 Lib.pow10Tab) :: x3 :: ("strconv.ErrRange", .iface "*errors.errorString" (.ptr (.agg [.lit (.string ErrsRange)]))) :: r) W) : Env W := by
  have h1 := h.tail.tail
  have h2 := h.tail.tail.tail.tail
  refine ⟨Lib.tabIs_of_head g_pow gt_pow Tryz.underlying158 Tryz.underlying132 cells_u64 cells_pow h1, ?_⟩
  obtain ⟨a0, s0, hv, _, _, _⟩ := laid_sentinel h2 g_err gt_err Tryz.underlying81 row_es Tryz.underlying147 Tryz.underlying149 rfl rfl Tryz.underlying9 cells_es cells_str
  exact ⟨_, World.var?_cell g_err hv 0, .inr ⟨_, _, rfl⟩⟩
end Go.Proofs.YtpkfnclbcmnckaaGreatDoor
namespace Go.Proofs.YtpkfnclbcmnckaaGreatDoor.wholeCounts
open Go.ChangeShapes Go.WideShapes Go.ChangeAt Go.RowKit
open Go.ChangeMaps (open_string shut_string)
open Go.Proofs.YtpkfnclbcmnckaaGreatDoorW.PrintWords
set_option linter.unusedVariables false
set_option maxRecDepth 100000 in
theorem lifted (os : Os) (started : os.Started) (H : Type) (enc : TypeId × Value → H) :
    ReturnsInHanded {} Tryz.checked os 4 .any (fun w args => (Rows.wholeCountsSpec.pre enc Tryz.prog Tryz.f4 [] false w args ∧ laidMetH Tryz.prog Rows.wholeCountsRow.laid w) ∧ sizedMet enc Tryz.prog Tryz.f4 (OpenSpec.ofChange Rows.wholeCountsSpec) false w args)
      (Rows.wholeCountsSpec.post enc Tryz.prog Tryz.f4 false true false false) := by
  refine returnsInHanded_of_change_and (C := Tryz.checked) (X := fun w _ => laidMetH Tryz.prog Rows.wholeCountsRow.laid w) (fun _ _ _ hh h => h.of_heap hh) own started (by kernel_rfl) Tryz.func4
    (ChangeSpec.witness_shaped (enc := enc) (C := Tryz.checked) (os := os) (X := fun w _ => laidMetH Tryz.prog Rows.wholeCountsRow.laid w) false (World.laidAll Tryz.prog os Rows.wholeCountsRow.laid) #[.string ByteArray.empty, .int .i64 0, .int .i64 0] 8 (World.laidAll_os _ _ _)
      (World.shaped_of_ZipB (by kernel_rfl) (by kernel_rfl)) (by kernel_rfl) (by kernel_rfl) (by kernel_rfl)
      (by rw [MakeChecks.laidMetH_plain _ _ _ (by kernel_rfl)]; exact laidMet_laidAll _ (by kernel_rfl) (by kernel_rfl))) ?_
  intro W base args ds gs before hval0 hW hcnd hsz0 hL _
  rw [MakeChecks.laidMetH_plain _ _ _ (by kernel_rfl)] at hL
  have HE : Env W := env_of_laid hL
  have hsz : (DataW.weightsEach Tryz.prog (Tryz.f4.params.toList ++ Rows.wholeCountsSpec.plain.varTypes Tryz.prog) (ds ++ gs)).all (· ≤ reachBytes) = true := hsz0
  have hval : ∀ (j : Nat) t v, Tryz.f4.params[j]? = some t → args[j]? = some v → Value.okWide Tryz.prog W .any base t v := hval0
  have hW' := hW
  obtain ⟨p, q, hA0, hV, rfl, hfz, hnd⟩ := hW
  have hA : DataW.TrodAll enc Tryz.prog W 0 (fun _ => true) true Tryz.f4.params.toList args.toList ds p := hA0
  rw [Tryz.params4] at hA hval hsz
  obtain ⟨v0, vs0, d0, ds0, p0, q0, hargs, rfl, rfl, h0, r0⟩ := trodAll_cons hA
  obtain ⟨v1, vs1, d1, ds1, p1, q1, rfl, rfl, rfl, h1, r1⟩ := trodAll_cons r0
  obtain ⟨v2, vs2, d2, ds2, p2, q2, rfl, rfl, rfl, h2, r2⟩ := trodAll_cons r1
  obtain ⟨rfl, rfl, rfl⟩ := trodAll_nil r2
  obtain rfl : args = #[v0, v1, v2] := by cases args; simp_all
  obtain ⟨rfl, rfl⟩ := trodVars_none hV
  obtain ⟨a0, rfl, rfl, rfl, y0⟩ := open_string Tryz.underlying22 (hval 0 22 v0 rfl rfl) h0
  have w0 : a0.size ≤ 140737488351232 := by
    have z := sized_string hsz (j := 0) (t := 22) rfl rfl
    rw [Array.length_toList] at z
    exact z
  obtain ⟨a1, rfl, rfl, rfl, w1⟩ := open_int Tryz.underlying3 (hval 1 3 v1 rfl rfl) h1
  have b1 : -9223372036854775808 ≤ a1 ∧ a1 ≤ 9223372036854775807 := by simpa [Lit.wf, IntKind.min, IntKind.max, IntKind.signed, IntKind.bits] using w1
  obtain ⟨a2, rfl, rfl, rfl, w2⟩ := open_int Tryz.underlying3 (hval 2 3 v2 rfl rfl) h2
  have b2 : -9223372036854775808 ≤ a2 ∧ a2 ≤ 9223372036854775807 := by simpa [Lit.wf, IntKind.min, IntKind.max, IntKind.signed, IntKind.bits] using w2
  clear hA0 hval0 hsz0 hsz
  obtain ⟨k, hk⟩ := counts_pure a0 a1 a2 w0 b1.1 b1.2 b2.1 b2.2
  refine (ZLC.metrolablaw01_WholeCounts.calls k a0 a1 a2 true W hk HE).mono fun e W' ⟨he, bel⟩ => ?_
  subst he
  exact ⟨_, rfl, _, _, _, [], _, [], hW', trodAll_mk1 (shut_bool Tryz.underlying4 _), (trodAll_cons_mk (shut_string Tryz.underlying22 y0) (trodAll_cons_mk (shut_int Tryz.underlying3 w1) (trodAll_cons_mk (shut_int Tryz.underlying3 w2) trodAll_mk0))), rfl, bel.frame _, fun h => by cases h⟩
theorem said : Rows.WholeCountsSaid :=
  OpenClaim.holds_of_wide 4 Tryz.f4 rfl rfl rfl rfl rfl rfl rfl ⟨rfl, rfl, rfl, rfl, rfl⟩ rfl rfl rfl rfl rfl (by kernel_rfl) Tryz.func4 (by kernel_rfl)
    (of_decide_eq_true (by kernel_rfl)) (by unfold Func.isWrapper; first | (rw [if_pos (by decide +kernel)]; kernel_rfl) | (rw [if_neg (by decide +kernel)]; exact ⟨rfl, rfl⟩))
    (fun os started H enc _ => lifted os started H enc)
theorem plain (f : FuncId) (fn : Func) (hf : Tryz.pinned.checked.prog.funcNamed "metrolab/metrolablaw01.WholeCounts" = some f) (hfn : Tryz.pinned.checked.prog.funcs[f]? = some fn) :
    true = Tryz.pinned.checked.prog.looks [] ∧ ∀ (j : Nat) t, fn.params[j]? = some t → Tryz.pinned.checked.prog.wantsStandIn t = false := by
  obtain rfl : f = 4 := Option.some.inj ((show Tryz.prog.funcNamed "metrolab/metrolablaw01.WholeCounts" = some 4 by kernel_rfl).symm.trans hf) |>.symm
  obtain rfl : fn = Tryz.f4 := (Option.some.inj (Tryz.func4.symm.trans hfn)).symm
  refine ⟨by kernel_rfl, fun j t ht => ?_⟩
  rw [Tryz.params4] at ht
  have hm : t ∈ [22, 3, 3] := by simpa using Array.mem_of_getElem? ht
  have hall : ([22, 3, 3].all fun u => !Tryz.prog.wantsStandIn u) = true := by kernel_rfl
  exact (show Tryz.prog.wantsStandIn t = false by simpa using List.all_eq_true.1 hall t hm)
theorem card : Rows.WholeCountsCardSaid :=
  Claim7.holds_tied_plain_at .later [] _ _ _ _ said (fun _ h => by cases h) (by kernel_rfl) (fun _ h => by cases h) wholeCounts_row_tie rfl ⟨rfl, rfl⟩ (by kernel_rfl) rfl plain (by kernel_rfl)
end Go.Proofs.YtpkfnclbcmnckaaGreatDoor.wholeCounts
namespace Go.Proofs.YtpkfnclbcmnckaaGreatDoor
/-- The card, under a short name. -/
theorem wholeCounts_holds : Rows.WholeCountsCardSaid := wholeCounts.card
end Go.Proofs.YtpkfnclbcmnckaaGreatDoor
