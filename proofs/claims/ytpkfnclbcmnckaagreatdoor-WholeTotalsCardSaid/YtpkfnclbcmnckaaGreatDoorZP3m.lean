import Derived.Test.YtpkfnclbcmnckaaGreatDoorZP1m
import Derived.Test.YtpkfnclbcmnckaaGreatDoorZP2m
-- written by the session's px.py out of the translation; Lean checks it.
namespace Go.Proofs.YtpkfnclbcmnckaaGreatDoor.ZP
open Go.RowKit Go.Proofs.YtpkfnclbcmnckaaGreatDoorW.PrintWords Go.Proofs.YtpkfnclbcmnckaaGreatDoorW.PrintLast Go.Proofs.YtpkfnclbcmnckaaGreatDoorW.PrintMore
attribute [local go_sem] max2_int min2_int max_two min_two max_three min_three max_four min_four   -- for this text's walks alone
set_option linter.unusedVariables false
set_option linter.unusedSimpArgs false

/-! ### metrolabref01_Plus: function 65 -/
def metrolabref01_Plus.f (k : Nat) (a0 : ByteArray) (a1 : ByteArray) : Option (ByteArray) := (metrolabref01_brief.f k a0 a1).bind fun bt130 => (if bt130.2.2 = true then ((metrolabref01_Of.f k (wrap64 (bt130.1 + bt130.2.1))).bind fun t133 => (some t133)) else ((metrolabref01_size.f a0).bind fun t134 => ((metrolabref01_size.f a1).bind fun t135 => ((metrolabref01_Below.f a0).bind fun t136 => ((metrolabref01_Below.f a1).bind fun t137 => (if (t136 == t137) = true then ((metrolabref01_paper.f k t134 t135 true).bind fun t138 => ((metrolabref01_Below.f a0).bind fun t139 => ((metrolabref01_signed.f t138 t139).bind fun t140 => (some t140)))) else ((metrolabref01_less.f t134 t135).bind fun t141 => (if t141 = true then ((metrolabref01_paper.f k t135 t134 false).bind fun t142 => ((metrolabref01_Below.f a1).bind fun t143 => ((metrolabref01_signed.f t142 t143).bind fun t144 => (some t144)))) else ((metrolabref01_paper.f k t134 t135 false).bind fun t145 => ((metrolabref01_Below.f a0).bind fun t146 => ((metrolabref01_signed.f t145 t146).bind fun t147 => (some t147))))))))))))
theorem metrolabref01_Plus.mono : ∀ a0 a1 k, LeO (metrolabref01_Plus.f k a0 a1) (metrolabref01_Plus.f (k + 1) a0 a1) := by
  intro a0 a1 k
  unfold metrolabref01_Plus.f
  repeat' first
      | (with_reducible exact metrolabref01_Of.mono _ _)
      | (with_reducible exact metrolabref01_brief.mono _ _ _)
      | (with_reducible exact metrolabref01_paper.mono _ _ _ _)
      | (with_reducible exact LeO.refl _)
      | (with_reducible exact LeO.none _)
      | (with_reducible refine LeO.ite ?_ ?_)
      | (with_reducible refine LeO.bind ?_ (fun _ => ?_))
      | exact metrolabref01_Of.mono _ _
      | exact metrolabref01_brief.mono _ _ _
      | exact metrolabref01_paper.mono _ _ _ _
      | exact LeO.none _
      | refine LeO.ite ?_ ?_
      | refine LeO.bind ?_ (fun _ => ?_)
set_option maxHeartbeats 8000000 in
set_option maxRecDepth 100000 in
theorem metrolabref01_Plus.calls (k : Nat) (a0 : ByteArray) (a1 : ByteArray) (r : ByteArray) (w : World) (h : metrolabref01_Plus.f k a0 a1 = some r) :
    Calls Tryz.prog 65 #[.string a0, .string a1] w fun e w' => e = .returned (.string r) ∧ Below w.heap.size w w' := by
  have HB := Aside0.mk (Below.refl w.heap.size w)
  have H : ((metrolabref01_brief.f k a0 a1).bind fun bt130 => (if bt130.2.2 = true then ((metrolabref01_Of.f k (wrap64 (bt130.1 + bt130.2.1))).bind fun t133 => (some t133)) else ((metrolabref01_size.f a0).bind fun t134 => ((metrolabref01_size.f a1).bind fun t135 => ((metrolabref01_Below.f a0).bind fun t136 => ((metrolabref01_Below.f a1).bind fun t137 => (if (t136 == t137) = true then ((metrolabref01_paper.f k t134 t135 true).bind fun t138 => ((metrolabref01_Below.f a0).bind fun t139 => ((metrolabref01_signed.f t138 t139).bind fun t140 => (some t140)))) else ((metrolabref01_less.f t134 t135).bind fun t141 => (if t141 = true then ((metrolabref01_paper.f k t135 t134 false).bind fun t142 => ((metrolabref01_Below.f a1).bind fun t143 => ((metrolabref01_signed.f t142 t143).bind fun t144 => (some t144)))) else ((metrolabref01_paper.f k t134 t135 false).bind fun t145 => ((metrolabref01_Below.f a0).bind fun t146 => ((metrolabref01_signed.f t145 t146).bind fun t147 => (some t147))))))))))))) = some r := h
  clear h
  replace H := Option.bind_eq_some_iff.mp H
  obtain ⟨⟨t130, t131, t132⟩, A30, H⟩ := H
  replace H : (if t132 = true then ((metrolabref01_Of.f k (wrap64 (t130 + t131))).bind fun t133 => (some t133)) else ((metrolabref01_size.f a0).bind fun t134 => ((metrolabref01_size.f a1).bind fun t135 => ((metrolabref01_Below.f a0).bind fun t136 => ((metrolabref01_Below.f a1).bind fun t137 => (if (t136 == t137) = true then ((metrolabref01_paper.f k t134 t135 true).bind fun t138 => ((metrolabref01_Below.f a0).bind fun t139 => ((metrolabref01_signed.f t138 t139).bind fun t140 => (some t140)))) else ((metrolabref01_less.f t134 t135).bind fun t141 => (if t141 = true then ((metrolabref01_paper.f k t135 t134 false).bind fun t142 => ((metrolabref01_Below.f a1).bind fun t143 => ((metrolabref01_signed.f t142 t143).bind fun t144 => (some t144)))) else ((metrolabref01_paper.f k t134 t135 false).bind fun t145 => ((metrolabref01_Below.f a0).bind fun t146 => ((metrolabref01_signed.f t145 t146).bind fun t147 => (some t147)))))))))))) = some r := H
  have A3 := Aside0.mk A30
  clear A30
  by_cases c4 : t132 = true
  · subst c4
    have H1 : ((metrolabref01_Of.f k (wrap64 (t130 + t131))).bind fun t133 => (some t133)) = some r := by rw [if_pos rfl] at H; exact H
    clear H
    have H := H1
    clear H1
    replace H := Option.bind_eq_some_iff.mp H
    obtain ⟨t133, A50, H⟩ := H
    replace H : (some t133) = some r := H
    have A5 := Aside0.mk A50
    clear A50
    obtain rfl := Option.some.inj H
    go_enter Tryz.func65, Tryz.ntmps65
    go_wp2_with (first | ((with_reducible refine gate_callee (f := 71) rfl ?_); refine goesL_ (some 13) rfl rfl Tryz.func71 (by kernel_rfl) rfl #[.string a0, .string a1] rfl (by (try simp only [List.map_toArray, List.map_cons, List.map_nil]); first | done | rfl | (simp only [List.length_drop, List.length_take]; rfl)) ?_; (with_reducible refine (metrolabref01_brief.calls k a0 a1 t130 t131 true _ A3.out).mono ?_); rintro e w' ⟨rfl, ⟨nd, rfl⟩⟩; refine ⟨_, rfl, ?_⟩) | ((with_reducible refine gate_callee (f := 31) rfl ?_); refine goesL_ (some 21) rfl rfl Tryz.func31 (by kernel_rfl) rfl #[.int .i64 (wrap64 (t130 + t131))] rfl (by (try simp only [List.map_toArray, List.map_cons, List.map_nil]); first | done | rfl | (simp only [List.length_drop, List.length_take]; rfl)) ?_; (with_reducible refine (metrolabref01_Of.calls k (wrap64 (t130 + t131)) t133 _ A5.out).mono ?_); rintro e w6 ⟨rfl, hb⟩; refine ⟨_, rfl, ?_⟩; have n0_ := Aside0.mk (below_step (by repeat (first | (with_reducible first | exact HB.out | apply below_alloc | apply pw_below_drewN | apply below_drew1) | exact HB.out)) hb); clear HB; have HB := n0_; clear n0_; (try clear hb); (try clear hb2); (try clear hk); (try clear hi)))
    go_ret
    exact ⟨by first | rfl | (simp [errW_none, errW_some] <;> rfl) | (simp [*, errW_none, errW_some] <;> rfl), by repeat (first | (with_reducible first | exact HB.out | apply below_alloc | apply pw_below_drewN | apply below_drew1) | exact HB.out)⟩
  · replace c4 := Bool.eq_false_iff.mpr c4
    subst c4
    have H1 : ((metrolabref01_size.f a0).bind fun t134 => ((metrolabref01_size.f a1).bind fun t135 => ((metrolabref01_Below.f a0).bind fun t136 => ((metrolabref01_Below.f a1).bind fun t137 => (if (t136 == t137) = true then ((metrolabref01_paper.f k t134 t135 true).bind fun t138 => ((metrolabref01_Below.f a0).bind fun t139 => ((metrolabref01_signed.f t138 t139).bind fun t140 => (some t140)))) else ((metrolabref01_less.f t134 t135).bind fun t141 => (if t141 = true then ((metrolabref01_paper.f k t135 t134 false).bind fun t142 => ((metrolabref01_Below.f a1).bind fun t143 => ((metrolabref01_signed.f t142 t143).bind fun t144 => (some t144)))) else ((metrolabref01_paper.f k t134 t135 false).bind fun t145 => ((metrolabref01_Below.f a0).bind fun t146 => ((metrolabref01_signed.f t145 t146).bind fun t147 => (some t147))))))))))) = some r := by rw [if_neg (show ¬ (false = true) by decide)] at H; exact H
    clear H
    have H := H1
    clear H1
    replace H := Option.bind_eq_some_iff.mp H
    obtain ⟨t134, A70, H⟩ := H
    replace H : ((metrolabref01_size.f a1).bind fun t135 => ((metrolabref01_Below.f a0).bind fun t136 => ((metrolabref01_Below.f a1).bind fun t137 => (if (t136 == t137) = true then ((metrolabref01_paper.f k t134 t135 true).bind fun t138 => ((metrolabref01_Below.f a0).bind fun t139 => ((metrolabref01_signed.f t138 t139).bind fun t140 => (some t140)))) else ((metrolabref01_less.f t134 t135).bind fun t141 => (if t141 = true then ((metrolabref01_paper.f k t135 t134 false).bind fun t142 => ((metrolabref01_Below.f a1).bind fun t143 => ((metrolabref01_signed.f t142 t143).bind fun t144 => (some t144)))) else ((metrolabref01_paper.f k t134 t135 false).bind fun t145 => ((metrolabref01_Below.f a0).bind fun t146 => ((metrolabref01_signed.f t145 t146).bind fun t147 => (some t147)))))))))) = some r := H
    have A7 := Aside0.mk A70
    clear A70
    replace H := Option.bind_eq_some_iff.mp H
    obtain ⟨t135, A80, H⟩ := H
    replace H : ((metrolabref01_Below.f a0).bind fun t136 => ((metrolabref01_Below.f a1).bind fun t137 => (if (t136 == t137) = true then ((metrolabref01_paper.f k t134 t135 true).bind fun t138 => ((metrolabref01_Below.f a0).bind fun t139 => ((metrolabref01_signed.f t138 t139).bind fun t140 => (some t140)))) else ((metrolabref01_less.f t134 t135).bind fun t141 => (if t141 = true then ((metrolabref01_paper.f k t135 t134 false).bind fun t142 => ((metrolabref01_Below.f a1).bind fun t143 => ((metrolabref01_signed.f t142 t143).bind fun t144 => (some t144)))) else ((metrolabref01_paper.f k t134 t135 false).bind fun t145 => ((metrolabref01_Below.f a0).bind fun t146 => ((metrolabref01_signed.f t145 t146).bind fun t147 => (some t147))))))))) = some r := H
    have A8 := Aside0.mk A80
    clear A80
    replace H := Option.bind_eq_some_iff.mp H
    obtain ⟨t136, A90, H⟩ := H
    replace H : ((metrolabref01_Below.f a1).bind fun t137 => (if (t136 == t137) = true then ((metrolabref01_paper.f k t134 t135 true).bind fun t138 => ((metrolabref01_Below.f a0).bind fun t139 => ((metrolabref01_signed.f t138 t139).bind fun t140 => (some t140)))) else ((metrolabref01_less.f t134 t135).bind fun t141 => (if t141 = true then ((metrolabref01_paper.f k t135 t134 false).bind fun t142 => ((metrolabref01_Below.f a1).bind fun t143 => ((metrolabref01_signed.f t142 t143).bind fun t144 => (some t144)))) else ((metrolabref01_paper.f k t134 t135 false).bind fun t145 => ((metrolabref01_Below.f a0).bind fun t146 => ((metrolabref01_signed.f t145 t146).bind fun t147 => (some t147)))))))) = some r := H
    have A9 := Aside0.mk A90
    clear A90
    replace H := Option.bind_eq_some_iff.mp H
    obtain ⟨t137, A100, H⟩ := H
    replace H : (if (t136 == t137) = true then ((metrolabref01_paper.f k t134 t135 true).bind fun t138 => ((metrolabref01_Below.f a0).bind fun t139 => ((metrolabref01_signed.f t138 t139).bind fun t140 => (some t140)))) else ((metrolabref01_less.f t134 t135).bind fun t141 => (if t141 = true then ((metrolabref01_paper.f k t135 t134 false).bind fun t142 => ((metrolabref01_Below.f a1).bind fun t143 => ((metrolabref01_signed.f t142 t143).bind fun t144 => (some t144)))) else ((metrolabref01_paper.f k t134 t135 false).bind fun t145 => ((metrolabref01_Below.f a0).bind fun t146 => ((metrolabref01_signed.f t145 t146).bind fun t147 => (some t147))))))) = some r := H
    have A10 := Aside0.mk A100
    clear A100
    by_cases c11 : (t136 == t137) = true
    · rw [if_pos c11] at H
      have c11b0 : (t136 == t137) = true := c11
      (try (have c11b1 : decide (t136 = t137) = true := by simpa using c11))
      (try (have c11b2 : (t136 == t137) = true := by simpa using c11))
      clear c11
      replace H := Option.bind_eq_some_iff.mp H
      obtain ⟨t138, A120, H⟩ := H
      replace H : ((metrolabref01_Below.f a0).bind fun t139 => ((metrolabref01_signed.f t138 t139).bind fun t140 => (some t140))) = some r := H
      have A12 := Aside0.mk A120
      clear A120
      replace H := Option.bind_eq_some_iff.mp H
      obtain ⟨t139, A130, H⟩ := H
      replace H : ((metrolabref01_signed.f t138 t139).bind fun t140 => (some t140)) = some r := H
      have A13 := Aside0.mk A130
      clear A130
      replace H := Option.bind_eq_some_iff.mp H
      obtain ⟨t140, A140, H⟩ := H
      replace H : (some t140) = some r := H
      have A14 := Aside0.mk A140
      clear A140
      obtain rfl := Option.some.inj H
      go_enter Tryz.func65, Tryz.ntmps65
      go_wp2_with (first | ((with_reducible refine gate_callee (f := 71) rfl ?_); refine goesL_ (some 13) rfl rfl Tryz.func71 (by kernel_rfl) rfl #[.string a0, .string a1] rfl (by (try simp only [List.map_toArray, List.map_cons, List.map_nil]); first | done | rfl | (simp only [List.length_drop, List.length_take]; rfl)) ?_; (with_reducible refine (metrolabref01_brief.calls k a0 a1 t130 t131 false _ A3.out).mono ?_); rintro e w' ⟨rfl, ⟨nd, rfl⟩⟩; refine ⟨_, rfl, ?_⟩) | ((with_reducible refine gate_callee (f := 58) rfl ?_); refine goesL_ (some 23) rfl rfl Tryz.func58 (by kernel_rfl) rfl #[.string a0] rfl (by (try simp only [List.map_toArray, List.map_cons, List.map_nil]); first | done | rfl | (simp only [List.length_drop, List.length_take]; rfl)) ?_; (with_reducible refine (metrolabref01_size.calls a0 t134 _ A7.out).mono ?_); rintro e w' ⟨rfl, ⟨nd, rfl⟩⟩; refine ⟨_, rfl, ?_⟩) | ((with_reducible refine gate_callee (f := 58) rfl ?_); refine goesL_ (some 25) rfl rfl Tryz.func58 (by kernel_rfl) rfl #[.string a1] rfl (by (try simp only [List.map_toArray, List.map_cons, List.map_nil]); first | done | rfl | (simp only [List.length_drop, List.length_take]; rfl)) ?_; (with_reducible refine (metrolabref01_size.calls a1 t135 _ A8.out).mono ?_); rintro e w' ⟨rfl, ⟨nd, rfl⟩⟩; refine ⟨_, rfl, ?_⟩) | ((with_reducible refine gate_callee (f := 59) rfl ?_); refine goesL_ (some 27) rfl rfl Tryz.func59 (by kernel_rfl) rfl #[.string a0] rfl (by (try simp only [List.map_toArray, List.map_cons, List.map_nil]); first | done | rfl | (simp only [List.length_drop, List.length_take]; rfl)) ?_; (with_reducible refine (metrolabref01_Below.calls a0 t136 _ A9.out).mono ?_); rintro e w' ⟨rfl, ⟨nd, rfl⟩⟩; refine ⟨_, rfl, ?_⟩) | ((with_reducible refine gate_callee (f := 59) rfl ?_); refine goesL_ (some 29) rfl rfl Tryz.func59 (by kernel_rfl) rfl #[.string a1] rfl (by (try simp only [List.map_toArray, List.map_cons, List.map_nil]); first | done | rfl | (simp only [List.length_drop, List.length_take]; rfl)) ?_; (with_reducible refine (metrolabref01_Below.calls a1 t137 _ A10.out).mono ?_); rintro e w' ⟨rfl, ⟨nd, rfl⟩⟩; refine ⟨_, rfl, ?_⟩) | ((with_reducible refine gate_callee (f := 92) rfl ?_); refine goesL_ (some 33) rfl rfl Tryz.func92 (by kernel_rfl) rfl #[.string t134, .string t135, .bool true] rfl (by (try simp only [List.map_toArray, List.map_cons, List.map_nil]); first | done | rfl | (simp only [List.length_drop, List.length_take]; rfl)) ?_; (with_reducible refine (metrolabref01_paper.calls k t134 t135 true t138 _ A12.out).mono ?_); rintro e w15 ⟨rfl, hb⟩; refine ⟨_, rfl, ?_⟩; have n0_ := Aside0.mk (below_step (by repeat (first | (with_reducible first | exact HB.out | apply below_alloc | apply pw_below_drewN | apply below_drew1) | exact HB.out)) hb); clear HB; have HB := n0_; clear n0_; (try clear hb); (try clear hb2); (try clear hk); (try clear hi)) | ((with_reducible refine gate_callee (f := 59) rfl ?_); refine goesL_ (some 35) rfl rfl Tryz.func59 (by kernel_rfl) rfl #[.string a0] rfl (by (try simp only [List.map_toArray, List.map_cons, List.map_nil]); first | done | rfl | (simp only [List.length_drop, List.length_take]; rfl)) ?_; (with_reducible refine (metrolabref01_Below.calls a0 t139 _ A13.out).mono ?_); rintro e w' ⟨rfl, ⟨nd, rfl⟩⟩; refine ⟨_, rfl, ?_⟩) | ((with_reducible refine gate_callee (f := 72) rfl ?_); refine goesL_ (some 36) rfl rfl Tryz.func72 (by kernel_rfl) rfl #[.string t138, .bool t139] rfl (by (try simp only [List.map_toArray, List.map_cons, List.map_nil]); first | done | rfl | (simp only [List.length_drop, List.length_take]; rfl)) ?_; (with_reducible refine (metrolabref01_signed.calls t138 t139 t140 _ A14.out).mono ?_); rintro e w' ⟨rfl, ⟨nd, rfl⟩⟩; refine ⟨_, rfl, ?_⟩))
      go_ret
      exact ⟨by first | rfl | (simp [errW_none, errW_some] <;> rfl) | (simp [*, errW_none, errW_some] <;> rfl), by repeat (first | (with_reducible first | exact HB.out | apply below_alloc | apply pw_below_drewN | apply below_drew1) | exact HB.out)⟩
    · rw [if_neg c11] at H
      have c11b0 : (t136 == t137) = false := by simpa using c11
      (try (have c11b1 : decide (t136 = t137) = false := by simpa using c11))
      (try (have c11b2 : (t136 == t137) = false := by simpa using c11))
      (try (have c11b3 : ¬ (t136 = t137) := by simpa using c11))
      clear c11
      replace H := Option.bind_eq_some_iff.mp H
      obtain ⟨t141, A160, H⟩ := H
      replace H : (if t141 = true then ((metrolabref01_paper.f k t135 t134 false).bind fun t142 => ((metrolabref01_Below.f a1).bind fun t143 => ((metrolabref01_signed.f t142 t143).bind fun t144 => (some t144)))) else ((metrolabref01_paper.f k t134 t135 false).bind fun t145 => ((metrolabref01_Below.f a0).bind fun t146 => ((metrolabref01_signed.f t145 t146).bind fun t147 => (some t147))))) = some r := H
      have A16 := Aside0.mk A160
      clear A160
      by_cases c17 : t141 = true
      · subst c17
        have H1 : ((metrolabref01_paper.f k t135 t134 false).bind fun t142 => ((metrolabref01_Below.f a1).bind fun t143 => ((metrolabref01_signed.f t142 t143).bind fun t144 => (some t144)))) = some r := by rw [if_pos rfl] at H; exact H
        clear H
        have H := H1
        clear H1
        replace H := Option.bind_eq_some_iff.mp H
        obtain ⟨t142, A180, H⟩ := H
        replace H : ((metrolabref01_Below.f a1).bind fun t143 => ((metrolabref01_signed.f t142 t143).bind fun t144 => (some t144))) = some r := H
        have A18 := Aside0.mk A180
        clear A180
        replace H := Option.bind_eq_some_iff.mp H
        obtain ⟨t143, A190, H⟩ := H
        replace H : ((metrolabref01_signed.f t142 t143).bind fun t144 => (some t144)) = some r := H
        have A19 := Aside0.mk A190
        clear A190
        replace H := Option.bind_eq_some_iff.mp H
        obtain ⟨t144, A200, H⟩ := H
        replace H : (some t144) = some r := H
        have A20 := Aside0.mk A200
        clear A200
        obtain rfl := Option.some.inj H
        go_enter Tryz.func65, Tryz.ntmps65
        go_wp2_with (first | ((with_reducible refine gate_callee (f := 71) rfl ?_); refine goesL_ (some 13) rfl rfl Tryz.func71 (by kernel_rfl) rfl #[.string a0, .string a1] rfl (by (try simp only [List.map_toArray, List.map_cons, List.map_nil]); first | done | rfl | (simp only [List.length_drop, List.length_take]; rfl)) ?_; (with_reducible refine (metrolabref01_brief.calls k a0 a1 t130 t131 false _ A3.out).mono ?_); rintro e w' ⟨rfl, ⟨nd, rfl⟩⟩; refine ⟨_, rfl, ?_⟩) | ((with_reducible refine gate_callee (f := 58) rfl ?_); refine goesL_ (some 23) rfl rfl Tryz.func58 (by kernel_rfl) rfl #[.string a0] rfl (by (try simp only [List.map_toArray, List.map_cons, List.map_nil]); first | done | rfl | (simp only [List.length_drop, List.length_take]; rfl)) ?_; (with_reducible refine (metrolabref01_size.calls a0 t134 _ A7.out).mono ?_); rintro e w' ⟨rfl, ⟨nd, rfl⟩⟩; refine ⟨_, rfl, ?_⟩) | ((with_reducible refine gate_callee (f := 58) rfl ?_); refine goesL_ (some 25) rfl rfl Tryz.func58 (by kernel_rfl) rfl #[.string a1] rfl (by (try simp only [List.map_toArray, List.map_cons, List.map_nil]); first | done | rfl | (simp only [List.length_drop, List.length_take]; rfl)) ?_; (with_reducible refine (metrolabref01_size.calls a1 t135 _ A8.out).mono ?_); rintro e w' ⟨rfl, ⟨nd, rfl⟩⟩; refine ⟨_, rfl, ?_⟩) | ((with_reducible refine gate_callee (f := 59) rfl ?_); refine goesL_ (some 27) rfl rfl Tryz.func59 (by kernel_rfl) rfl #[.string a0] rfl (by (try simp only [List.map_toArray, List.map_cons, List.map_nil]); first | done | rfl | (simp only [List.length_drop, List.length_take]; rfl)) ?_; (with_reducible refine (metrolabref01_Below.calls a0 t136 _ A9.out).mono ?_); rintro e w' ⟨rfl, ⟨nd, rfl⟩⟩; refine ⟨_, rfl, ?_⟩) | ((with_reducible refine gate_callee (f := 59) rfl ?_); refine goesL_ (some 29) rfl rfl Tryz.func59 (by kernel_rfl) rfl #[.string a1] rfl (by (try simp only [List.map_toArray, List.map_cons, List.map_nil]); first | done | rfl | (simp only [List.length_drop, List.length_take]; rfl)) ?_; (with_reducible refine (metrolabref01_Below.calls a1 t137 _ A10.out).mono ?_); rintro e w' ⟨rfl, ⟨nd, rfl⟩⟩; refine ⟨_, rfl, ?_⟩) | ((with_reducible refine gate_callee (f := 93) rfl ?_); refine goesL_ (some 39) rfl rfl Tryz.func93 (by kernel_rfl) rfl #[.string t134, .string t135] rfl (by (try simp only [List.map_toArray, List.map_cons, List.map_nil]); first | done | rfl | (simp only [List.length_drop, List.length_take]; rfl)) ?_; (with_reducible refine (metrolabref01_less.calls t134 t135 true _ A16.out).mono ?_); rintro e w' ⟨rfl, ⟨nd, rfl⟩⟩; refine ⟨_, rfl, ?_⟩) | ((with_reducible refine gate_callee (f := 92) rfl ?_); refine goesL_ (some 42) rfl rfl Tryz.func92 (by kernel_rfl) rfl #[.string t135, .string t134, .bool false] rfl (by (try simp only [List.map_toArray, List.map_cons, List.map_nil]); first | done | rfl | (simp only [List.length_drop, List.length_take]; rfl)) ?_; (with_reducible refine (metrolabref01_paper.calls k t135 t134 false t142 _ A18.out).mono ?_); rintro e w21 ⟨rfl, hb⟩; refine ⟨_, rfl, ?_⟩; have n0_ := Aside0.mk (below_step (by repeat (first | (with_reducible first | exact HB.out | apply below_alloc | apply pw_below_drewN | apply below_drew1) | exact HB.out)) hb); clear HB; have HB := n0_; clear n0_; (try clear hb); (try clear hb2); (try clear hk); (try clear hi)) | ((with_reducible refine gate_callee (f := 59) rfl ?_); refine goesL_ (some 44) rfl rfl Tryz.func59 (by kernel_rfl) rfl #[.string a1] rfl (by (try simp only [List.map_toArray, List.map_cons, List.map_nil]); first | done | rfl | (simp only [List.length_drop, List.length_take]; rfl)) ?_; (with_reducible refine (metrolabref01_Below.calls a1 t143 _ A19.out).mono ?_); rintro e w' ⟨rfl, ⟨nd, rfl⟩⟩; refine ⟨_, rfl, ?_⟩) | ((with_reducible refine gate_callee (f := 72) rfl ?_); refine goesL_ (some 45) rfl rfl Tryz.func72 (by kernel_rfl) rfl #[.string t142, .bool t143] rfl (by (try simp only [List.map_toArray, List.map_cons, List.map_nil]); first | done | rfl | (simp only [List.length_drop, List.length_take]; rfl)) ?_; (with_reducible refine (metrolabref01_signed.calls t142 t143 t144 _ A20.out).mono ?_); rintro e w' ⟨rfl, ⟨nd, rfl⟩⟩; refine ⟨_, rfl, ?_⟩))
        go_ret
        exact ⟨by first | rfl | (simp [errW_none, errW_some] <;> rfl) | (simp [*, errW_none, errW_some] <;> rfl), by repeat (first | (with_reducible first | exact HB.out | apply below_alloc | apply pw_below_drewN | apply below_drew1) | exact HB.out)⟩
      · replace c17 := Bool.eq_false_iff.mpr c17
        subst c17
        have H1 : ((metrolabref01_paper.f k t134 t135 false).bind fun t145 => ((metrolabref01_Below.f a0).bind fun t146 => ((metrolabref01_signed.f t145 t146).bind fun t147 => (some t147)))) = some r := by rw [if_neg (show ¬ (false = true) by decide)] at H; exact H
        clear H
        have H := H1
        clear H1
        replace H := Option.bind_eq_some_iff.mp H
        obtain ⟨t145, A220, H⟩ := H
        replace H : ((metrolabref01_Below.f a0).bind fun t146 => ((metrolabref01_signed.f t145 t146).bind fun t147 => (some t147))) = some r := H
        have A22 := Aside0.mk A220
        clear A220
        replace H := Option.bind_eq_some_iff.mp H
        obtain ⟨t146, A230, H⟩ := H
        replace H : ((metrolabref01_signed.f t145 t146).bind fun t147 => (some t147)) = some r := H
        have A23 := Aside0.mk A230
        clear A230
        replace H := Option.bind_eq_some_iff.mp H
        obtain ⟨t147, A240, H⟩ := H
        replace H : (some t147) = some r := H
        have A24 := Aside0.mk A240
        clear A240
        obtain rfl := Option.some.inj H
        go_enter Tryz.func65, Tryz.ntmps65
        go_wp2_with (first | ((with_reducible refine gate_callee (f := 71) rfl ?_); refine goesL_ (some 13) rfl rfl Tryz.func71 (by kernel_rfl) rfl #[.string a0, .string a1] rfl (by (try simp only [List.map_toArray, List.map_cons, List.map_nil]); first | done | rfl | (simp only [List.length_drop, List.length_take]; rfl)) ?_; (with_reducible refine (metrolabref01_brief.calls k a0 a1 t130 t131 false _ A3.out).mono ?_); rintro e w' ⟨rfl, ⟨nd, rfl⟩⟩; refine ⟨_, rfl, ?_⟩) | ((with_reducible refine gate_callee (f := 58) rfl ?_); refine goesL_ (some 23) rfl rfl Tryz.func58 (by kernel_rfl) rfl #[.string a0] rfl (by (try simp only [List.map_toArray, List.map_cons, List.map_nil]); first | done | rfl | (simp only [List.length_drop, List.length_take]; rfl)) ?_; (with_reducible refine (metrolabref01_size.calls a0 t134 _ A7.out).mono ?_); rintro e w' ⟨rfl, ⟨nd, rfl⟩⟩; refine ⟨_, rfl, ?_⟩) | ((with_reducible refine gate_callee (f := 58) rfl ?_); refine goesL_ (some 25) rfl rfl Tryz.func58 (by kernel_rfl) rfl #[.string a1] rfl (by (try simp only [List.map_toArray, List.map_cons, List.map_nil]); first | done | rfl | (simp only [List.length_drop, List.length_take]; rfl)) ?_; (with_reducible refine (metrolabref01_size.calls a1 t135 _ A8.out).mono ?_); rintro e w' ⟨rfl, ⟨nd, rfl⟩⟩; refine ⟨_, rfl, ?_⟩) | ((with_reducible refine gate_callee (f := 59) rfl ?_); refine goesL_ (some 27) rfl rfl Tryz.func59 (by kernel_rfl) rfl #[.string a0] rfl (by (try simp only [List.map_toArray, List.map_cons, List.map_nil]); first | done | rfl | (simp only [List.length_drop, List.length_take]; rfl)) ?_; (with_reducible refine (metrolabref01_Below.calls a0 t136 _ A9.out).mono ?_); rintro e w' ⟨rfl, ⟨nd, rfl⟩⟩; refine ⟨_, rfl, ?_⟩) | ((with_reducible refine gate_callee (f := 59) rfl ?_); refine goesL_ (some 29) rfl rfl Tryz.func59 (by kernel_rfl) rfl #[.string a1] rfl (by (try simp only [List.map_toArray, List.map_cons, List.map_nil]); first | done | rfl | (simp only [List.length_drop, List.length_take]; rfl)) ?_; (with_reducible refine (metrolabref01_Below.calls a1 t137 _ A10.out).mono ?_); rintro e w' ⟨rfl, ⟨nd, rfl⟩⟩; refine ⟨_, rfl, ?_⟩) | ((with_reducible refine gate_callee (f := 93) rfl ?_); refine goesL_ (some 39) rfl rfl Tryz.func93 (by kernel_rfl) rfl #[.string t134, .string t135] rfl (by (try simp only [List.map_toArray, List.map_cons, List.map_nil]); first | done | rfl | (simp only [List.length_drop, List.length_take]; rfl)) ?_; (with_reducible refine (metrolabref01_less.calls t134 t135 false _ A16.out).mono ?_); rintro e w' ⟨rfl, ⟨nd, rfl⟩⟩; refine ⟨_, rfl, ?_⟩) | ((with_reducible refine gate_callee (f := 92) rfl ?_); refine goesL_ (some 48) rfl rfl Tryz.func92 (by kernel_rfl) rfl #[.string t134, .string t135, .bool false] rfl (by (try simp only [List.map_toArray, List.map_cons, List.map_nil]); first | done | rfl | (simp only [List.length_drop, List.length_take]; rfl)) ?_; (with_reducible refine (metrolabref01_paper.calls k t134 t135 false t145 _ A22.out).mono ?_); rintro e w25 ⟨rfl, hb⟩; refine ⟨_, rfl, ?_⟩; have n0_ := Aside0.mk (below_step (by repeat (first | (with_reducible first | exact HB.out | apply below_alloc | apply pw_below_drewN | apply below_drew1) | exact HB.out)) hb); clear HB; have HB := n0_; clear n0_; (try clear hb); (try clear hb2); (try clear hk); (try clear hi)) | ((with_reducible refine gate_callee (f := 59) rfl ?_); refine goesL_ (some 50) rfl rfl Tryz.func59 (by kernel_rfl) rfl #[.string a0] rfl (by (try simp only [List.map_toArray, List.map_cons, List.map_nil]); first | done | rfl | (simp only [List.length_drop, List.length_take]; rfl)) ?_; (with_reducible refine (metrolabref01_Below.calls a0 t146 _ A23.out).mono ?_); rintro e w' ⟨rfl, ⟨nd, rfl⟩⟩; refine ⟨_, rfl, ?_⟩) | ((with_reducible refine gate_callee (f := 72) rfl ?_); refine goesL_ (some 51) rfl rfl Tryz.func72 (by kernel_rfl) rfl #[.string t145, .bool t146] rfl (by (try simp only [List.map_toArray, List.map_cons, List.map_nil]); first | done | rfl | (simp only [List.length_drop, List.length_take]; rfl)) ?_; (with_reducible refine (metrolabref01_signed.calls t145 t146 t147 _ A24.out).mono ?_); rintro e w' ⟨rfl, ⟨nd, rfl⟩⟩; refine ⟨_, rfl, ?_⟩))
        go_ret
        exact ⟨by first | rfl | (simp [errW_none, errW_some] <;> rfl) | (simp [*, errW_none, errW_some] <;> rfl), by repeat (first | (with_reducible first | exact HB.out | apply below_alloc | apply pw_below_drewN | apply below_drew1) | exact HB.out)⟩

/-! ### metrolabref01_Minus: function 67 -/
def metrolabref01_Minus.f (k : Nat) (a0 : ByteArray) (a1 : ByteArray) : Option (ByteArray) := (metrolabref01_Turned.f a1).bind fun t148 => ((metrolabref01_Plus.f k a0 t148).bind fun t149 => (some t149))
theorem metrolabref01_Minus.mono : ∀ a0 a1 k, LeO (metrolabref01_Minus.f k a0 a1) (metrolabref01_Minus.f (k + 1) a0 a1) := by
  intro a0 a1 k
  unfold metrolabref01_Minus.f
  repeat' first
      | (with_reducible exact metrolabref01_Plus.mono _ _ _)
      | (with_reducible exact LeO.refl _)
      | (with_reducible exact LeO.none _)
      | (with_reducible refine LeO.ite ?_ ?_)
      | (with_reducible refine LeO.bind ?_ (fun _ => ?_))
      | exact metrolabref01_Plus.mono _ _ _
      | exact LeO.none _
      | refine LeO.ite ?_ ?_
      | refine LeO.bind ?_ (fun _ => ?_)
set_option maxHeartbeats 8000000 in
set_option maxRecDepth 100000 in
theorem metrolabref01_Minus.calls (k : Nat) (a0 : ByteArray) (a1 : ByteArray) (r : ByteArray) (w : World) (h : metrolabref01_Minus.f k a0 a1 = some r) :
    Calls Tryz.prog 67 #[.string a0, .string a1] w fun e w' => e = .returned (.string r) ∧ Below w.heap.size w w' := by
  have HB := Aside0.mk (Below.refl w.heap.size w)
  have H : ((metrolabref01_Turned.f a1).bind fun t148 => ((metrolabref01_Plus.f k a0 t148).bind fun t149 => (some t149))) = some r := h
  clear h
  replace H := Option.bind_eq_some_iff.mp H
  obtain ⟨t148, A30, H⟩ := H
  replace H : ((metrolabref01_Plus.f k a0 t148).bind fun t149 => (some t149)) = some r := H
  have A3 := Aside0.mk A30
  clear A30
  replace H := Option.bind_eq_some_iff.mp H
  obtain ⟨t149, A40, H⟩ := H
  replace H : (some t149) = some r := H
  have A4 := Aside0.mk A40
  clear A40
  obtain rfl := Option.some.inj H
  go_enter Tryz.func67, Tryz.ntmps67
  go_wp2_with (first | ((with_reducible refine gate_callee (f := 64) rfl ?_); refine goesL_ (some 7) rfl rfl Tryz.func64 (by kernel_rfl) rfl #[.string a1] rfl (by (try simp only [List.map_toArray, List.map_cons, List.map_nil]); first | done | rfl | (simp only [List.length_drop, List.length_take]; rfl)) ?_; (with_reducible refine (metrolabref01_Turned.calls a1 t148 _ A3.out).mono ?_); rintro e w' ⟨rfl, ⟨nd, rfl⟩⟩; refine ⟨_, rfl, ?_⟩) | ((with_reducible refine gate_callee (f := 65) rfl ?_); refine goesL_ (some 8) rfl rfl Tryz.func65 (by kernel_rfl) rfl #[.string a0, .string t148] rfl (by (try simp only [List.map_toArray, List.map_cons, List.map_nil]); first | done | rfl | (simp only [List.length_drop, List.length_take]; rfl)) ?_; (with_reducible refine (metrolabref01_Plus.calls k a0 t148 t149 _ A4.out).mono ?_); rintro e w5 ⟨rfl, hb⟩; refine ⟨_, rfl, ?_⟩; have n0_ := Aside0.mk (below_step (by repeat (first | (with_reducible first | exact HB.out | apply below_alloc | apply pw_below_drewN | apply below_drew1) | exact HB.out)) hb); clear HB; have HB := n0_; clear n0_; (try clear hb); (try clear hb2); (try clear hk); (try clear hi)))
  go_ret
  exact ⟨by first | rfl | (simp [errW_none, errW_some] <;> rfl) | (simp [*, errW_none, errW_some] <;> rfl), by repeat (first | (with_reducible first | exact HB.out | apply below_alloc | apply pw_below_drewN | apply below_drew1) | exact HB.out)⟩

/-! ### metrolabref01_Order: function 57 -/
def metrolabref01_Order.f (k : Nat) (a0 : ByteArray) (a1 : ByteArray) : Option (Int) := (metrolabref01_Minus.f k a0 a1).bind fun t150 => (if t150.toList = ([48] : List UInt8) then (some 0) else ((metrolabref01_Below.f t150).bind fun t151 => (if t151 = true then (some (-1)) else (some 1))))
theorem metrolabref01_Order.mono : ∀ a0 a1 k, LeO (metrolabref01_Order.f k a0 a1) (metrolabref01_Order.f (k + 1) a0 a1) := by
  intro a0 a1 k
  unfold metrolabref01_Order.f
  repeat' first
      | (with_reducible exact metrolabref01_Minus.mono _ _ _)
      | (with_reducible exact LeO.refl _)
      | (with_reducible exact LeO.none _)
      | (with_reducible refine LeO.ite ?_ ?_)
      | (with_reducible refine LeO.bind ?_ (fun _ => ?_))
      | exact metrolabref01_Minus.mono _ _ _
      | exact LeO.none _
      | refine LeO.ite ?_ ?_
      | refine LeO.bind ?_ (fun _ => ?_)
set_option maxHeartbeats 8000000 in
set_option maxRecDepth 100000 in
theorem metrolabref01_Order.calls (k : Nat) (a0 : ByteArray) (a1 : ByteArray) (r : Int) (w : World) (h : metrolabref01_Order.f k a0 a1 = some r) :
    Calls Tryz.prog 57 #[.string a0, .string a1] w fun e w' => e = .returned (.int .i64 r) ∧ Below w.heap.size w w' := by
  have HB := Aside0.mk (Below.refl w.heap.size w)
  have H : ((metrolabref01_Minus.f k a0 a1).bind fun t150 => (if t150.toList = ([48] : List UInt8) then (some 0) else ((metrolabref01_Below.f t150).bind fun t151 => (if t151 = true then (some (-1)) else (some 1))))) = some r := h
  clear h
  replace H := Option.bind_eq_some_iff.mp H
  obtain ⟨t150, A30, H⟩ := H
  replace H : (if t150.toList = ([48] : List UInt8) then (some 0) else ((metrolabref01_Below.f t150).bind fun t151 => (if t151 = true then (some (-1)) else (some 1)))) = some r := H
  have A3 := Aside0.mk A30
  clear A30
  by_cases c4 : t150.toList = ([48] : List UInt8)
  · rw [if_pos c4] at H
    have c4b0 : (t150.toList == ([48] : List UInt8)) = true := beq_iff_eq.mpr c4
    have c4b1 : (t150.toList != ([48] : List UInt8)) = false := bne_eq_false_iff_eq.mpr c4
    clear c4
    obtain rfl := Option.some.inj H
    go_enter Tryz.func57, Tryz.ntmps57
    go_wp2_with (first | ((with_reducible refine gate_callee (f := 67) rfl ?_); refine goesL_ (some 8) rfl rfl Tryz.func67 (by kernel_rfl) rfl #[.string a0, .string a1] rfl (by (try simp only [List.map_toArray, List.map_cons, List.map_nil]); first | done | rfl | (simp only [List.length_drop, List.length_take]; rfl)) ?_; (with_reducible refine (metrolabref01_Minus.calls k a0 a1 t150 _ A3.out).mono ?_); rintro e w5 ⟨rfl, hb⟩; refine ⟨_, rfl, ?_⟩; have n0_ := Aside0.mk (below_step (by repeat (first | (with_reducible first | exact HB.out | apply below_alloc | apply pw_below_drewN | apply below_drew1) | exact HB.out)) hb); clear HB; have HB := n0_; clear n0_; (try clear hb); (try clear hb2); (try clear hk); (try clear hi)))
    go_ret
    exact ⟨by first | rfl | (simp [errW_none, errW_some] <;> rfl) | (simp [*, errW_none, errW_some] <;> rfl), by repeat (first | (with_reducible first | exact HB.out | apply below_alloc | apply pw_below_drewN | apply below_drew1) | exact HB.out)⟩
  · rw [if_neg c4] at H
    have c4b0 : (t150.toList == ([48] : List UInt8)) = false := beq_eq_false_iff_ne.mpr c4
    have c4b1 : (t150.toList != ([48] : List UInt8)) = true := bne_iff_ne.mpr c4
    replace H := Option.bind_eq_some_iff.mp H
    obtain ⟨t151, A60, H⟩ := H
    replace H : (if t151 = true then (some (-1)) else (some 1)) = some r := H
    have A6 := Aside0.mk A60
    clear A60
    by_cases c7 : t151 = true
    · subst c7
      have H1 : (some (-1)) = some r := by rw [if_pos rfl] at H; exact H
      clear H
      have H := H1
      clear H1
      obtain rfl := Option.some.inj H
      go_enter Tryz.func57, Tryz.ntmps57
      go_wp2_with (first | ((with_reducible refine gate_callee (f := 67) rfl ?_); refine goesL_ (some 8) rfl rfl Tryz.func67 (by kernel_rfl) rfl #[.string a0, .string a1] rfl (by (try simp only [List.map_toArray, List.map_cons, List.map_nil]); first | done | rfl | (simp only [List.length_drop, List.length_take]; rfl)) ?_; (with_reducible refine (metrolabref01_Minus.calls k a0 a1 t150 _ A3.out).mono ?_); rintro e w8 ⟨rfl, hb⟩; refine ⟨_, rfl, ?_⟩; have n0_ := Aside0.mk (below_step (by repeat (first | (with_reducible first | exact HB.out | apply below_alloc | apply pw_below_drewN | apply below_drew1) | exact HB.out)) hb); clear HB; have HB := n0_; clear n0_; (try clear hb); (try clear hb2); (try clear hk); (try clear hi)) | ((with_reducible refine gate_callee (f := 59) rfl ?_); refine goesL_ (some 12) rfl rfl Tryz.func59 (by kernel_rfl) rfl #[.string t150] rfl (by (try simp only [List.map_toArray, List.map_cons, List.map_nil]); first | done | rfl | (simp only [List.length_drop, List.length_take]; rfl)) ?_; (with_reducible refine (metrolabref01_Below.calls t150 true _ A6.out).mono ?_); rintro e w' ⟨rfl, ⟨nd, rfl⟩⟩; refine ⟨_, rfl, ?_⟩))
      go_ret
      exact ⟨by first | rfl | (simp [errW_none, errW_some] <;> rfl) | (simp [*, errW_none, errW_some] <;> rfl), by repeat (first | (with_reducible first | exact HB.out | apply below_alloc | apply pw_below_drewN | apply below_drew1) | exact HB.out)⟩
    · replace c7 := Bool.eq_false_iff.mpr c7
      subst c7
      have H1 : (some 1) = some r := by rw [if_neg (show ¬ (false = true) by decide)] at H; exact H
      clear H
      have H := H1
      clear H1
      obtain rfl := Option.some.inj H
      go_enter Tryz.func57, Tryz.ntmps57
      go_wp2_with (first | ((with_reducible refine gate_callee (f := 67) rfl ?_); refine goesL_ (some 8) rfl rfl Tryz.func67 (by kernel_rfl) rfl #[.string a0, .string a1] rfl (by (try simp only [List.map_toArray, List.map_cons, List.map_nil]); first | done | rfl | (simp only [List.length_drop, List.length_take]; rfl)) ?_; (with_reducible refine (metrolabref01_Minus.calls k a0 a1 t150 _ A3.out).mono ?_); rintro e w9 ⟨rfl, hb⟩; refine ⟨_, rfl, ?_⟩; have n0_ := Aside0.mk (below_step (by repeat (first | (with_reducible first | exact HB.out | apply below_alloc | apply pw_below_drewN | apply below_drew1) | exact HB.out)) hb); clear HB; have HB := n0_; clear n0_; (try clear hb); (try clear hb2); (try clear hk); (try clear hi)) | ((with_reducible refine gate_callee (f := 59) rfl ?_); refine goesL_ (some 12) rfl rfl Tryz.func59 (by kernel_rfl) rfl #[.string t150] rfl (by (try simp only [List.map_toArray, List.map_cons, List.map_nil]); first | done | rfl | (simp only [List.length_drop, List.length_take]; rfl)) ?_; (with_reducible refine (metrolabref01_Below.calls t150 false _ A6.out).mono ?_); rintro e w' ⟨rfl, ⟨nd, rfl⟩⟩; refine ⟨_, rfl, ?_⟩))
      go_ret
      exact ⟨by first | rfl | (simp [errW_none, errW_some] <;> rfl) | (simp [*, errW_none, errW_some] <;> rfl), by repeat (first | (with_reducible first | exact HB.out | apply below_alloc | apply pw_below_drewN | apply below_drew1) | exact HB.out)⟩

/-! ### metrolabref01_both: function 45 -/
def metrolabref01_both.f (k : Nat) (a0 : ByteArray) (a1 : ByteArray) : Option (Int) := (metrolabref01_Check.f k a0).bind fun t152 => (if t152 = 0 then ((metrolabref01_Check.f k a1).bind fun t153 => (some t153)) else (some t152))
theorem metrolabref01_both.mono : ∀ a0 a1 k, LeO (metrolabref01_both.f k a0 a1) (metrolabref01_both.f (k + 1) a0 a1) := by
  intro a0 a1 k
  unfold metrolabref01_both.f
  repeat' first
      | (with_reducible exact metrolabref01_Check.mono _ _)
      | (with_reducible exact LeO.refl _)
      | (with_reducible exact LeO.none _)
      | (with_reducible refine LeO.ite ?_ ?_)
      | (with_reducible refine LeO.bind ?_ (fun _ => ?_))
      | exact metrolabref01_Check.mono _ _
      | exact LeO.none _
      | refine LeO.ite ?_ ?_
      | refine LeO.bind ?_ (fun _ => ?_)
set_option maxHeartbeats 8000000 in
set_option maxRecDepth 100000 in
theorem metrolabref01_both.calls (k : Nat) (a0 : ByteArray) (a1 : ByteArray) (r : Int) (w : World) (h : metrolabref01_both.f k a0 a1 = some r) :
    Calls Tryz.prog 45 #[.string a0, .string a1] w fun e w' => e = .returned (.int .i64 r) ∧ Drawn0 w w' := by
  have H : ((metrolabref01_Check.f k a0).bind fun t152 => (if t152 = 0 then ((metrolabref01_Check.f k a1).bind fun t153 => (some t153)) else (some t152))) = some r := h
  clear h
  replace H := Option.bind_eq_some_iff.mp H
  obtain ⟨t152, A30, H⟩ := H
  replace H : (if t152 = 0 then ((metrolabref01_Check.f k a1).bind fun t153 => (some t153)) else (some t152)) = some r := H
  have A3 := Aside0.mk A30
  clear A30
  by_cases c4 : t152 = 0
  · rw [if_pos c4] at H
    have c4b0 : (t152 == 0) = true := beq_iff_eq.mpr c4
    have c4b1 : (t152 != 0) = false := bne_eq_false_iff_eq.mpr c4
    clear c4
    replace H := Option.bind_eq_some_iff.mp H
    obtain ⟨t153, A50, H⟩ := H
    replace H : (some t153) = some r := H
    have A5 := Aside0.mk A50
    clear A50
    obtain rfl := Option.some.inj H
    go_enter Tryz.func45, Tryz.ntmps45
    go_wp2_with (first | ((with_reducible refine gate_callee (f := 29) rfl ?_); refine goesL_ (some 7) rfl rfl Tryz.func29 (by kernel_rfl) rfl #[.string a0] rfl (by (try simp only [List.map_toArray, List.map_cons, List.map_nil]); first | done | rfl | (simp only [List.length_drop, List.length_take]; rfl)) ?_; (with_reducible refine (metrolabref01_Check.calls k a0 t152 _ A3.out).mono ?_); rintro e w' ⟨rfl, ⟨nd, rfl⟩⟩; refine ⟨_, rfl, ?_⟩) | ((with_reducible refine gate_callee (f := 29) rfl ?_); refine goesL_ (some 12) rfl rfl Tryz.func29 (by kernel_rfl) rfl #[.string a1] rfl (by (try simp only [List.map_toArray, List.map_cons, List.map_nil]); first | done | rfl | (simp only [List.length_drop, List.length_take]; rfl)) ?_; (with_reducible refine (metrolabref01_Check.calls k a1 t153 _ A5.out).mono ?_); rintro e w' ⟨rfl, ⟨nd, rfl⟩⟩; refine ⟨_, rfl, ?_⟩))
    go_ret
    exact ⟨by first | rfl | (simp; done) | (simp [*]; done), by repeat (first | exact Drawn0.refl _ | apply Drawn0.step)⟩
  · rw [if_neg c4] at H
    have c4b0 : (t152 == 0) = false := beq_eq_false_iff_ne.mpr c4
    have c4b1 : (t152 != 0) = true := bne_iff_ne.mpr c4
    obtain rfl := Option.some.inj H
    go_enter Tryz.func45, Tryz.ntmps45
    go_wp2_with (first | ((with_reducible refine gate_callee (f := 29) rfl ?_); refine goesL_ (some 7) rfl rfl Tryz.func29 (by kernel_rfl) rfl #[.string a0] rfl (by (try simp only [List.map_toArray, List.map_cons, List.map_nil]); first | done | rfl | (simp only [List.length_drop, List.length_take]; rfl)) ?_; (with_reducible refine (metrolabref01_Check.calls k a0 t152 _ A3.out).mono ?_); rintro e w' ⟨rfl, ⟨nd, rfl⟩⟩; refine ⟨_, rfl, ?_⟩))
    go_ret
    exact ⟨by first | rfl | (simp; done) | (simp [*]; done), by repeat (first | exact Drawn0.refl _ | apply Drawn0.step)⟩

end Go.Proofs.YtpkfnclbcmnckaaGreatDoor.ZP
-- written by the session's px.py out of the translation; Lean checks it.
namespace Go.Proofs.YtpkfnclbcmnckaaGreatDoor.ZP
open Go.RowKit Go.Proofs.YtpkfnclbcmnckaaGreatDoorW.PrintWords Go.Proofs.YtpkfnclbcmnckaaGreatDoorW.PrintLast Go.Proofs.YtpkfnclbcmnckaaGreatDoorW.PrintMore
attribute [local go_sem] max2_int min2_int max_two min_two max_three min_three max_four min_four   -- for this text's walks alone
set_option linter.unusedVariables false
set_option linter.unusedSimpArgs false

end Go.Proofs.YtpkfnclbcmnckaaGreatDoor.ZP
