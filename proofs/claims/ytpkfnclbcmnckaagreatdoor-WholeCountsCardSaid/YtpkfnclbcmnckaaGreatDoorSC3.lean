/- A part of what the claim's last text leans on. -/
import Derived.Test.YtpkfnclbcmnckaaGreatDoorSC2
import Derived.Test.YtpkfnclbcmnckaaGreatDoorProg
import Derived.Below
import Derived.Deep.Draws
import Derived.Deep.AppendLies
import Derived.Maps.AppendAt
import Derived.OwnWalk
import Derived.Laws.BytesArg
import Derived.Laws.MakeOwn
import Derived.Laws.OwnMore
import Derived.Deep.OwnRows
import Derived.Tactics
import Derived.Lib.ConvBytes
import Derived.Laws.Slices
import Derived.WalkKit
import Derived.KernelRfl
import Derived.RowKit3
import Derived.Deep.LoopGhost
import Derived.Deep.QuietTactic
import Derived.BigQuiet
import Derived.WideLaws
import Derived.Deep.DeepCutAuto
import Derived.Deep.CutBlock
import Derived.Deep.RegionHeld3
import Derived.Laws.Rows
import Derived.Lib.AppendStr
import Derived.ArgAppend
import Derived.Laws.IdiomCopy
import Derived.OrdersHeld
import Derived.Laws.BitsLemmas
import Derived.RowKit
namespace Go.Proofs.YtpkfnclbcmnckaaGreatDoor.ZP
open Go.RowKit Go.Proofs.YtpkfnclbcmnckaaGreatDoorW.PrintWords Go.Proofs.YtpkfnclbcmnckaaGreatDoorW.PrintLast Go.Proofs.YtpkfnclbcmnckaaGreatDoorW.PrintMore
attribute [local go_sem] max2_int min2_int max_two min_two max_three min_three max_four min_four   -- for this text's walks alone
set_option linter.unusedVariables false
set_option linter.unusedSimpArgs false
def metrolabref01_Plus.f (k : Nat) (a0 : ByteArray) (a1 : ByteArray) : Option (ByteArray) := (metrolabref01_brief.f k a0 a1).bind fun bt130 => (if bt130.2.2 = true then ((metrolabref01_Of.f k (wrap64 (bt130.1 + bt130.2.1))).bind fun t133 => (some t133)) else ((metrolabref01_size.f a0).bind fun t134 => ((metrolabref01_size.f a1).bind fun t135 => ((metrolabref01_Below.f a0).bind fun t136 => ((metrolabref01_Below.f a1).bind fun t137 => (if (t136 == t137) = true then ((metrolabref01_paper.f k t134 t135 true).bind fun t138 => ((metrolabref01_Below.f a0).bind fun t139 => ((metrolabref01_signed.f t138 t139).bind fun t140 => (some t140)))) else ((metrolabref01_less.f t134 t135).bind fun t141 => (if t141 = true then ((metrolabref01_paper.f k t135 t134 false).bind fun t142 => ((metrolabref01_Below.f a1).bind fun t143 => ((metrolabref01_signed.f t142 t143).bind fun t144 => (some t144)))) else ((metrolabref01_paper.f k t134 t135 false).bind fun t145 => ((metrolabref01_Below.f a0).bind fun t146 => ((metrolabref01_signed.f t145 t146).bind fun t147 => (some t147))))))))))))
theorem metrolabref01_Plus.mono : ∀ a0 a1 k, LeO (metrolabref01_Plus.f k a0 a1) (metrolabref01_Plus.f (k + 1) a0 a1) := by
  intro a0 a1 k
  unfold metrolabref01_Plus.f
  repeat' first
      | (with_reducible exact metrolabref01_Of.mono _ _)
      | (with_reducible exact metrolabref01_brief.mono _ _ _)
      | (with_reducible exact metrolabref01_paper.mono _ _ _ _)
      | (with_reducible exact LeO.refl _)
      | (with_reducible exact LeO.none _)
      | (with_reducible refine LeO.ite ?_ ?_)
      | (with_reducible refine LeO.bind ?_ (fun _ => ?_))
      | exact metrolabref01_Of.mono _ _
      | exact metrolabref01_brief.mono _ _ _
      | exact metrolabref01_paper.mono _ _ _ _
      | exact LeO.none _
      | refine LeO.ite ?_ ?_
      | refine LeO.bind ?_ (fun _ => ?_)
set_option maxHeartbeats 8000000 in
set_option maxRecDepth 100000 in
theorem metrolabref01_Plus.calls (k : Nat) (a0 : ByteArray) (a1 : ByteArray) (r : ByteArray) (w : World) (h : metrolabref01_Plus.f k a0 a1 = some r) :
    Calls Tryz.prog 65 #[.string a0, .string a1] w fun e w' => e = .returned (.string r) ∧ Below w.heap.size w w' := by
  have HB := Aside0.mk (Below.refl w.heap.size w)
  have H : ((metrolabref01_brief.f k a0 a1).bind fun bt130 => (if bt130.2.2 = true then ((metrolabref01_Of.f k (wrap64 (bt130.1 + bt130.2.1))).bind fun t133 => (some t133)) else ((metrolabref01_size.f a0).bind fun t134 => ((metrolabref01_size.f a1).bind fun t135 => ((metrolabref01_Below.f a0).bind fun t136 => ((metrolabref01_Below.f a1).bind fun t137 => (if (t136 == t137) = true then ((metrolabref01_paper.f k t134 t135 true).bind fun t138 => ((metrolabref01_Below.f a0).bind fun t139 => ((metrolabref01_signed.f t138 t139).bind fun t140 => (some t140)))) else ((metrolabref01_less.f t134 t135).bind fun t141 => (if t141 = true then ((metrolabref01_paper.f k t135 t134 false).bind fun t142 => ((metrolabref01_Below.f a1).bind fun t143 => ((metrolabref01_signed.f t142 t143).bind fun t144 => (some t144)))) else ((metrolabref01_paper.f k t134 t135 false).bind fun t145 => ((metrolabref01_Below.f a0).bind fun t146 => ((metrolabref01_signed.f t145 t146).bind fun t147 => (some t147))))))))))))) = some r := h
  clear h
  replace H := Option.bind_eq_some_iff.mp H
  obtain ⟨⟨t130, t131, t132⟩, A30, H⟩ := H
  replace H : (if t132 = true then ((metrolabref01_Of.f k (wrap64 (t130 + t131))).bind fun t133 => (some t133)) else ((metrolabref01_size.f a0).bind fun t134 => ((metrolabref01_size.f a1).bind fun t135 => ((metrolabref01_Below.f a0).bind fun t136 => ((metrolabref01_Below.f a1).bind fun t137 => (if (t136 == t137) = true then ((metrolabref01_paper.f k t134 t135 true).bind fun t138 => ((metrolabref01_Below.f a0).bind fun t139 => ((metrolabref01_signed.f t138 t139).bind fun t140 => (some t140)))) else ((metrolabref01_less.f t134 t135).bind fun t141 => (if t141 = true then ((metrolabref01_paper.f k t135 t134 false).bind fun t142 => ((metrolabref01_Below.f a1).bind fun t143 => ((metrolabref01_signed.f t142 t143).bind fun t144 => (some t144)))) else ((metrolabref01_paper.f k t134 t135 false).bind fun t145 => ((metrolabref01_Below.f a0).bind fun t146 => ((metrolabref01_signed.f t145 t146).bind fun t147 => (some t147)))))))))))) = some r := H
  have A3 := Aside0.mk A30
  clear A30
  by_cases c4 : t132 = true
  · subst c4
    have H1 : ((metrolabref01_Of.f k (wrap64 (t130 + t131))).bind fun t133 => (some t133)) = some r := by rw [if_pos rfl] at H; exact H
    clear H
    have H := H1
    clear H1
    replace H := Option.bind_eq_some_iff.mp H
    obtain ⟨t133, A50, H⟩ := H
    replace H : (some t133) = some r := H
    have A5 := Aside0.mk A50
    clear A50
    obtain rfl := Option.some.inj H
    go_enter Tryz.func65, Tryz.ntmps65
    go_wp2_with (first | ((with_reducible refine gate_callee (f := 71) rfl ?_); refine goesL_ (some 13) rfl rfl Tryz.func71 (by kernel_rfl) rfl #[.string a0, .string a1] rfl (by (try simp only [List.map_toArray, List.map_cons, List.map_nil]); first | done | rfl | (simp only [List.length_drop, List.length_take]; rfl)) ?_; (with_reducible refine (metrolabref01_brief.calls k a0 a1 t130 t131 true _ A3.out).mono ?_); rintro e w' ⟨rfl, ⟨nd, rfl⟩⟩; refine ⟨_, rfl, ?_⟩) | ((with_reducible refine gate_callee (f := 31) rfl ?_); refine goesL_ (some 21) rfl rfl Tryz.func31 (by kernel_rfl) rfl #[.int .i64 (wrap64 (t130 + t131))] rfl (by (try simp only [List.map_toArray, List.map_cons, List.map_nil]); first | done | rfl | (simp only [List.length_drop, List.length_take]; rfl)) ?_; (with_reducible refine (metrolabref01_Of.calls k (wrap64 (t130 + t131)) t133 _ A5.out).mono ?_); rintro e w6 ⟨rfl, hb⟩; refine ⟨_, rfl, ?_⟩; have n0_ := Aside0.mk (below_step (by repeat (first | (with_reducible first | exact HB.out | apply below_alloc | apply pw_below_drewN | apply below_drew1) | exact HB.out)) hb); clear HB; have HB := n0_; clear n0_; (try clear hb); (try clear hb2); (try clear hk); (try clear hi)))
    go_ret
    exact ⟨by first | rfl | (simp [errW_none, errW_some] <;> rfl) | (simp [*, errW_none, errW_some] <;> rfl), by repeat (first | (with_reducible first | exact HB.out | apply below_alloc | apply pw_below_drewN | apply below_drew1) | exact HB.out)⟩
  · replace c4 := Bool.eq_false_iff.mpr c4
    subst c4
    have H1 : ((metrolabref01_size.f a0).bind fun t134 => ((metrolabref01_size.f a1).bind fun t135 => ((metrolabref01_Below.f a0).bind fun t136 => ((metrolabref01_Below.f a1).bind fun t137 => (if (t136 == t137) = true then ((metrolabref01_paper.f k t134 t135 true).bind fun t138 => ((metrolabref01_Below.f a0).bind fun t139 => ((metrolabref01_signed.f t138 t139).bind fun t140 => (some t140)))) else ((metrolabref01_less.f t134 t135).bind fun t141 => (if t141 = true then ((metrolabref01_paper.f k t135 t134 false).bind fun t142 => ((metrolabref01_Below.f a1).bind fun t143 => ((metrolabref01_signed.f t142 t143).bind fun t144 => (some t144)))) else ((metrolabref01_paper.f k t134 t135 false).bind fun t145 => ((metrolabref01_Below.f a0).bind fun t146 => ((metrolabref01_signed.f t145 t146).bind fun t147 => (some t147))))))))))) = some r := by rw [if_neg (show ¬ (false = true) by decide)] at H; exact H
    clear H
    have H := H1
    clear H1
    replace H := Option.bind_eq_some_iff.mp H
    obtain ⟨t134, A70, H⟩ := H
    replace H : ((metrolabref01_size.f a1).bind fun t135 => ((metrolabref01_Below.f a0).bind fun t136 => ((metrolabref01_Below.f a1).bind fun t137 => (if (t136 == t137) = true then ((metrolabref01_paper.f k t134 t135 true).bind fun t138 => ((metrolabref01_Below.f a0).bind fun t139 => ((metrolabref01_signed.f t138 t139).bind fun t140 => (some t140)))) else ((metrolabref01_less.f t134 t135).bind fun t141 => (if t141 = true then ((metrolabref01_paper.f k t135 t134 false).bind fun t142 => ((metrolabref01_Below.f a1).bind fun t143 => ((metrolabref01_signed.f t142 t143).bind fun t144 => (some t144)))) else ((metrolabref01_paper.f k t134 t135 false).bind fun t145 => ((metrolabref01_Below.f a0).bind fun t146 => ((metrolabref01_signed.f t145 t146).bind fun t147 => (some t147)))))))))) = some r := H
    have A7 := Aside0.mk A70
    clear A70
    replace H := Option.bind_eq_some_iff.mp H
    obtain ⟨t135, A80, H⟩ := H
    replace H : ((metrolabref01_Below.f a0).bind fun t136 => ((metrolabref01_Below.f a1).bind fun t137 => (if (t136 == t137) = true then ((metrolabref01_paper.f k t134 t135 true).bind fun t138 => ((metrolabref01_Below.f a0).bind fun t139 => ((metrolabref01_signed.f t138 t139).bind fun t140 => (some t140)))) else ((metrolabref01_less.f t134 t135).bind fun t141 => (if t141 = true then ((metrolabref01_paper.f k t135 t134 false).bind fun t142 => ((metrolabref01_Below.f a1).bind fun t143 => ((metrolabref01_signed.f t142 t143).bind fun t144 => (some t144)))) else ((metrolabref01_paper.f k t134 t135 false).bind fun t145 => ((metrolabref01_Below.f a0).bind fun t146 => ((metrolabref01_signed.f t145 t146).bind fun t147 => (some t147))))))))) = some r := H
    have A8 := Aside0.mk A80
    clear A80
    replace H := Option.bind_eq_some_iff.mp H
    obtain ⟨t136, A90, H⟩ := H
    replace H : ((metrolabref01_Below.f a1).bind fun t137 => (if (t136 == t137) = true then ((metrolabref01_paper.f k t134 t135 true).bind fun t138 => ((metrolabref01_Below.f a0).bind fun t139 => ((metrolabref01_signed.f t138 t139).bind fun t140 => (some t140)))) else ((metrolabref01_less.f t134 t135).bind fun t141 => (if t141 = true then ((metrolabref01_paper.f k t135 t134 false).bind fun t142 => ((metrolabref01_Below.f a1).bind fun t143 => ((metrolabref01_signed.f t142 t143).bind fun t144 => (some t144)))) else ((metrolabref01_paper.f k t134 t135 false).bind fun t145 => ((metrolabref01_Below.f a0).bind fun t146 => ((metrolabref01_signed.f t145 t146).bind fun t147 => (some t147)))))))) = some r := H
    have A9 := Aside0.mk A90
    clear A90
    replace H := Option.bind_eq_some_iff.mp H
    obtain ⟨t137, A100, H⟩ := H
    replace H : (if (t136 == t137) = true then ((metrolabref01_paper.f k t134 t135 true).bind fun t138 => ((metrolabref01_Below.f a0).bind fun t139 => ((metrolabref01_signed.f t138 t139).bind fun t140 => (some t140)))) else ((metrolabref01_less.f t134 t135).bind fun t141 => (if t141 = true then ((metrolabref01_paper.f k t135 t134 false).bind fun t142 => ((metrolabref01_Below.f a1).bind fun t143 => ((metrolabref01_signed.f t142 t143).bind fun t144 => (some t144)))) else ((metrolabref01_paper.f k t134 t135 false).bind fun t145 => ((metrolabref01_Below.f a0).bind fun t146 => ((metrolabref01_signed.f t145 t146).bind fun t147 => (some t147))))))) = some r := H
    have A10 := Aside0.mk A100
    clear A100
    by_cases c11 : (t136 == t137) = true
    · rw [if_pos c11] at H
      have c11b0 : (t136 == t137) = true := c11
      (try (have c11b1 : decide (t136 = t137) = true := by simpa using c11))
      (try (have c11b2 : (t136 == t137) = true := by simpa using c11))
      clear c11
      replace H := Option.bind_eq_some_iff.mp H
      obtain ⟨t138, A120, H⟩ := H
      replace H : ((metrolabref01_Below.f a0).bind fun t139 => ((metrolabref01_signed.f t138 t139).bind fun t140 => (some t140))) = some r := H
      have A12 := Aside0.mk A120
      clear A120
      replace H := Option.bind_eq_some_iff.mp H
      obtain ⟨t139, A130, H⟩ := H
      replace H : ((metrolabref01_signed.f t138 t139).bind fun t140 => (some t140)) = some r := H
      have A13 := Aside0.mk A130
      clear A130
      replace H := Option.bind_eq_some_iff.mp H
      obtain ⟨t140, A140, H⟩ := H
      replace H : (some t140) = some r := H
      have A14 := Aside0.mk A140
      clear A140
      obtain rfl := Option.some.inj H
      go_enter Tryz.func65, Tryz.ntmps65
      go_wp2_with (first | ((with_reducible refine gate_callee (f := 71) rfl ?_); refine goesL_ (some 13) rfl rfl Tryz.func71 (by kernel_rfl) rfl #[.string a0, .string a1] rfl (by (try simp only [List.map_toArray, List.map_cons, List.map_nil]); first | done | rfl | (simp only [List.length_drop, List.length_take]; rfl)) ?_; (with_reducible refine (metrolabref01_brief.calls k a0 a1 t130 t131 false _ A3.out).mono ?_); rintro e w' ⟨rfl, ⟨nd, rfl⟩⟩; refine ⟨_, rfl, ?_⟩) | ((with_reducible refine gate_callee (f := 58) rfl ?_); refine goesL_ (some 23) rfl rfl Tryz.func58 (by kernel_rfl) rfl #[.string a0] rfl (by (try simp only [List.map_toArray, List.map_cons, List.map_nil]); first | done | rfl | (simp only [List.length_drop, List.length_take]; rfl)) ?_; (with_reducible refine (metrolabref01_size.calls a0 t134 _ A7.out).mono ?_); rintro e w' ⟨rfl, ⟨nd, rfl⟩⟩; refine ⟨_, rfl, ?_⟩) | ((with_reducible refine gate_callee (f := 58) rfl ?_); refine goesL_ (some 25) rfl rfl Tryz.func58 (by kernel_rfl) rfl #[.string a1] rfl (by (try simp only [List.map_toArray, List.map_cons, List.map_nil]); first | done | rfl | (simp only [List.length_drop, List.length_take]; rfl)) ?_; (with_reducible refine (metrolabref01_size.calls a1 t135 _ A8.out).mono ?_); rintro e w' ⟨rfl, ⟨nd, rfl⟩⟩; refine ⟨_, rfl, ?_⟩) | ((with_reducible refine gate_callee (f := 59) rfl ?_); refine goesL_ (some 27) rfl rfl Tryz.func59 (by kernel_rfl) rfl #[.string a0] rfl (by (try simp only [List.map_toArray, List.map_cons, List.map_nil]); first | done | rfl | (simp only [List.length_drop, List.length_take]; rfl)) ?_; (with_reducible refine (metrolabref01_Below.calls a0 t136 _ A9.out).mono ?_); rintro e w' ⟨rfl, ⟨nd, rfl⟩⟩; refine ⟨_, rfl, ?_⟩) | ((with_reducible refine gate_callee (f := 59) rfl ?_); refine goesL_ (some 29) rfl rfl Tryz.func59 (by kernel_rfl) rfl #[.string a1] rfl (by (try simp only [List.map_toArray, List.map_cons, List.map_nil]); first | done | rfl | (simp only [List.length_drop, List.length_take]; rfl)) ?_; (with_reducible refine (metrolabref01_Below.calls a1 t137 _ A10.out).mono ?_); rintro e w' ⟨rfl, ⟨nd, rfl⟩⟩; refine ⟨_, rfl, ?_⟩) | ((with_reducible refine gate_callee (f := 92) rfl ?_); refine goesL_ (some 33) rfl rfl Tryz.func92 (by kernel_rfl) rfl #[.string t134, .string t135, .bool true] rfl (by (try simp only [List.map_toArray, List.map_cons, List.map_nil]); first | done | rfl | (simp only [List.length_drop, List.length_take]; rfl)) ?_; (with_reducible refine (metrolabref01_paper.calls k t134 t135 true t138 _ A12.out).mono ?_); rintro e w15 ⟨rfl, hb⟩; refine ⟨_, rfl, ?_⟩; have n0_ := Aside0.mk (below_step (by repeat (first | (with_reducible first | exact HB.out | apply below_alloc | apply pw_below_drewN | apply below_drew1) | exact HB.out)) hb); clear HB; have HB := n0_; clear n0_; (try clear hb); (try clear hb2); (try clear hk); (try clear hi)) | ((with_reducible refine gate_callee (f := 59) rfl ?_); refine goesL_ (some 35) rfl rfl Tryz.func59 (by kernel_rfl) rfl #[.string a0] rfl (by (try simp only [List.map_toArray, List.map_cons, List.map_nil]); first | done | rfl | (simp only [List.length_drop, List.length_take]; rfl)) ?_; (with_reducible refine (metrolabref01_Below.calls a0 t139 _ A13.out).mono ?_); rintro e w' ⟨rfl, ⟨nd, rfl⟩⟩; refine ⟨_, rfl, ?_⟩) | ((with_reducible refine gate_callee (f := 72) rfl ?_); refine goesL_ (some 36) rfl rfl Tryz.func72 (by kernel_rfl) rfl #[.string t138, .bool t139] rfl (by (try simp only [List.map_toArray, List.map_cons, List.map_nil]); first | done | rfl | (simp only [List.length_drop, List.length_take]; rfl)) ?_; (with_reducible refine (metrolabref01_signed.calls t138 t139 t140 _ A14.out).mono ?_); rintro e w' ⟨rfl, ⟨nd, rfl⟩⟩; refine ⟨_, rfl, ?_⟩))
      go_ret
      exact ⟨by first | rfl | (simp [errW_none, errW_some] <;> rfl) | (simp [*, errW_none, errW_some] <;> rfl), by repeat (first | (with_reducible first | exact HB.out | apply below_alloc | apply pw_below_drewN | apply below_drew1) | exact HB.out)⟩
    · rw [if_neg c11] at H
      have c11b0 : (t136 == t137) = false := by simpa using c11
      (try (have c11b1 : decide (t136 = t137) = false := by simpa using c11))
      (try (have c11b2 : (t136 == t137) = false := by simpa using c11))
      (try (have c11b3 : ¬ (t136 = t137) := by simpa using c11))
      clear c11
      replace H := Option.bind_eq_some_iff.mp H
      obtain ⟨t141, A160, H⟩ := H
      replace H : (if t141 = true then ((metrolabref01_paper.f k t135 t134 false).bind fun t142 => ((metrolabref01_Below.f a1).bind fun t143 => ((metrolabref01_signed.f t142 t143).bind fun t144 => (some t144)))) else ((metrolabref01_paper.f k t134 t135 false).bind fun t145 => ((metrolabref01_Below.f a0).bind fun t146 => ((metrolabref01_signed.f t145 t146).bind fun t147 => (some t147))))) = some r := H
      have A16 := Aside0.mk A160
      clear A160
      by_cases c17 : t141 = true
      · subst c17
        have H1 : ((metrolabref01_paper.f k t135 t134 false).bind fun t142 => ((metrolabref01_Below.f a1).bind fun t143 => ((metrolabref01_signed.f t142 t143).bind fun t144 => (some t144)))) = some r := by rw [if_pos rfl] at H; exact H
        clear H
        have H := H1
        clear H1
        replace H := Option.bind_eq_some_iff.mp H
        obtain ⟨t142, A180, H⟩ := H
        replace H : ((metrolabref01_Below.f a1).bind fun t143 => ((metrolabref01_signed.f t142 t143).bind fun t144 => (some t144))) = some r := H
        have A18 := Aside0.mk A180
        clear A180
        replace H := Option.bind_eq_some_iff.mp H
        obtain ⟨t143, A190, H⟩ := H
        replace H : ((metrolabref01_signed.f t142 t143).bind fun t144 => (some t144)) = some r := H
        have A19 := Aside0.mk A190
        clear A190
        replace H := Option.bind_eq_some_iff.mp H
        obtain ⟨t144, A200, H⟩ := H
        replace H : (some t144) = some r := H
        have A20 := Aside0.mk A200
        clear A200
        obtain rfl := Option.some.inj H
        go_enter Tryz.func65, Tryz.ntmps65
        go_wp2_with (first | ((with_reducible refine gate_callee (f := 71) rfl ?_); refine goesL_ (some 13) rfl rfl Tryz.func71 (by kernel_rfl) rfl #[.string a0, .string a1] rfl (by (try simp only [List.map_toArray, List.map_cons, List.map_nil]); first | done | rfl | (simp only [List.length_drop, List.length_take]; rfl)) ?_; (with_reducible refine (metrolabref01_brief.calls k a0 a1 t130 t131 false _ A3.out).mono ?_); rintro e w' ⟨rfl, ⟨nd, rfl⟩⟩; refine ⟨_, rfl, ?_⟩) | ((with_reducible refine gate_callee (f := 58) rfl ?_); refine goesL_ (some 23) rfl rfl Tryz.func58 (by kernel_rfl) rfl #[.string a0] rfl (by (try simp only [List.map_toArray, List.map_cons, List.map_nil]); first | done | rfl | (simp only [List.length_drop, List.length_take]; rfl)) ?_; (with_reducible refine (metrolabref01_size.calls a0 t134 _ A7.out).mono ?_); rintro e w' ⟨rfl, ⟨nd, rfl⟩⟩; refine ⟨_, rfl, ?_⟩) | ((with_reducible refine gate_callee (f := 58) rfl ?_); refine goesL_ (some 25) rfl rfl Tryz.func58 (by kernel_rfl) rfl #[.string a1] rfl (by (try simp only [List.map_toArray, List.map_cons, List.map_nil]); first | done | rfl | (simp only [List.length_drop, List.length_take]; rfl)) ?_; (with_reducible refine (metrolabref01_size.calls a1 t135 _ A8.out).mono ?_); rintro e w' ⟨rfl, ⟨nd, rfl⟩⟩; refine ⟨_, rfl, ?_⟩) | ((with_reducible refine gate_callee (f := 59) rfl ?_); refine goesL_ (some 27) rfl rfl Tryz.func59 (by kernel_rfl) rfl #[.string a0] rfl (by (try simp only [List.map_toArray, List.map_cons, List.map_nil]); first | done | rfl | (simp only [List.length_drop, List.length_take]; rfl)) ?_; (with_reducible refine (metrolabref01_Below.calls a0 t136 _ A9.out).mono ?_); rintro e w' ⟨rfl, ⟨nd, rfl⟩⟩; refine ⟨_, rfl, ?_⟩) | ((with_reducible refine gate_callee (f := 59) rfl ?_); refine goesL_ (some 29) rfl rfl Tryz.func59 (by kernel_rfl) rfl #[.string a1] rfl (by (try simp only [List.map_toArray, List.map_cons, List.map_nil]); first | done | rfl | (simp only [List.length_drop, List.length_take]; rfl)) ?_; (with_reducible refine (metrolabref01_Below.calls a1 t137 _ A10.out).mono ?_); rintro e w' ⟨rfl, ⟨nd, rfl⟩⟩; refine ⟨_, rfl, ?_⟩) | ((with_reducible refine gate_callee (f := 93) rfl ?_); refine goesL_ (some 39) rfl rfl Tryz.func93 (by kernel_rfl) rfl #[.string t134, .string t135] rfl (by (try simp only [List.map_toArray, List.map_cons, List.map_nil]); first | done | rfl | (simp only [List.length_drop, List.length_take]; rfl)) ?_; (with_reducible refine (metrolabref01_less.calls t134 t135 true _ A16.out).mono ?_); rintro e w' ⟨rfl, ⟨nd, rfl⟩⟩; refine ⟨_, rfl, ?_⟩) | ((with_reducible refine gate_callee (f := 92) rfl ?_); refine goesL_ (some 42) rfl rfl Tryz.func92 (by kernel_rfl) rfl #[.string t135, .string t134, .bool false] rfl (by (try simp only [List.map_toArray, List.map_cons, List.map_nil]); first | done | rfl | (simp only [List.length_drop, List.length_take]; rfl)) ?_; (with_reducible refine (metrolabref01_paper.calls k t135 t134 false t142 _ A18.out).mono ?_); rintro e w21 ⟨rfl, hb⟩; refine ⟨_, rfl, ?_⟩; have n0_ := Aside0.mk (below_step (by repeat (first | (with_reducible first | exact HB.out | apply below_alloc | apply pw_below_drewN | apply below_drew1) | exact HB.out)) hb); clear HB; have HB := n0_; clear n0_; (try clear hb); (try clear hb2); (try clear hk); (try clear hi)) | ((with_reducible refine gate_callee (f := 59) rfl ?_); refine goesL_ (some 44) rfl rfl Tryz.func59 (by kernel_rfl) rfl #[.string a1] rfl (by (try simp only [List.map_toArray, List.map_cons, List.map_nil]); first | done | rfl | (simp only [List.length_drop, List.length_take]; rfl)) ?_; (with_reducible refine (metrolabref01_Below.calls a1 t143 _ A19.out).mono ?_); rintro e w' ⟨rfl, ⟨nd, rfl⟩⟩; refine ⟨_, rfl, ?_⟩) | ((with_reducible refine gate_callee (f := 72) rfl ?_); refine goesL_ (some 45) rfl rfl Tryz.func72 (by kernel_rfl) rfl #[.string t142, .bool t143] rfl (by (try simp only [List.map_toArray, List.map_cons, List.map_nil]); first | done | rfl | (simp only [List.length_drop, List.length_take]; rfl)) ?_; (with_reducible refine (metrolabref01_signed.calls t142 t143 t144 _ A20.out).mono ?_); rintro e w' ⟨rfl, ⟨nd, rfl⟩⟩; refine ⟨_, rfl, ?_⟩))
        go_ret
        exact ⟨by first | rfl | (simp [errW_none, errW_some] <;> rfl) | (simp [*, errW_none, errW_some] <;> rfl), by repeat (first | (with_reducible first | exact HB.out | apply below_alloc | apply pw_below_drewN | apply below_drew1) | exact HB.out)⟩
      · replace c17 := Bool.eq_false_iff.mpr c17
        subst c17
        have H1 : ((metrolabref01_paper.f k t134 t135 false).bind fun t145 => ((metrolabref01_Below.f a0).bind fun t146 => ((metrolabref01_signed.f t145 t146).bind fun t147 => (some t147)))) = some r := by rw [if_neg (show ¬ (false = true) by decide)] at H; exact H
        clear H
        have H := H1
        clear H1
        replace H := Option.bind_eq_some_iff.mp H
        obtain ⟨t145, A220, H⟩ := H
        replace H : ((metrolabref01_Below.f a0).bind fun t146 => ((metrolabref01_signed.f t145 t146).bind fun t147 => (some t147))) = some r := H
        have A22 := Aside0.mk A220
        clear A220
        replace H := Option.bind_eq_some_iff.mp H
        obtain ⟨t146, A230, H⟩ := H
        replace H : ((metrolabref01_signed.f t145 t146).bind fun t147 => (some t147)) = some r := H
        have A23 := Aside0.mk A230
        clear A230
        replace H := Option.bind_eq_some_iff.mp H
        obtain ⟨t147, A240, H⟩ := H
        replace H : (some t147) = some r := H
        have A24 := Aside0.mk A240
        clear A240
        obtain rfl := Option.some.inj H
        go_enter Tryz.func65, Tryz.ntmps65
        go_wp2_with (first | ((with_reducible refine gate_callee (f := 71) rfl ?_); refine goesL_ (some 13) rfl rfl Tryz.func71 (by kernel_rfl) rfl #[.string a0, .string a1] rfl (by (try simp only [List.map_toArray, List.map_cons, List.map_nil]); first | done | rfl | (simp only [List.length_drop, List.length_take]; rfl)) ?_; (with_reducible refine (metrolabref01_brief.calls k a0 a1 t130 t131 false _ A3.out).mono ?_); rintro e w' ⟨rfl, ⟨nd, rfl⟩⟩; refine ⟨_, rfl, ?_⟩) | ((with_reducible refine gate_callee (f := 58) rfl ?_); refine goesL_ (some 23) rfl rfl Tryz.func58 (by kernel_rfl) rfl #[.string a0] rfl (by (try simp only [List.map_toArray, List.map_cons, List.map_nil]); first | done | rfl | (simp only [List.length_drop, List.length_take]; rfl)) ?_; (with_reducible refine (metrolabref01_size.calls a0 t134 _ A7.out).mono ?_); rintro e w' ⟨rfl, ⟨nd, rfl⟩⟩; refine ⟨_, rfl, ?_⟩) | ((with_reducible refine gate_callee (f := 58) rfl ?_); refine goesL_ (some 25) rfl rfl Tryz.func58 (by kernel_rfl) rfl #[.string a1] rfl (by (try simp only [List.map_toArray, List.map_cons, List.map_nil]); first | done | rfl | (simp only [List.length_drop, List.length_take]; rfl)) ?_; (with_reducible refine (metrolabref01_size.calls a1 t135 _ A8.out).mono ?_); rintro e w' ⟨rfl, ⟨nd, rfl⟩⟩; refine ⟨_, rfl, ?_⟩) | ((with_reducible refine gate_callee (f := 59) rfl ?_); refine goesL_ (some 27) rfl rfl Tryz.func59 (by kernel_rfl) rfl #[.string a0] rfl (by (try simp only [List.map_toArray, List.map_cons, List.map_nil]); first | done | rfl | (simp only [List.length_drop, List.length_take]; rfl)) ?_; (with_reducible refine (metrolabref01_Below.calls a0 t136 _ A9.out).mono ?_); rintro e w' ⟨rfl, ⟨nd, rfl⟩⟩; refine ⟨_, rfl, ?_⟩) | ((with_reducible refine gate_callee (f := 59) rfl ?_); refine goesL_ (some 29) rfl rfl Tryz.func59 (by kernel_rfl) rfl #[.string a1] rfl (by (try simp only [List.map_toArray, List.map_cons, List.map_nil]); first | done | rfl | (simp only [List.length_drop, List.length_take]; rfl)) ?_; (with_reducible refine (metrolabref01_Below.calls a1 t137 _ A10.out).mono ?_); rintro e w' ⟨rfl, ⟨nd, rfl⟩⟩; refine ⟨_, rfl, ?_⟩) | ((with_reducible refine gate_callee (f := 93) rfl ?_); refine goesL_ (some 39) rfl rfl Tryz.func93 (by kernel_rfl) rfl #[.string t134, .string t135] rfl (by (try simp only [List.map_toArray, List.map_cons, List.map_nil]); first | done | rfl | (simp only [List.length_drop, List.length_take]; rfl)) ?_; (with_reducible refine (metrolabref01_less.calls t134 t135 false _ A16.out).mono ?_); rintro e w' ⟨rfl, ⟨nd, rfl⟩⟩; refine ⟨_, rfl, ?_⟩) | ((with_reducible refine gate_callee (f := 92) rfl ?_); refine goesL_ (some 48) rfl rfl Tryz.func92 (by kernel_rfl) rfl #[.string t134, .string t135, .bool false] rfl (by (try simp only [List.map_toArray, List.map_cons, List.map_nil]); first | done | rfl | (simp only [List.length_drop, List.length_take]; rfl)) ?_; (with_reducible refine (metrolabref01_paper.calls k t134 t135 false t145 _ A22.out).mono ?_); rintro e w25 ⟨rfl, hb⟩; refine ⟨_, rfl, ?_⟩; have n0_ := Aside0.mk (below_step (by repeat (first | (with_reducible first | exact HB.out | apply below_alloc | apply pw_below_drewN | apply below_drew1) | exact HB.out)) hb); clear HB; have HB := n0_; clear n0_; (try clear hb); (try clear hb2); (try clear hk); (try clear hi)) | ((with_reducible refine gate_callee (f := 59) rfl ?_); refine goesL_ (some 50) rfl rfl Tryz.func59 (by kernel_rfl) rfl #[.string a0] rfl (by (try simp only [List.map_toArray, List.map_cons, List.map_nil]); first | done | rfl | (simp only [List.length_drop, List.length_take]; rfl)) ?_; (with_reducible refine (metrolabref01_Below.calls a0 t146 _ A23.out).mono ?_); rintro e w' ⟨rfl, ⟨nd, rfl⟩⟩; refine ⟨_, rfl, ?_⟩) | ((with_reducible refine gate_callee (f := 72) rfl ?_); refine goesL_ (some 51) rfl rfl Tryz.func72 (by kernel_rfl) rfl #[.string t145, .bool t146] rfl (by (try simp only [List.map_toArray, List.map_cons, List.map_nil]); first | done | rfl | (simp only [List.length_drop, List.length_take]; rfl)) ?_; (with_reducible refine (metrolabref01_signed.calls t145 t146 t147 _ A24.out).mono ?_); rintro e w' ⟨rfl, ⟨nd, rfl⟩⟩; refine ⟨_, rfl, ?_⟩))
        go_ret
        exact ⟨by first | rfl | (simp [errW_none, errW_some] <;> rfl) | (simp [*, errW_none, errW_some] <;> rfl), by repeat (first | (with_reducible first | exact HB.out | apply below_alloc | apply pw_below_drewN | apply below_drew1) | exact HB.out)⟩
def metrolabref01_Minus.f (k : Nat) (a0 : ByteArray) (a1 : ByteArray) : Option (ByteArray) := (metrolabref01_Turned.f a1).bind fun t148 => ((metrolabref01_Plus.f k a0 t148).bind fun t149 => (some t149))
theorem metrolabref01_Minus.mono : ∀ a0 a1 k, LeO (metrolabref01_Minus.f k a0 a1) (metrolabref01_Minus.f (k + 1) a0 a1) := by
  intro a0 a1 k
  unfold metrolabref01_Minus.f
  repeat' first
      | (with_reducible exact metrolabref01_Plus.mono _ _ _)
      | (with_reducible exact LeO.refl _)
      | (with_reducible exact LeO.none _)
      | (with_reducible refine LeO.ite ?_ ?_)
      | (with_reducible refine LeO.bind ?_ (fun _ => ?_))
      | exact metrolabref01_Plus.mono _ _ _
      | exact LeO.none _
      | refine LeO.ite ?_ ?_
      | refine LeO.bind ?_ (fun _ => ?_)
def metrolabref01_Order.f (k : Nat) (a0 : ByteArray) (a1 : ByteArray) : Option (Int) := (metrolabref01_Minus.f k a0 a1).bind fun t150 => (if t150.toList = ([48] : List UInt8) then (some 0) else ((metrolabref01_Below.f t150).bind fun t151 => (if t151 = true then (some (-1)) else (some 1))))
theorem metrolabref01_Order.mono : ∀ a0 a1 k, LeO (metrolabref01_Order.f k a0 a1) (metrolabref01_Order.f (k + 1) a0 a1) := by
  intro a0 a1 k
  unfold metrolabref01_Order.f
  repeat' first
      | (with_reducible exact metrolabref01_Minus.mono _ _ _)
      | (with_reducible exact LeO.refl _)
      | (with_reducible exact LeO.none _)
      | (with_reducible refine LeO.ite ?_ ?_)
      | (with_reducible refine LeO.bind ?_ (fun _ => ?_))
      | exact metrolabref01_Minus.mono _ _ _
      | exact LeO.none _
      | refine LeO.ite ?_ ?_
      | refine LeO.bind ?_ (fun _ => ?_)
def metrolabref01_both.f (k : Nat) (a0 : ByteArray) (a1 : ByteArray) : Option (Int) := (metrolabref01_Check.f k a0).bind fun t152 => (if t152 = 0 then ((metrolabref01_Check.f k a1).bind fun t153 => (some t153)) else (some t152))
theorem metrolabref01_both.mono : ∀ a0 a1 k, LeO (metrolabref01_both.f k a0 a1) (metrolabref01_both.f (k + 1) a0 a1) := by
  intro a0 a1 k
  unfold metrolabref01_both.f
  repeat' first
      | (with_reducible exact metrolabref01_Check.mono _ _)
      | (with_reducible exact LeO.refl _)
      | (with_reducible exact LeO.none _)
      | (with_reducible refine LeO.ite ?_ ?_)
      | (with_reducible refine LeO.bind ?_ (fun _ => ?_))
      | exact metrolabref01_Check.mono _ _
      | exact LeO.none _
      | refine LeO.ite ?_ ?_
      | refine LeO.bind ?_ (fun _ => ?_)
end Go.Proofs.YtpkfnclbcmnckaaGreatDoor.ZP
set_option linter.unusedVariables false
namespace Go.Proofs.YtpkfnclbcmnckaaGreatDoor
open Go Go.RowKit Go.Proofs.YtpkfnclbcmnckaaGreatDoor.Dec Go.Proofs.YtpkfnclbcmnckaaGreatDoor.Mem Go.Proofs.YtpkfnclbcmnckaaGreatDoor.Wid Go.Proofs.YtpkfnclbcmnckaaGreatDoorW.PrintWords
theorem bt0 {s : ByteArray} {c : UInt8} {t : List UInt8} (h : s.data.toList = c :: t) : bt s 0 = (c.toNat : Int) := by
  have := bt_nat s 0
  rw [h, List.getD_cons_zero] at this
  exact this
theorem rsize_is (s : ByteArray) : ZP.metrolabref01_size.f s = some (magS s) := by
  unfold ZP.metrolabref01_size.f
  rw [toL]
  cases h : s.data.toList with
  | nil =>
    rw [if_pos rfl]
    congr 1
    refine bytes_ext ?_
    rw [magS_list, h]; rfl
  | cons c t =>
    have hs : s.size = t.length + 1 := by rw [size_list, h]; rfl
    rw [if_neg (by simp), if_pos (by omega), bt0 h]
    by_cases hc : c = 45
    · subst hc
      rw [if_pos (by decide), if_pos (by omega)]
      congr 1
      refine bytes_ext ?_
      rw [Lib.extract_to_end, magS_list, h]
      rfl
    · rw [if_neg (fun k => hc (u8_toNat (show c.toNat = 45 by omega)))]
      congr 1
      refine bytes_ext ?_
      rw [magS_list, h]
      unfold mag
      rw [if_neg]
      simpa using hc
theorem rcheck_loop (x : ByteArray) (hx : x.size ≤ 9223372036854775807) : ∀ (d i : Nat), x.size - i = d → i ≤ x.size →
    Ev (fun k => ZP.metrolabref01_Check.l0 k x (i : Int)) (if (x.data.toList.drop i).all isDig = true then (if 1024 < x.size then 11 else 0) else 3)
  | 0, i, hd, hi => by
    obtain rfl : i = x.size := by omega
    refine Ev.after 1 fun k => ?_
    simp only [ZP.metrolabref01_Check.l0]
    rw [if_neg (by omega), List.drop_of_length_le (by rw [← size_list]; exact Nat.le_refl _), show ([] : List UInt8).all isDig = true from rfl, if_pos rfl]
    by_cases h : 1024 < x.size
    · rw [if_pos (by omega), if_pos h]
    · rw [if_neg (by omega), if_neg h]
  | d + 1, i, hd, hi => by
    have hlt : i < x.data.toList.length := by rw [← size_list]; omega
    have hb : bt x (i : Int) = (x.data.toList[i].toNat : Int) := by rw [bt_nat, List.getD_eq_getElem?_getD, List.getElem?_eq_getElem hlt]; rfl
    rw [List.drop_eq_getElem_cons hlt, List.all_cons]
    by_cases hdg : isDig x.data.toList[i] = true
    · have h2 := (isDig_iff _).1 hdg
      rw [hdg, Bool.true_and]
      refine Ev.step (f := fun k => ZP.metrolabref01_Check.l0 k x ((i + 1 : Nat) : Int)) (fun k => ?_) (rcheck_loop x hx d (i + 1) (by omega) (by omega))
      simp only [ZP.metrolabref01_Check.l0]
      rw [if_pos (by omega), if_pos (by omega), hb, if_neg (by omega), if_neg (by omega), IntWalk.wrap64_in _ (by omega)]
      rfl
    · have h2 : ¬ (48 ≤ x.data.toList[i].toNat ∧ x.data.toList[i].toNat ≤ 57) := fun k => hdg ((isDig_iff _).2 k)
      have h3 : isDig x.data.toList[i] = false := by simpa using hdg
      rw [h3, Bool.false_and, if_neg (by decide)]
      refine Ev.after 1 fun k => ?_
      simp only [ZP.metrolabref01_Check.l0]
      rw [if_pos (by omega), if_pos (by omega), hb]
      by_cases h4 : x.data.toList[i].toNat < 48
      · rw [if_pos (by omega)]
      · rw [if_neg (by omega), if_pos (by omega)]
theorem rcheck_loop0 (x : ByteArray) (hx : x.size ≤ 9223372036854775807) :
    Ev (fun k => ZP.metrolabref01_Check.l0 k x 0) (if x.data.toList.all isDig = true then (if 1024 < x.size then 11 else 0) else 3) := rcheck_loop x hx x.size 0 (by omega) (by omega)
theorem rcheck_is (s : ByteArray) (hs : s.size ≤ 9223372036854775807) : Ev (fun k => ZP.metrolabref01_Check.f k s) (chk s) := by
  unfold ZP.metrolabref01_Check.f
  rw [rsize_is]
  simp only [Option.bind_some]
  have hm := magS_list s
  have hms : (magS s).size ≤ 9223372036854775807 := Nat.le_trans (magS_le s) hs
  have hlen : (magS s).size = (mag s.data.toList).length := magS_size s
  have hq : ∀ b, Ev (fun k => ZP.metrolabref01_Check.j0 k (magS s) b) (if b = true then 3 else if (mag s.data.toList).all isDig = true then (if 1024 < (mag s.data.toList).length then 11 else 0) else 3) := by
    intro b
    refine Ev.step (f := fun k => if b = true then some 3 else ZP.metrolabref01_Check.l0 k (magS s) 0) (fun k => rfl) ?_
    cases b
    · simp only [Bool.false_eq_true, if_false]
      have := rcheck_loop0 (magS s) hms
      rw [hm, hlen] at this
      exact this
    · simp only [if_true]
      exact Ev.now _
  have hb0 : ∀ c t, mag s.data.toList = c :: t → bt (magS s) 0 = (c.toNat : Int) := fun c t h => bt0 (hm.trans h)
  rw [toL, hm]
  unfold chk
  simp only
  generalize hd : mag s.data.toList = d at *
  cases d with
  | nil =>
    refine Ev.pos rfl ?_
    have := hq true
    rw [if_pos rfl] at this
    rw [if_pos (.inl rfl)]
    exact this
  | cons c t =>
    refine Ev.neg (by simp) ?_
    refine Ev.pos (by rw [hlen]; simp) ?_
    rw [hb0 c t rfl]
    by_cases hc : c = 48
    · subst hc
      refine Ev.pos (by decide) ?_
      by_cases ht : t = []
      · subst ht
        refine Ev.neg (by rw [hlen]; decide) ?_
        have hall : ([48] : List UInt8).all isDig = true := by decide
        have := hq (decide ((s.size : Int) > 1))
        have hss : s.data.toList = [48] ↔ ¬ ((s.size : Int) > 1) := by
          constructor
          · intro e; rw [size_list, e]; decide
          · intro e
            have h1 := mag_ge s.data.toList
            have h2 : s.data.toList.length ≤ 1 := by rw [← size_list]; omega
            unfold mag at hd
            split at hd
            · cases hl : s.data.toList with
              | nil => rw [hl] at hd; cases hd
              | cons a r => rw [hl] at hd h2; simp at h2; subst h2; cases hd
            · exact hd
        rw [if_neg (c := ([48] : List UInt8) = [] ∨ _) (by rintro (h | h); cases h; rw [hall] at h; cases h)]
        by_cases hg : (s.size : Int) > 1
        · rw [decide_eq_true hg] at this ⊢
          rw [if_pos rfl] at this
          have hne : s.data.toList ≠ [48] := fun k => hss.1 k hg
          have hcond : ([48] : List UInt8).head? = some 48 ∧ s.data.toList ≠ [48] := ⟨rfl, hne⟩
          rw [if_pos hcond]
          exact this
        · rw [decide_eq_false hg] at this ⊢
          rw [if_neg (by decide), if_pos hall] at this
          have hcond : ¬ (([48] : List UInt8).head? = some 48 ∧ s.data.toList ≠ [48]) := fun k => k.2 (hss.2 hg)
          rw [if_neg hcond]
          exact this
      · have hlt : 0 < t.length := List.length_pos_iff.2 ht
        refine Ev.pos (by rw [hlen, List.length_cons]; omega) ?_
        have := hq true
        rw [if_pos rfl] at this
        have hne : s.data.toList ≠ [48] := by
          intro e
          rw [e] at hd
          have h3 : ([48] : List UInt8) = 48 :: t := hd
          injection h3 with _ h4
          exact ht h4.symm
        have e3 : (if (48 :: t : List UInt8) = [] ∨ (48 :: t : List UInt8).all isDig = false then (3 : Int) else if (48 :: t : List UInt8).head? = some 48 ∧ s.data.toList ≠ [48] then 3 else if 1024 < (48 :: t : List UInt8).length then 11 else 0) = 3 := by
          split
          · rfl
          · rw [if_pos ⟨rfl, hne⟩]
        rw [e3]
        exact this
    · have hc' : ¬ ((c.toNat : Int) = 48) := fun k => hc (u8_toNat (show c.toNat = 48 by omega))
      refine Ev.neg hc' ?_
      have := hq false
      rw [if_neg (by decide)] at this
      have hcond : ¬ ((c :: t : List UInt8).head? = some 48 ∧ s.data.toList ≠ [48]) := fun k => hc (Option.some.inj k.1)
      by_cases hall : (c :: t : List UInt8).all isDig = true
      · rw [if_pos hall] at this
        rw [if_neg (by rintro (h | h); cases h; rw [hall] at h; cases h), if_neg hcond]
        exact this
      · rw [if_neg hall] at this
        have hf : (c :: t : List UInt8).all isDig = false := by simpa using hall
        rw [if_pos (.inr hf)]
        exact this
end Go.Proofs.YtpkfnclbcmnckaaGreatDoor
set_option linter.unusedVariables false
namespace Go.Proofs.YtpkfnclbcmnckaaGreatDoor
open Go Go.RowKit Go.Proofs.YtpkfnclbcmnckaaGreatDoor.Dec Go.Proofs.YtpkfnclbcmnckaaGreatDoor.Mem Go.Proofs.YtpkfnclbcmnckaaGreatDoor.Wid Go.Proofs.YtpkfnclbcmnckaaGreatDoorW.PrintWords
theorem dec_pos (z : Int) : 0 < (dec z).size := by
  rw [size_list, dec_list]
  unfold Lib.itoa
  split
  · simp
  · exact List.length_pos_iff.2 (decDigits_ne _)
theorem dec_first (z : Int) : bt (dec z) 0 = 45 ↔ z < 0 := by
  rw [← head_itoa z, ← dec_list]
  have hp := dec_pos z
  rw [size_list] at hp
  cases h : (dec z).data.toList with
  | nil => rw [h] at hp; exact absurd hp (by decide)
  | cons c t =>
    rw [bt0 h, List.head?_cons]
    constructor
    · intro e
      have hc : c = 45 := u8_toNat (show c.toNat = 45 by omega)
      rw [hc]
    · intro e
      obtain rfl := Option.some.inj e
      rfl
theorem rbelow_is (z : Int) : ZP.metrolabref01_Below.f (dec z) = some (decide (z < 0)) := by
  unfold ZP.metrolabref01_Below.f
  rw [if_pos (by have := dec_pos z; omega)]
  congr 1
  by_cases h : z < 0
  · rw [decide_eq_true h, (dec_first z).2 h]; rfl
  · rw [decide_eq_false h]
    exact beq_eq_false_iff_ne.2 (fun k => h ((dec_first z).1 k))
theorem magS_dec (z : Int) : magS (dec z) = dec (z.natAbs : Int) := by
  refine bytes_ext ?_
  rw [magS_list, dec_list, mag_itoa, dec_list]
  unfold Lib.itoa
  rw [if_neg (by omega), Int.toNat_natCast]
theorem rkept_is (z : Int) : ZP.metrolabref01_Kept.f (dec z) = some (lim z) := by
  unfold ZP.metrolabref01_Kept.f
  rw [rsize_is, Option.bind_some, magS_size]
  have h := chk_of_canon (canon_dec z)
  unfold lim
  by_cases h1 : 1024 < (mag (dec z).data.toList).length
  · rw [if_pos h1] at h
    rw [if_pos (by omega), h, if_neg (by decide)]
  · rw [if_neg h1] at h
    rw [if_neg (by omega), h, if_pos rfl]
theorem dec_neg_list (v : Nat) (h : 0 < v) : (dec (-(v : Int))).data.toList = 45 :: (dec (v : Int)).data.toList := by
  rw [dec_list, dec_list]
  unfold Lib.itoa
  rw [if_pos (by omega), if_neg (by omega), abs_neg, Int.toNat_natCast]
theorem dec_zero_iff (v : Nat) : (dec (v : Int)).data.toList = [48] ↔ v = 0 := by
  constructor
  · intro h
    have := iv_dec (v : Int)
    unfold iv at this
    rw [h, ival_zero] at this
    omega
  · rintro rfl
    exact itoa_zero
theorem rsigned_is (v : Nat) (l : Bool) (hs : (dec (v : Int)).size ≤ 9000000000000000000) : ZP.metrolabref01_signed.f (dec (v : Int)) l = some (dec (sv l v)) := by
  unfold ZP.metrolabref01_signed.f
  rw [toL]
  cases l
  · rfl
  · rw [if_pos rfl]
    by_cases h : v = 0
    · rw [if_pos ((dec_zero_iff v).2 h), h]; rfl
    · rw [if_neg (fun k => h ((dec_zero_iff v).1 k)), if_pos (by omega)]
      congr 1
      refine bytes_ext ?_
      rw [ByteArray.data_append, Array.toList_append]
      show [45] ++ _ = _
      rw [show sv true v = -(v : Int) from rfl, dec_neg_list v (by omega)]
      rfl
theorem rturned_is (z : Int) (hs : (dec (z.natAbs : Int)).size ≤ 9000000000000000000) : ZP.metrolabref01_Turned.f (dec z) = some (dec (-z)) := by
  unfold ZP.metrolabref01_Turned.f
  rw [rsize_is, Option.bind_some, magS_dec, rbelow_is, Option.bind_some, rsigned_is _ _ hs, Option.bind_some]
  congr 2
  unfold sv
  by_cases h : z < 0
  · rw [decide_eq_true h]; simp; omega
  · rw [decide_eq_false h]; simp; omega
end Go.Proofs.YtpkfnclbcmnckaaGreatDoor
set_option linter.unusedVariables false
namespace Go.Proofs.YtpkfnclbcmnckaaGreatDoor
open Go Go.RowKit Go.Proofs.YtpkfnclbcmnckaaGreatDoor.Dec Go.Proofs.YtpkfnclbcmnckaaGreatDoor.Mem Go.Proofs.YtpkfnclbcmnckaaGreatDoor.Wid Go.Proofs.YtpkfnclbcmnckaaGreatDoorW.PrintWords
theorem digit_str (d : Nat) (h : d < 10) : (strOfNums [(wrap64 (48 + (d : Int))) % 256]).data.toList = [UInt8.ofNat (48 + d)] := by
  rw [strOfNums_data, IntWalk.wrap64_in _ (by omega)]
  rw [show ((48 : Int) + (d : Int)) % 256 = ((48 + d : Nat) : Int) by omega]
  show [UInt8.ofNat ((48 + d : Nat) : Int).toNat] = _
  rw [Int.toNat_natCast]
theorem rof_loop (x : Nat) : ∀ (t : ByteArray), t.size + (Lib.decDigits x).length ≤ 1000000 → x ≤ 9223372036854775807 → Ev (fun k => ZP.metrolabref01_Of.l0 k (x : Int) t) ⟨(Lib.decDigits x ++ t.data.toList).toArray⟩ := by
  induction x using Nat.strongRecOn with
  | _ x ih =>
    intro t ht hx
    by_cases h : x < 10
    · refine Ev.after 1 fun k => ?_
      simp only [ZP.metrolabref01_Of.l0]
      have hd := digit_str x h
      rw [if_neg (by omega), Option.bind_some, if_pos (by rw [strOfNums_size]; show 1 + t.size ≤ _; omega)]
      congr 1
      refine bytes_ext ?_
      rw [ByteArray.data_append, Array.toList_append, hd, Lib.decDigits, dif_pos h]
    · have hd := digit_str (x % 10) (Nat.mod_lt _ (by decide))
      have e : (⟨(Lib.decDigits x ++ t.data.toList).toArray⟩ : ByteArray) = ⟨(Lib.decDigits (x / 10) ++ (strOfNums [(wrap64 (48 + ((x % 10 : Nat) : Int))) % 256] ++ t).data.toList).toArray⟩ := by
        rw [ByteArray.data_append, Array.toList_append, hd, Lib.decDigits, dif_neg h, List.append_assoc]
      rw [e]
      have hsz : (strOfNums [(wrap64 (48 + ((x % 10 : Nat) : Int))) % 256] ++ t).size = 1 + t.size := by
        rw [ByteArray.size_append, strOfNums_size]; rfl
      have h1 : x / 10 + 1 ≤ x := by omega
      refine Ev.step (f := fun k => ZP.metrolabref01_Of.l0 k ((x / 10 : Nat) : Int) (strOfNums [(wrap64 (48 + ((x % 10 : Nat) : Int))) % 256] ++ t)) (fun k => ?_) (ih (x / 10) (by omega) _ (by rw [hsz]; rw [Lib.decDigits, dif_neg h, List.length_append] at ht; simp only [List.length_cons, List.length_nil] at ht; omega) (by omega))
      simp only [ZP.metrolabref01_Of.l0]
      have q1 : Int.tmod (x : Int) 10 = ((x % 10 : Nat) : Int) := tm x 10
      have q2 : Int.tdiv (x : Int) 10 = ((x / 10 : Nat) : Int) := td x 10
      rw [if_pos (by omega), q1, q2, Option.bind_some, if_pos (by rw [strOfNums_size]; show 1 + t.size ≤ _; omega), IntWalk.wrap64_in ((x / 10 : Nat) : Int) (by omega)]
theorem dec_nat (x : Nat) : dec (x : Int) = ⟨(Lib.decDigits x).toArray⟩ := by
  unfold dec Lib.itoa
  rw [if_neg (by omega), Int.toNat_natCast]
theorem digits_20 (v : Nat) (h : v ≤ 9223372036854775808) : (Lib.decDigits v).length ≤ 20 := by
  rw [Lib.decDigits_length, nDigits_le_iff _ _ (by decide)]
  omega
theorem dec_size_small (v : Nat) (h : v ≤ 9223372036854775808) : (dec (v : Int)).size ≤ 9000000000000000000 := by
  rw [dec_nat, size_list]
  have := digits_20 v h
  show (Lib.decDigits v).length ≤ _
  omega
theorem rof_nat (x : Nat) (hx : x ≤ 9223372036854775807) : Ev (fun k => ZP.metrolabref01_Of.l0 k (x : Int) ⟨#[]⟩) (dec (x : Int)) := by
  have := rof_loop x ⟨#[]⟩ (by show 0 + _ ≤ _; have := digits_20 x (by omega); omega) hx
  rw [dec_nat]
  simpa using this
theorem rof_pos (x : Nat) (hx : x ≤ 9223372036854775807) : Ev (fun k => ZP.metrolabref01_Of.f k (x : Int)) (dec (x : Int)) := by
  have hj : ∀ b : Bool, b = false → Ev (fun k => ZP.metrolabref01_Of.j0 k (x : Int) b) (dec (x : Int)) := by
    rintro b rfl
    refine Ev.step (f := fun k => ZP.metrolabref01_Of.l0 k (x : Int) ⟨#[]⟩) (fun k => ?_) (rof_nat x hx)
    simp only [ZP.metrolabref01_Of.j0]
    rw [if_neg (by decide), if_neg (by omega)]
  by_cases h0 : x = 0
  · subst h0
    refine Ev.step (f := fun k => ZP.metrolabref01_Of.j0 k ((0 : Nat) : Int) false) (fun k => ?_) (hj false rfl)
    simp only [ZP.metrolabref01_Of.f]
    rw [if_pos (by unfold wrap64; omega)]
    rfl
  · refine Ev.step (f := fun k => ZP.metrolabref01_Of.j0 k (x : Int) false) (fun k => ?_) (hj false rfl)
    simp only [ZP.metrolabref01_Of.f]
    rw [IntWalk.wrap64_in _ (by omega), if_neg (by omega)]
theorem rof_is (z : Int) (h0 : -9223372036854775808 ≤ z) (h1 : z ≤ 9223372036854775807) : Ev (fun k => ZP.metrolabref01_Of.f k z) (dec z) := by
  by_cases hn : 0 ≤ z
  · obtain ⟨x, rfl⟩ : ∃ x : Nat, z = (x : Int) := ⟨z.toNat, by omega⟩
    exact rof_pos x (by omega)
  · by_cases hm : z = -9223372036854775808
    · subst hm
      refine Ev.after 2 fun k => ?_
      simp only [ZP.metrolabref01_Of.f, ZP.metrolabref01_Of.j0]
      rw [if_pos (by unfold wrap64; omega), if_pos (by decide)]
      congr 1
      exact (dec_of (by decide) (by decide)).symm
    · obtain ⟨x, hx⟩ : ∃ x : Nat, z = -(x : Int) := ⟨z.natAbs, by omega⟩
      subst hx
      refine Ev.step (f := fun k => ZP.metrolabref01_Of.j0 k (-(x : Int)) false) (fun k => ?_) ?_
      · simp only [ZP.metrolabref01_Of.f]
        rw [IntWalk.wrap64_in _ (by omega), if_neg (by omega)]
      · refine Ev.step (f := fun k => (ZP.metrolabref01_Of.f k (x : Int)).bind fun t => (ZP.metrolabref01_Turned.f t).bind fun u => some u) (fun k => ?_) ?_
        · simp only [ZP.metrolabref01_Of.j0]
          rw [if_neg (by decide), if_pos (by omega), IntWalk.wrap64_in _ (by omega), Int.neg_neg]
        · refine Ev.bind (rof_pos x (by omega)) ?_
          rw [rturned_is (x : Int) (by rw [abs_nat]; exact dec_size_small x (by omega))]
          exact Ev.now _
theorem val_take_le (l : List UInt8) (i : Nat) : val (l.take i) ≤ val l := by
  have h : val l = val (l.take i) * 10 ^ (l.drop i).length + val (l.drop i) := by rw [← val_append, List.take_append_drop]
  have hp : 1 ≤ 10 ^ (l.drop i).length := Nat.one_le_pow _ _ (by decide)
  have : val (l.take i) * 1 ≤ val (l.take i) * 10 ^ (l.drop i).length := Nat.mul_le_mul_left _ hp
  omega
theorem val_take_succ (l : List UInt8) (i : Nat) (h : i < l.length) : val (l.take (i + 1)) = 10 * val (l.take i) + (l[i].toNat - 48) := by
  rw [List.take_succ_eq_append_getElem h, val_snoc]
theorem rnum_loop (z : Int) (hz : z.natAbs < 1000000000000000000) : ∀ (d i : Nat), (Lib.decDigits z.natAbs).length - i = d → i ≤ (Lib.decDigits z.natAbs).length →
    Ev (fun k => ZP.metrolabref01_number.l0 k (dec z) ((val ((Lib.decDigits z.natAbs).take i) : Nat) : Int) (dec (z.natAbs : Int)) (i : Int)) z
  | 0, i, hd, hi => by
    obtain rfl : i = (Lib.decDigits z.natAbs).length := by omega
    have hs : (dec (z.natAbs : Int)).size = (Lib.decDigits z.natAbs).length := by rw [dec_nat, size_list]
    refine Ev.after 1 fun k => ?_
    simp only [ZP.metrolabref01_number.l0]
    rw [if_neg (by rw [hs]; omega), List.take_length, decDigits_val, rbelow_is, Option.bind_some]
    by_cases h : z < 0
    · rw [decide_eq_true h, if_pos rfl, IntWalk.wrap64_in _ (by omega)]
      congr 1
      omega
    · rw [decide_eq_false h, if_neg (by decide)]
      congr 1
      omega
  | d + 1, i, hd, hi => by
    have hlt : i < (Lib.decDigits z.natAbs).length := by omega
    have hs : (dec (z.natAbs : Int)).size = (Lib.decDigits z.natAbs).length := by rw [dec_nat, size_list]
    have hb : bt (dec (z.natAbs : Int)) (i : Int) = ((Lib.decDigits z.natAbs)[i].toNat : Int) := by
      rw [bt_nat, dec_nat, List.getD_eq_getElem?_getD]
      show ((((Lib.decDigits z.natAbs)[i]?).getD 0).toNat : Int) = _
      rw [List.getElem?_eq_getElem hlt]
      rfl
    have hdg := (isDig_iff _).1 (decDigits_dig z.natAbs _ (List.getElem_mem hlt))
    have hv := val_take_succ _ i hlt
    have hv1 := val_take_le (Lib.decDigits z.natAbs) i
    have hv2 := val_take_le (Lib.decDigits z.natAbs) (i + 1)
    rw [decDigits_val] at hv1 hv2
    refine Ev.step (f := fun k => ZP.metrolabref01_number.l0 k (dec z) ((val ((Lib.decDigits z.natAbs).take (i + 1)) : Nat) : Int) (dec (z.natAbs : Int)) ((i + 1 : Nat) : Int)) (fun k => ?_) (rnum_loop z hz d (i + 1) (by omega) (by omega))
    have hl20 := digits_20 z.natAbs (by omega)
    simp only [ZP.metrolabref01_number.l0]
    rw [if_pos (by rw [hs]; omega), if_pos (by omega), hb, hv]
    generalize val ((Lib.decDigits z.natAbs).take i) = v at *
    generalize (Lib.decDigits z.natAbs)[i].toNat = c at *
    rw [IntWalk.wrap64_in (10 * (v : Int)) (by omega), show ((c : Int) - 48) % 256 = (c : Int) - 48 by omega, IntWalk.wrap64_in (10 * (v : Int) + ((c : Int) - 48)) (by omega), IntWalk.wrap64_in ((i : Int) + 1) (by omega)]
    congr 1
    omega
theorem rnumber_is (z : Int) (hz : z.natAbs < 1000000000000000000) : Ev (fun k => ZP.metrolabref01_number.f k (dec z)) z := by
  unfold ZP.metrolabref01_number.f
  rw [rsize_is, magS_dec]
  simp only [Option.bind_some]
  exact rnum_loop z hz _ 0 rfl (Nat.zero_le _)
def brief18 (x y : Int) : Prop := (dec (x.natAbs : Int)).size ≤ 18 ∧ (dec (y.natAbs : Int)).size ≤ 18
theorem size_18 {v : Nat} (h : (dec (v : Int)).size ≤ 18) : v < 1000000000000000000 := by
  rw [dec_nat, size_list] at h
  have h2 : (Lib.decDigits v).length ≤ 18 := h
  rw [Lib.decDigits_length, nDigits_le_iff _ _ (by decide)] at h2
  exact h2
theorem rbrief_yes (x y : Int) (h : brief18 x y) : Ev (fun k => ZP.metrolabref01_brief.f k (dec x) (dec y)) (x, y, true) := by
  unfold ZP.metrolabref01_brief.f
  rw [rsize_is, rsize_is, magS_dec, magS_dec]
  simp only [Option.bind_some]
  refine Ev.neg (by have := h.1; omega) ?_
  rw [decide_eq_false (by have := h.2; omega)]
  refine Ev.step (f := fun k => (ZP.metrolabref01_number.f k (dec x)).bind fun t => (ZP.metrolabref01_number.f k (dec y)).bind fun u => some (t, u, true)) (fun k => rfl) ?_
  exact Ev.bind (rnumber_is x (size_18 h.1)) (Ev.bind (rnumber_is y (size_18 h.2)) (Ev.now _))
theorem rbrief_no (x y : Int) (h : ¬ brief18 x y) : Ev (fun k => ZP.metrolabref01_brief.f k (dec x) (dec y)) (0, 0, false) := by
  unfold ZP.metrolabref01_brief.f
  rw [rsize_is, rsize_is, magS_dec, magS_dec]
  simp only [Option.bind_some]
  by_cases h1 : (dec (x.natAbs : Int)).size ≤ 18
  · have h2 : ¬ (dec (y.natAbs : Int)).size ≤ 18 := fun k => h ⟨h1, k⟩
    refine Ev.neg (by omega) ?_
    rw [decide_eq_true (by omega)]
    exact Ev.after 1 fun k => rfl
  · refine Ev.pos (by omega) ?_
    exact Ev.after 1 fun k => rfl
end Go.Proofs.YtpkfnclbcmnckaaGreatDoor
set_option linter.unusedVariables false
namespace Go.Proofs.YtpkfnclbcmnckaaGreatDoor
open Go Go.RowKit Go.Proofs.YtpkfnclbcmnckaaGreatDoor.Dec Go.Proofs.YtpkfnclbcmnckaaGreatDoor.Mem Go.Proofs.YtpkfnclbcmnckaaGreatDoor.Wid Go.Proofs.YtpkfnclbcmnckaaGreatDoorW.PrintWords
theorem rbare_from : ∀ (n : Nat) (s : ByteArray), s.size = n → 0 < n → (∀ c ∈ s.data.toList, isDig c = true) → Ev (fun k => ZP.metrolabref01_bare.l0 k s) (dec (val s.data.toList : Nat))
  | 0, s, _, h, _ => absurd h (by decide)
  | 1, s, hn, _, hd => by
    have hl : s.data.toList.length = 1 := by rw [← size_list]; exact hn
    obtain ⟨c, hc⟩ := List.length_eq_one_iff.1 hl
    have hcd := (isDig_iff c).1 (hd c (by rw [hc]; simp))
    refine Ev.after 1 fun k => ?_
    simp only [ZP.metrolabref01_bare.l0]
    rw [if_neg (by omega)]
    congr 1
    refine bytes_ext ?_
    rw [dec_nat, hc]
    show [c] = Lib.decDigits (val [c])
    rw [canonN_eq [c] ⟨by simp, by simpa [isDig] using hcd, fun h => by simpa using h⟩]
  | n + 2, s, hn, _, hd => by
    have hl : s.data.toList.length = n + 2 := by rw [← size_list]; exact hn
    obtain ⟨c, t, hc⟩ : ∃ c t, s.data.toList = c :: t := by
      cases h : s.data.toList with
      | nil => rw [h] at hl; cases hl
      | cons c t => exact ⟨c, t, rfl⟩
    have hb := bt0 hc
    by_cases h48 : c = 48
    · have ht : (s.extract 1 s.size).data.toList = t := by rw [Lib.extract_to_end, hc]; rfl
      have hts : (s.extract 1 s.size).size = n + 1 := by rw [size_list, ht]; rw [hc] at hl; simpa using hl
      have ih := rbare_from (n + 1) (s.extract 1 s.size) hts (by omega) (fun x hx => hd x (by rw [hc]; rw [ht] at hx; simp [hx]))
      rw [ht] at ih
      have hv : val s.data.toList = val t := by rw [hc, val_cons, h48]; simp
      rw [hv]
      refine Ev.step (f := fun k => ZP.metrolabref01_bare.l0 k (s.extract 1 s.size)) (fun k => ?_) ih
      simp only [ZP.metrolabref01_bare.l0]
      rw [if_pos (by omega), if_pos (by omega), hb, h48, if_pos (by decide), if_pos (by omega)]
    · refine Ev.after 1 fun k => ?_
      simp only [ZP.metrolabref01_bare.l0]
      rw [if_pos (by omega), if_pos (by omega), hb, if_neg (fun k => h48 (u8_toNat (show c.toNat = 48 by omega)))]
      congr 1
      refine bytes_ext ?_
      rw [dec_nat]
      show s.data.toList = Lib.decDigits (val s.data.toList)
      rw [canonN_eq _ ⟨by rw [hc]; simp, hd, fun h => by rw [hc] at h; exact absurd (Option.some.inj h) h48⟩]
theorem rbare_is (s : ByteArray) (h0 : 0 < s.size) (hd : ∀ c ∈ s.data.toList, isDig c = true) : Ev (fun k => ZP.metrolabref01_bare.f k s) (dec (val s.data.toList : Nat)) := rbare_from s.size s rfl h0 hd
theorem less_cmp : ∀ (l m : List UInt8), Op.bytesLess l m = decide (Lib.compareBytes l m < 0)
  | [], [] => rfl
  | _ :: _, [] => rfl
  | [], _ :: _ => rfl
  | a :: l, b :: m => by
    have ih := less_cmp l m
    unfold Op.bytesLess Lib.compareBytes
    by_cases h1 : a < b
    · rw [if_pos h1]
      simp [h1]
    · rw [if_neg h1]
      by_cases h2 : b < a
      · rw [if_pos h2]
        have hne : (a == b) = false := beq_eq_false_iff_ne.2 (by rintro rfl; exact h1 h2)
        simp [h1, hne]
      · have e : a = b := u8_toNat (by
          have a1 : ¬ a.toNat < b.toNat := fun k => h1 (UInt8.lt_iff_toNat_lt.2 k)
          have a2 : ¬ b.toNat < a.toNat := fun k => h2 (UInt8.lt_iff_toNat_lt.2 k)
          omega)
        subst e
        rw [if_neg h2, ih]
        simp [h1]
theorem rless_is (x y : Nat) : ZP.metrolabref01_less.f (dec (x : Int)) (dec (y : Int)) = some (decide (x < y)) := by
  unfold ZP.metrolabref01_less.f
  rw [toL, toL, dec_nat, dec_nat, size_list, size_list]
  show (if ((Lib.decDigits x).length : Int) < ((Lib.decDigits y).length : Int) then some true else if ((Lib.decDigits x).length : Int) = ((Lib.decDigits y).length : Int) then some (Op.bytesLess (Lib.decDigits x) (Lib.decDigits y)) else some false) = _
  have h1 := decDigits_canon x
  have h2 := decDigits_canon y
  have l1 := len_val h1 h2
  have l2 := len_val h2 h1
  rw [decDigits_val, decDigits_val] at l1 l2
  by_cases hlt : (Lib.decDigits x).length < (Lib.decDigits y).length
  · rw [if_pos (by omega), decide_eq_true (l1 hlt)]
  · rw [if_neg (by omega)]
    by_cases heq : (Lib.decDigits x).length = (Lib.decDigits y).length
    · rw [if_pos (by omega), less_cmp, cmp_digits _ _ heq h1.2.1 h2.2.1, decDigits_val, decDigits_val]
      congr 1
      unfold cmpI
      by_cases h : x < y
      · rw [if_pos (by omega), decide_eq_true h]; rfl
      · rw [if_neg (by omega), decide_eq_false h]
        split <;> rfl
    · rw [if_neg (by omega), decide_eq_false (by have := l2 (by omega); omega)]
end Go.Proofs.YtpkfnclbcmnckaaGreatDoor
set_option linter.unusedVariables false
namespace Go.Proofs.YtpkfnclbcmnckaaGreatDoor
open Go Go.RowKit Go.Proofs.YtpkfnclbcmnckaaGreatDoor.Dec Go.Proofs.YtpkfnclbcmnckaaGreatDoor.Mem Go.Proofs.YtpkfnclbcmnckaaGreatDoor.Wid Go.Proofs.YtpkfnclbcmnckaaGreatDoorW.PrintWords Go.Proofs.YtpkfnclbcmnckaaGreatDoorW.PrintMore
/-- One column: the digit, and the carry. -/
theorem rcol_add (a b c : Nat) (ha : a < 10) (hb : b < 10) (hc : c ≤ 1) : ∃ d e : Nat, d < 10 ∧ e ≤ 1 ∧ d + 10 * e = a + b + c ∧
    ∀ k, ZP.metrolabref01_column.f (k + 1) ((48 + a : Nat) : Int) ((48 + b : Nat) : Int) (c : Int) true = some (((48 + d : Nat) : Int), (e : Int)) := by
  by_cases h : a + b + c > 9
  · refine ⟨a + b + c - 10, 1, by omega, by omega, by omega, fun k => ?_⟩
    unfold ZP.metrolabref01_column.f
    rw [if_pos rfl, show (((48 + a : Nat) : Int) - 48) % 256 + (((48 + b : Nat) : Int) - 48) % 256 + (c : Int) = ((a + b + c : Nat) : Int) by omega, IntWalk.wrap64_in ((a + b + c : Nat) : Int) (by omega)]
    simp only [ZP.metrolabref01_column.j0]
    rw [if_pos (by omega), IntWalk.wrap64_in (48 + ((a + b + c : Nat) : Int)) (by omega), IntWalk.wrap64_in _ (by omega)]
    congr 2
    omega
  · refine ⟨a + b + c, 0, by omega, by omega, by omega, fun k => ?_⟩
    unfold ZP.metrolabref01_column.f
    rw [if_pos rfl, show (((48 + a : Nat) : Int) - 48) % 256 + (((48 + b : Nat) : Int) - 48) % 256 + (c : Int) = ((a + b + c : Nat) : Int) by omega, IntWalk.wrap64_in ((a + b + c : Nat) : Int) (by omega)]
    simp only [ZP.metrolabref01_column.j0]
    rw [if_neg (by omega), if_neg (by omega), IntWalk.wrap64_in _ (by omega)]
    congr 2
    omega
theorem rcol_sub (a b c : Nat) (ha : a < 10) (hb : b < 10) (hc : c ≤ 1) : ∃ d e : Nat, d < 10 ∧ e ≤ 1 ∧ d + b + c = a + 10 * e ∧
    ∀ k, ZP.metrolabref01_column.f (k + 1) ((48 + a : Nat) : Int) ((48 + b : Nat) : Int) (c : Int) false = some (((48 + d : Nat) : Int), (e : Int)) := by
  by_cases h : a < b + c
  · refine ⟨a + 10 - b - c, 1, by omega, by omega, by omega, fun k => ?_⟩
    unfold ZP.metrolabref01_column.f
    rw [if_neg (by decide), show (((48 + a : Nat) : Int) - 48) % 256 - (((48 + b : Nat) : Int) - 48) % 256 - (c : Int) = (a : Int) - (b : Int) - (c : Int) by omega, IntWalk.wrap64_in ((a : Int) - (b : Int) - (c : Int)) (by omega)]
    simp only [ZP.metrolabref01_column.j0]
    rw [if_neg (by omega), if_pos (by omega), IntWalk.wrap64_in (48 + ((a : Int) - (b : Int) - (c : Int))) (by omega), IntWalk.wrap64_in _ (by omega)]
    congr 2
    omega
  · refine ⟨a - b - c, 0, by omega, by omega, by omega, fun k => ?_⟩
    unfold ZP.metrolabref01_column.f
    rw [if_neg (by decide), show (((48 + a : Nat) : Int) - 48) % 256 - (((48 + b : Nat) : Int) - 48) % 256 - (c : Int) = (a : Int) - (b : Int) - (c : Int) by omega, IntWalk.wrap64_in ((a : Int) - (b : Int) - (c : Int)) (by omega)]
    simp only [ZP.metrolabref01_column.j0]
    rw [if_neg (by omega), if_neg (by omega), IntWalk.wrap64_in _ (by omega)]
    congr 2
    omega
/-- Digits as the whole numbers of a row of bytes. -/
def nums (l : List UInt8) : List Int := l.map fun c => (c.toNat : Int)
theorem str_nums (l : List UInt8) : (strOfNums (nums l)).data.toList = l := by
  rw [strOfNums_data, nums, List.map_map]
  have : ((fun n : Int => UInt8.ofNat n.toNat) ∘ fun c : UInt8 => (c.toNat : Int)) = id := by
    funext c
    simp
  rw [this, List.map_id]
theorem dig_at {l : List UInt8} (hd : ∀ c ∈ l, isDig c = true) {j : Nat} (hj : j < l.length) : ∃ a : Nat, a < 10 ∧ l[j].toNat = 48 + a := by
  have := (isDig_iff _).1 (hd _ (List.getElem_mem hj))
  exact ⟨l[j].toNat - 48, by omega, by omega⟩
theorem val_drop (l : List UInt8) {j : Nat} (hj : j < l.length) : val (l.drop j) = (l[j].toNat - 48) * 10 ^ (l.length - (j + 1)) + val (l.drop (j + 1)) := by
  rw [List.drop_eq_getElem_cons hj, val_cons, List.length_drop]
theorem bt_dj (s : ByteArray) {j : Nat} (hj : j < s.data.toList.length) : bt s (j : Int) = (s.data.toList[j].toNat : Int) := by
  rw [bt_nat, List.getD_eq_getElem?_getD, List.getElem?_eq_getElem hj]; rfl
theorem set_row (j d : Nat) (D : List UInt8) : (List.replicate (j + 1) (0 : Int) ++ nums D).set j ((48 + d : Nat) : Int) = List.replicate j 0 ++ (((48 + d : Nat) : Int) :: nums D) := by
  rw [List.replicate_succ', List.append_assoc, List.set_append_right _ _ (by simp), List.length_replicate, Nat.sub_self]
  rfl
theorem nums_cons (d : Nat) (hd : d < 10) (D : List UInt8) : (((48 + d : Nat) : Int) :: nums D) = nums (UInt8.ofNat (48 + d) :: D) := by
  unfold nums
  rw [List.map_cons, u8_ofNat _ (by omega)]
/-- Adding, column by column. -/
theorem rpaper_add (A C : ByteArray) (n : Nat) (hA : A.data.toList.length = n) (hC : C.data.toList.length = n) (dA : ∀ c ∈ A.data.toList, isDig c = true) (dC : ∀ c ∈ C.data.toList, isDig c = true) (hn0 : 0 < n) (hn : n ≤ 100000) (Z : Nat) (hZ : val A.data.toList + val C.data.toList = Z) (hlt : Z < 10 ^ n) :
    ∀ (j : Nat) (D : List UInt8) (c : Nat), j + D.length = n → (∀ x ∈ D, isDig x = true) → c ≤ 1 → val D + c * 10 ^ (n - j) = val (A.data.toList.drop j) + val (C.data.toList.drop j) →
    Ev (fun k => ZP.metrolabref01_paper.l0 k A C true (List.replicate j 0 ++ nums D) (c : Int) ((j : Int) - 1)) (dec (Z : Nat))
  | 0, D, c, hl, hd, hc, hv => by
    rw [List.drop_zero, List.drop_zero, Nat.sub_zero, hZ] at hv
    have hc0 : c = 0 := by
      rcases Nat.eq_zero_or_pos c with h | h
      · exact h
      · have : c = 1 := by omega
        subst this
        omega
    subst hc0
    have hvD : val D = Z := by omega
    have hs := str_nums D
    refine Ev.step (f := fun k => (ZP.metrolabref01_bare.f k (strOfNums (nums D))).bind fun t => some t) (fun k => ?_) ?_
    · simp only [ZP.metrolabref01_paper.l0]
      rw [if_neg (by omega)]
      rfl
    · have hb := rbare_is (strOfNums (nums D)) (by rw [size_list, hs]; omega) (by rw [hs]; exact hd)
      rw [hs, hvD] at hb
      exact Ev.bind hb (Ev.now _)
  | j + 1, D, c, hl, hd, hc, hv => by
    have jA : j < A.data.toList.length := by omega
    have jC : j < C.data.toList.length := by omega
    obtain ⟨a, ha, ea⟩ := dig_at dA jA
    obtain ⟨b, hb, eb⟩ := dig_at dC jC
    obtain ⟨d, e, hd9, he1, hde, hcol⟩ := rcol_add a b c ha hb hc
    have hdd : isDig (UInt8.ofNat (48 + d)) = true := (isDig_iff _).2 (by rw [u8_ofNat _ (by omega)]; omega)
    have hnew : val (UInt8.ofNat (48 + d) :: D) + e * 10 ^ (n - j) = val (A.data.toList.drop j) + val (C.data.toList.drop j) := by
      rw [val_cons, u8_ofNat _ (by omega), val_drop _ jA, val_drop _ jC, ea, eb, hA, hC, show D.length = n - (j + 1) by omega]
      have hp : 10 ^ (n - j) = 10 * 10 ^ (n - (j + 1)) := by rw [show n - j = (n - (j + 1)) + 1 by omega, Nat.pow_succ, Nat.mul_comm]
      rw [hp, show 48 + d - 48 = d by omega, show 48 + a - 48 = a by omega, show 48 + b - 48 = b by omega]
      generalize 10 ^ (n - (j + 1)) = P at *
      have h1 : (d + 10 * e) * P = (a + b + c) * P := by rw [hde]
      rw [Nat.add_mul, Nat.add_mul, Nat.add_mul] at h1
      have h2 : e * (10 * P) = 10 * e * P := by rw [← Nat.mul_assoc, Nat.mul_comm e 10]
      rw [h2]
      omega
    have ih := rpaper_add A C n hA hC dA dC hn0 hn Z hZ hlt j (UInt8.ofNat (48 + d) :: D) e (by simp; omega) (by intro x hx; rcases List.mem_cons.1 hx with rfl | hx; exact hdd; exact hd x hx) he1 hnew
    rw [← nums_cons d hd9] at ih
    refine Ev.step (f := fun k => (ZP.metrolabref01_column.f k ((48 + a : Nat) : Int) ((48 + b : Nat) : Int) (c : Int) true).bind fun bt => ZP.metrolabref01_paper.l0 k A C true ((List.replicate (j + 1) 0 ++ nums D).set j bt.1) bt.2 ((j : Int) - 1)) (fun k => ?_) ?_
    · simp only [ZP.metrolabref01_paper.l0]
      have hlen : (List.replicate (j + 1) (0 : Int) ++ nums D).length = n := by rw [List.length_append, List.length_replicate, nums, List.length_map]; omega
      have ej : ((j + 1 : Nat) : Int) - 1 = (j : Int) := by omega
      rw [ej, if_pos (by omega), if_pos (by omega), if_pos (by rw [size_list]; omega), if_pos (by rw [size_list]; omega), bt_dj A jA, bt_dj C jC, ea, eb]
      congr 1
      funext bt
      rw [if_pos (by rw [hlen]; omega), Int.toNat_natCast, IntWalk.wrap64_in ((j : Int) - 1) (by omega)]
    · refine Ev.bind (a := (((48 + d : Nat) : Int), (e : Int))) (Ev.after 1 hcol) ?_
      rw [set_row]
      exact ih
/-- Taking away, column by column. -/
theorem rpaper_sub (A C : ByteArray) (n : Nat) (hA : A.data.toList.length = n) (hC : C.data.toList.length = n) (dA : ∀ c ∈ A.data.toList, isDig c = true) (dC : ∀ c ∈ C.data.toList, isDig c = true) (hn0 : 0 < n) (hn : n ≤ 100000) (Z : Nat) (hZ : val A.data.toList = val C.data.toList + Z) (hlt : val A.data.toList < 10 ^ n) :
    ∀ (j : Nat) (D : List UInt8) (c : Nat), j + D.length = n → (∀ x ∈ D, isDig x = true) → c ≤ 1 → val D + val (C.data.toList.drop j) = val (A.data.toList.drop j) + c * 10 ^ (n - j) →
    Ev (fun k => ZP.metrolabref01_paper.l0 k A C false (List.replicate j 0 ++ nums D) (c : Int) ((j : Int) - 1)) (dec (Z : Nat))
  | 0, D, c, hl, hd, hc, hv => by
    rw [List.drop_zero, List.drop_zero, Nat.sub_zero, hZ] at hv
    have hD := val_lt D hd
    rw [show D.length = n by omega] at hD
    have hc0 : c = 0 := by
      rcases Nat.eq_zero_or_pos c with h | h
      · exact h
      · have : c = 1 := by omega
        subst this
        omega
    subst hc0
    have hvD : val D = Z := by omega
    have hs := str_nums D
    refine Ev.step (f := fun k => (ZP.metrolabref01_bare.f k (strOfNums (nums D))).bind fun t => some t) (fun k => ?_) ?_
    · simp only [ZP.metrolabref01_paper.l0]
      rw [if_neg (by omega)]
      rfl
    · have hb := rbare_is (strOfNums (nums D)) (by rw [size_list, hs]; omega) (by rw [hs]; exact hd)
      rw [hs, hvD] at hb
      exact Ev.bind hb (Ev.now _)
  | j + 1, D, c, hl, hd, hc, hv => by
    have jA : j < A.data.toList.length := by omega
    have jC : j < C.data.toList.length := by omega
    obtain ⟨a, ha, ea⟩ := dig_at dA jA
    obtain ⟨b, hb, eb⟩ := dig_at dC jC
    obtain ⟨d, e, hd9, he1, hde, hcol⟩ := rcol_sub a b c ha hb hc
    have hdd : isDig (UInt8.ofNat (48 + d)) = true := (isDig_iff _).2 (by rw [u8_ofNat _ (by omega)]; omega)
    have hnew : val (UInt8.ofNat (48 + d) :: D) + val (C.data.toList.drop j) = val (A.data.toList.drop j) + e * 10 ^ (n - j) := by
      rw [val_cons, u8_ofNat _ (by omega), val_drop _ jA, val_drop _ jC, ea, eb, hA, hC, show D.length = n - (j + 1) by omega]
      have hp : 10 ^ (n - j) = 10 * 10 ^ (n - (j + 1)) := by rw [show n - j = (n - (j + 1)) + 1 by omega, Nat.pow_succ, Nat.mul_comm]
      rw [hp, show 48 + d - 48 = d by omega, show 48 + a - 48 = a by omega, show 48 + b - 48 = b by omega]
      generalize 10 ^ (n - (j + 1)) = P at *
      have h1 : (d + b + c) * P = (a + 10 * e) * P := by rw [hde]
      rw [Nat.add_mul, Nat.add_mul, Nat.add_mul] at h1
      have h2 : e * (10 * P) = 10 * e * P := by rw [← Nat.mul_assoc, Nat.mul_comm e 10]
      rw [h2]
      omega
    have ih := rpaper_sub A C n hA hC dA dC hn0 hn Z hZ hlt j (UInt8.ofNat (48 + d) :: D) e (by simp; omega) (by intro x hx; rcases List.mem_cons.1 hx with rfl | hx; exact hdd; exact hd x hx) he1 hnew
    rw [← nums_cons d hd9] at ih
    refine Ev.step (f := fun k => (ZP.metrolabref01_column.f k ((48 + a : Nat) : Int) ((48 + b : Nat) : Int) (c : Int) false).bind fun bt => ZP.metrolabref01_paper.l0 k A C false ((List.replicate (j + 1) 0 ++ nums D).set j bt.1) bt.2 ((j : Int) - 1)) (fun k => ?_) ?_
    · simp only [ZP.metrolabref01_paper.l0]
      have hlen : (List.replicate (j + 1) (0 : Int) ++ nums D).length = n := by rw [List.length_append, List.length_replicate, nums, List.length_map]; omega
      have ej : ((j + 1 : Nat) : Int) - 1 = (j : Int) := by omega
      rw [ej, if_pos (by omega), if_pos (by omega), if_pos (by rw [size_list]; omega), if_pos (by rw [size_list]; omega), bt_dj A jA, bt_dj C jC, ea, eb]
      congr 1
      funext bt
      rw [if_pos (by rw [hlen]; omega), Int.toNat_natCast, IntWalk.wrap64_in ((j : Int) - 1) (by omega)]
    · refine Ev.bind (a := (((48 + d : Nat) : Int), (e : Int))) (Ev.after 1 hcol) ?_
      rw [set_row]
      exact ih
end Go.Proofs.YtpkfnclbcmnckaaGreatDoor
set_option linter.unusedVariables false
namespace Go.Proofs.YtpkfnclbcmnckaaGreatDoor
open Go Go.RowKit Go.Proofs.YtpkfnclbcmnckaaGreatDoor.Dec Go.Proofs.YtpkfnclbcmnckaaGreatDoor.Mem Go.Proofs.YtpkfnclbcmnckaaGreatDoor.Wid Go.Proofs.YtpkfnclbcmnckaaGreatDoorW.PrintWords Go.Proofs.YtpkfnclbcmnckaaGreatDoorW.PrintMore
def padded (x n : Nat) : ByteArray := ⟨(List.replicate (n - (Lib.decDigits x).length) 48 ++ Lib.decDigits x).toArray⟩
theorem padded_list (x n : Nat) : (padded x n).data.toList = List.replicate (n - (Lib.decDigits x).length) 48 ++ Lib.decDigits x := rfl
theorem padded_len {x n : Nat} (h : (Lib.decDigits x).length ≤ n) : (padded x n).data.toList.length = n := by rw [padded_list, List.length_append, List.length_replicate]; omega
theorem padded_val (x n : Nat) : val (padded x n).data.toList = x := by rw [padded_list, val_append, val_zeros, decDigits_val]; omega
theorem padded_dig (x n : Nat) : ∀ c ∈ (padded x n).data.toList, isDig c = true := by
  intro c hc
  rw [padded_list] at hc
  rcases List.mem_append.1 hc with h | h
  · rw [List.eq_of_mem_replicate h]; decide
  · exact decDigits_dig x c h
theorem dec_len (x : Nat) : (dec (x : Int)).size = (Lib.decDigits x).length := by rw [dec_nat, size_list]
theorem wide_is (x n : Nat) (h : (Lib.decDigits x).length ≤ n) (hn : n ≤ 100000) : metrolabref01_wide.f (dec (x : Int)) (n : Int) = some (padded x n) := by
  unfold metrolabref01_wide.f padded
  rw [if_pos (by rw [dec_len]; omega), dec_len, Int.toNat_natCast, dec_nat]
theorem dig_lt (x : Nat) : x < 10 ^ (Lib.decDigits x).length := by
  have := val_lt (Lib.decDigits x) (decDigits_dig x)
  rwa [decDigits_val] at this
theorem mx_nat (a b : Nat) : mx (a : Int) (b : Int) = ((max a b : Nat) : Int) := by unfold mx; split <;> omega
theorem rpaper_pre (x y n : Nat) (add : Bool) (r : ByteArray) (hn : n = max (Lib.decDigits x).length (Lib.decDigits y).length + 1) (hb : n ≤ 100000)
    (h : Ev (fun k => ZP.metrolabref01_paper.l0 k (padded x n) (padded y n) add (List.replicate n 0 ++ nums []) ((0 : Nat) : Int) ((n : Int) - 1)) r) :
    Ev (fun k => ZP.metrolabref01_paper.f k (dec (x : Int)) (dec (y : Int)) add) r := by
  unfold ZP.metrolabref01_paper.f
  have e : wrap64 (mx ((dec (x : Int)).size : Int) ((dec (y : Int)).size : Int) + 1) = (n : Int) := by
    rw [dec_len, dec_len, mx_nat, IntWalk.wrap64_in _ (by omega)]
    omega
  rw [e, wide_is x n (by omega) hb, wide_is y n (by omega) hb]
  simp only [Option.bind_some]
  refine Ev.pos (by omega) ?_
  refine Ev.pos (by omega) ?_
  rw [Int.toNat_natCast, IntWalk.wrap64_in _ (by omega)]
  have e2 : (List.replicate n (0 : Int)) = List.replicate n 0 ++ nums [] := by simp [nums]
  rw [e2]
  exact h
theorem rpaper_plus (x y : Nat) (hb : max (Lib.decDigits x).length (Lib.decDigits y).length + 1 ≤ 100000) : Ev (fun k => ZP.metrolabref01_paper.f k (dec (x : Int)) (dec (y : Int)) true) (dec ((x + y : Nat) : Int)) := by
  generalize hn : max (Lib.decDigits x).length (Lib.decDigits y).length + 1 = n at hb
  refine rpaper_pre x y n true _ hn.symm hb ?_
  have l1 := dig_lt x
  have l2 := dig_lt y
  have m1 : 10 ^ (Lib.decDigits x).length ≤ 10 ^ (n - 1) := Nat.pow_le_pow_right (by decide) (by omega)
  have m2 : 10 ^ (Lib.decDigits y).length ≤ 10 ^ (n - 1) := Nat.pow_le_pow_right (by decide) (by omega)
  have m3 : 10 ^ n = 10 * 10 ^ (n - 1) := by rw [show n = (n - 1) + 1 by omega, Nat.pow_succ, Nat.mul_comm, Nat.add_sub_cancel]
  exact rpaper_add (padded x n) (padded y n) n (padded_len (by omega)) (padded_len (by omega)) (padded_dig _ _) (padded_dig _ _) (by omega) hb (x + y) (by rw [padded_val, padded_val]) (by omega) n [] 0 (by simp) (by simp) (by omega) (by rw [List.drop_of_length_le (by rw [padded_len (by omega)]; exact Nat.le_refl _), List.drop_of_length_le (by rw [padded_len (by omega)]; exact Nat.le_refl _)]; simp)
theorem rpaper_minus (x y : Nat) (hxy : y ≤ x) (hb : max (Lib.decDigits x).length (Lib.decDigits y).length + 1 ≤ 100000) : Ev (fun k => ZP.metrolabref01_paper.f k (dec (x : Int)) (dec (y : Int)) false) (dec ((x - y : Nat) : Int)) := by
  generalize hn : max (Lib.decDigits x).length (Lib.decDigits y).length + 1 = n at hb
  refine rpaper_pre x y n false _ hn.symm hb ?_
  have l1 := dig_lt x
  have m1 : 10 ^ (Lib.decDigits x).length ≤ 10 ^ n := Nat.pow_le_pow_right (by decide) (by omega)
  exact rpaper_sub (padded x n) (padded y n) n (padded_len (by omega)) (padded_len (by omega)) (padded_dig _ _) (padded_dig _ _) (by omega) hb (x - y) (by rw [padded_val, padded_val]; omega) (by rw [padded_val]; omega) n [] 0 (by simp) (by simp) (by omega) (by rw [List.drop_of_length_le (by rw [padded_len (by omega)]; exact Nat.le_refl _), List.drop_of_length_le (by rw [padded_len (by omega)]; exact Nat.le_refl _)]; simp)
end Go.Proofs.YtpkfnclbcmnckaaGreatDoor
set_option linter.unusedVariables false
namespace Go.Proofs.YtpkfnclbcmnckaaGreatDoor
open Go Go.RowKit Go.Proofs.YtpkfnclbcmnckaaGreatDoor.Dec Go.Proofs.YtpkfnclbcmnckaaGreatDoor.Mem Go.Proofs.YtpkfnclbcmnckaaGreatDoor.Wid Go.Proofs.YtpkfnclbcmnckaaGreatDoorW.PrintWords
/-- How many digits a number has. -/
def lg (v : Nat) : Nat := (Lib.decDigits v).length
theorem lg_lt (v : Nat) : v < 10 ^ lg v := dig_lt v
theorem lg_le {v n : Nat} (hn : 1 ≤ n) (h : v < 10 ^ n) : lg v ≤ n := by
  unfold lg
  rw [Lib.decDigits_length]
  exact (nDigits_le_iff v n hn).2 h
theorem lg_pos (v : Nat) : 1 ≤ lg v := List.length_pos_iff.2 (decDigits_ne v)
theorem lt_of_lg {v n : Nat} (h : lg v ≤ n) : v < 10 ^ n := Nat.lt_of_lt_of_le (lg_lt v) (Nat.pow_le_pow_right (by decide) h)
theorem lg_mono {a b : Nat} (h : a ≤ b) : lg a ≤ lg b := lg_le (lg_pos b) (Nat.lt_of_le_of_lt h (lg_lt b))
theorem lg_add (a b : Nat) : lg (a + b) ≤ max (lg a) (lg b) + 1 := by
  refine lg_le (by omega) ?_
  have h1 : a < 10 ^ max (lg a) (lg b) := lt_of_lg (by omega)
  have h2 : b < 10 ^ max (lg a) (lg b) := lt_of_lg (by omega)
  rw [Nat.pow_succ]
  omega
theorem lg_mul (a b : Nat) : lg (a * b) ≤ lg a + lg b := by
  refine lg_le (by have := lg_pos a; omega) ?_
  rw [Nat.pow_add]
  exact Nat.mul_lt_mul_of_lt_of_lt (lg_lt a) (lg_lt b)
theorem lg_size (z : Int) : (dec (z.natAbs : Int)).size = lg z.natAbs := dec_len _
theorem lg_size_le (z : Int) : (dec z).size ≤ lg z.natAbs + 1 := by
  have h := mag_ge (dec z).data.toList
  rw [← size_list, dec_list, mag_itoa] at h
  exact h
theorem lg_le_size (z : Int) : lg z.natAbs ≤ (dec z).size := by
  have h := mag_le (dec z).data.toList
  rw [← size_list, dec_list, mag_itoa] at h
  exact h
theorem lgI_mul (x y : Int) : lg (x * y).natAbs ≤ lg x.natAbs + lg y.natAbs := by rw [Int.natAbs_mul]; exact lg_mul _ _
theorem lg_fit {z : Int} (h : chk (dec z) = 0) : lg z.natAbs ≤ 1024 := by
  have := (chk_zero h).2
  rw [dec_list, mag_itoa] at this
  exact this
/-- The value of columns. -/
def cvl : List Int → Int
  | [] => 0
  | c :: t => c * 10 ^ t.length + cvl t
theorem cvl_set : ∀ (l : List Int) (j : Nat) (v : Int), j < l.length → cvl (l.set j v) = cvl l + (v - l.getD j 0) * 10 ^ (l.length - 1 - j)
  | [], j, v, h => absurd h (by simp)
  | c :: t, 0, v, _ => by
    show v * 10 ^ t.length + cvl t = c * 10 ^ t.length + cvl t + (v - c) * 10 ^ (t.length + 1 - 1 - 0)
    rw [Nat.add_sub_cancel, Nat.sub_zero, Int.sub_mul]
    omega
  | c :: t, j + 1, v, h => by
    have hj : j < t.length := by simpa using h
    have ih := cvl_set t j v hj
    show c * 10 ^ (t.set j v).length + cvl (t.set j v) = c * 10 ^ t.length + cvl t + (v - t.getD j 0) * 10 ^ (t.length + 1 - 1 - (j + 1))
    rw [List.length_set, ih, show t.length + 1 - 1 - (j + 1) = t.length - 1 - j by omega]
    omega
theorem cvl_drop : ∀ (l : List Int) (j : Nat), j < l.length → cvl (l.drop j) = l.getD j 0 * 10 ^ (l.length - 1 - j) + cvl (l.drop (j + 1))
  | [], j, h => absurd h (by simp)
  | c :: t, 0, _ => by
    show c * 10 ^ t.length + cvl t = c * 10 ^ (t.length + 1 - 1 - 0) + cvl t
    rw [Nat.add_sub_cancel, Nat.sub_zero]
  | c :: t, j + 1, h => by
    have hj : j < t.length := by simpa using h
    have ih := cvl_drop t j hj
    show cvl (t.drop j) = t.getD j 0 * 10 ^ (t.length + 1 - 1 - (j + 1)) + cvl (t.drop (j + 1))
    rw [ih, show t.length + 1 - 1 - (j + 1) = t.length - 1 - j by omega]
theorem cvl_zero : ∀ n : Nat, cvl (List.replicate n 0) = 0
  | 0 => rfl
  | n + 1 => by
    show 0 * 10 ^ (List.replicate n (0 : Int)).length + cvl (List.replicate n 0) = 0
    rw [cvl_zero n]
    omega
end Go.Proofs.YtpkfnclbcmnckaaGreatDoor
set_option linter.unusedVariables false
namespace Go.Proofs.YtpkfnclbcmnckaaGreatDoor
open Go Go.RowKit Go.Proofs.YtpkfnclbcmnckaaGreatDoor.Dec Go.Proofs.YtpkfnclbcmnckaaGreatDoor.Mem Go.Proofs.YtpkfnclbcmnckaaGreatDoor.Wid Go.Proofs.YtpkfnclbcmnckaaGreatDoorW.PrintWords Go.Proofs.YtpkfnclbcmnckaaGreatDoorW.PrintMore
theorem dec_size_lg (v n : Nat) (h : lg v ≤ n) (hn : n ≤ 100000) : (dec (v : Int)).size ≤ 9000000000000000000 := by
  rw [dec_len]
  show lg v ≤ _
  omega
theorem rplus_is (x y : Int) (hx : lg x.natAbs ≤ 90000) (hy : lg y.natAbs ≤ 90000) : Ev (fun k => ZP.metrolabref01_Plus.f k (dec x) (dec y)) (dec (x + y)) := by
  unfold ZP.metrolabref01_Plus.f
  by_cases hb : brief18 x y
  · refine Ev.bind (rbrief_yes x y hb) ?_
    refine Ev.pos rfl ?_
    have h1 := size_18 hb.1
    have h2 := size_18 hb.2
    rw [IntWalk.wrap64_in (x + y) (by omega)]
    exact Ev.bind (rof_is (x + y) (by omega) (by omega)) (Ev.now _)
  · refine Ev.bind (rbrief_no x y hb) ?_
    refine Ev.neg (by decide) ?_
    rw [rsize_is, rsize_is, magS_dec, magS_dec, rbelow_is, rbelow_is]
    simp only [Option.bind_some]
    have hm : max (Lib.decDigits x.natAbs).length (Lib.decDigits y.natAbs).length + 1 ≤ 100000 := by
      have h1 : (Lib.decDigits x.natAbs).length ≤ 90000 := hx
      have h2 : (Lib.decDigits y.natAbs).length ≤ 90000 := hy
      omega
    have hm' : max (Lib.decDigits y.natAbs).length (Lib.decDigits x.natAbs).length + 1 ≤ 100000 := by omega
    by_cases hs : decide (x < 0) = decide (y < 0)
    · rw [hs]
      refine Ev.pos (by cases decide (y < 0) <;> rfl) ?_
      refine Ev.bind (rpaper_plus _ _ hm) ?_
      have hl : lg (x.natAbs + y.natAbs) ≤ 90001 := Nat.le_trans (lg_add _ _) (by omega)
      rw [rsigned_is _ _ (dec_size_lg _ _ hl (by decide))]
      simp only [Option.bind_some]
      have e : sv (decide (y < 0)) (x.natAbs + y.natAbs) = x + y := by
        have h2 : (x < 0 ↔ y < 0) := by simpa using hs
        unfold sv
        by_cases h : y < 0
        · rw [decide_eq_true h, if_pos rfl]; omega
        · rw [decide_eq_false h, if_neg (by decide)]; omega
      rw [e]
      exact Ev.now _
    · refine Ev.neg (by intro k; exact hs (beq_iff_eq.1 k)) ?_
      rw [rless_is]
      simp only [Option.bind_some]
      by_cases hl : x.natAbs < y.natAbs
      · refine Ev.pos (decide_eq_true hl) ?_
        refine Ev.bind (rpaper_minus _ _ (by omega) hm') ?_
        have hg : lg (y.natAbs - x.natAbs) ≤ 90000 := Nat.le_trans (lg_mono (by omega)) hy
        rw [rsigned_is _ _ (dec_size_lg _ _ hg (by decide))]
        simp only [Option.bind_some]
        have e : sv (decide (y < 0)) (y.natAbs - x.natAbs) = x + y := by
          unfold sv
          by_cases h : y < 0
          · have h2 : ¬ x < 0 := fun k => hs (by rw [decide_eq_true h, decide_eq_true k])
            rw [decide_eq_true h, if_pos rfl]; omega
          · have h2 : x < 0 := Classical.not_not.1 fun k => hs (by rw [decide_eq_false h, decide_eq_false k])
            rw [decide_eq_false h, if_neg (by decide)]; omega
        rw [e]
        exact Ev.now _
      · refine Ev.neg (by simpa using hl) ?_
        refine Ev.bind (rpaper_minus _ _ (by omega) hm) ?_
        have hg : lg (x.natAbs - y.natAbs) ≤ 90000 := Nat.le_trans (lg_mono (by omega)) hx
        rw [rsigned_is _ _ (dec_size_lg _ _ hg (by decide))]
        simp only [Option.bind_some]
        have e : sv (decide (x < 0)) (x.natAbs - y.natAbs) = x + y := by
          unfold sv
          by_cases h : x < 0
          · have h2 : ¬ y < 0 := fun k => hs (by rw [decide_eq_true h, decide_eq_true k])
            rw [decide_eq_true h, if_pos rfl]; omega
          · have h2 : y < 0 := Classical.not_not.1 fun k => hs (by rw [decide_eq_false h, decide_eq_false k])
            rw [decide_eq_false h, if_neg (by decide)]; omega
        rw [e]
        exact Ev.now _
theorem rfew_is (a : ByteArray) (ha : a.size ≤ 9223372036854775807) : ∃ b : Bool, Ev (fun k => ZP.metrolabref01_Few.f k a) b ∧ (b = true → a.size ≤ 50 ∨ (a.size ≤ 2048 ∧ chk a = 3)) := by
  unfold ZP.metrolabref01_Few.f
  by_cases h : a.size ≤ 50
  · exact ⟨true, Ev.pos (by omega) (Ev.now _), fun _ => .inl h⟩
  · by_cases h2 : a.size ≤ 2048
    · refine ⟨chk a == 3, Ev.neg (by omega) (Ev.pos (by omega) ?_), fun k => .inr ⟨h2, by simpa using k⟩⟩
      exact Ev.bind (rcheck_is a ha) (Ev.now _)
    · exact ⟨false, Ev.neg (by omega) (Ev.neg (by omega) (Ev.now _)), fun k => absurd k (by decide)⟩
end Go.Proofs.YtpkfnclbcmnckaaGreatDoor
namespace Go.Proofs.YtpkfnclbcmnckaaGreatDoor.ZM
open Go.RowKit Go.Proofs.YtpkfnclbcmnckaaGreatDoorW.PrintWords Go.Proofs.YtpkfnclbcmnckaaGreatDoorW.PrintLast Go.Proofs.YtpkfnclbcmnckaaGreatDoorW.PrintMore
attribute [local go_sem] max2_int min2_int max_two min_two max_three min_three max_four min_four   -- for this text's walks alone
set_option linter.unusedVariables false
set_option linter.unusedSimpArgs false
def errW : Option Int → Value
  | none => .nilIface
  | some c => .iface 0 (.int .i64 c)
theorem errW_none : errW none = .nilIface := rfl
theorem errW_some (c : Int) : errW (some c) = .iface 0 (.int .i64 c) := rfl
theorem info3 : (Tryz.prog.info? 3).map (fun i => (i.zero, i.size, i.bytes)) = some (some (.int .i64 0), 1, 8) := by kernel_rfl
theorem info5 : (Tryz.prog.info? 5).map (fun i => (i.zero, i.size, i.bytes)) = some (some (.int .u8 0), 1, 1) := by kernel_rfl
end Go.Proofs.YtpkfnclbcmnckaaGreatDoor.ZM
namespace Go.Proofs.YtpkfnclbcmnckaaGreatDoor.ZM
open Go.RowKit Go.Proofs.YtpkfnclbcmnckaaGreatDoorW.PrintWords Go.Proofs.YtpkfnclbcmnckaaGreatDoorW.PrintLast Go.Proofs.YtpkfnclbcmnckaaGreatDoorW.PrintMore
attribute [local go_sem] max2_int min2_int max_two min_two max_three min_three max_four min_four   -- for this text's walks alone
set_option linter.unusedVariables false
set_option linter.unusedSimpArgs false
mutual
def metrolabref01_product.l0 : Nat → ByteArray → ByteArray → List Int → Int → Option (ByteArray)
  | 0, _, _, _, _ => none
  | k + 1, x0, x1, x5, x6 => if x6 < (x0.size : Int) then (metrolabref01_product.l1 k x0 x1 x5 x6 0) else (if 0 ≤ (x5.length : Int) then (if ((x5.length : Int) : Int).toNat ≤ 281474976710656 then (metrolabref01_product.l2 k x5 (List.replicate ((x5.length : Int) : Int).toNat 0) 0 (wrap64 ((x5.length : Int) - 1))) else (none)) else (none))
def metrolabref01_product.l1 : Nat → ByteArray → ByteArray → List Int → Int → Int → Option (ByteArray)
  | 0, _, _, _, _, _ => none
  | k + 1, x0, x1, x5, x6, x7 => if x7 < (x1.size : Int) then (if 0 ≤ (wrap64 ((wrap64 (x6 + x7)) + 1)) then (if (wrap64 ((wrap64 (x6 + x7)) + 1)) < (x5.length : Int) then (if 0 ≤ x6 then (if x6 < (x0.size : Int) then (if 0 ≤ x7 then (metrolabref01_product.l1 k x0 x1 (x5.set ((wrap64 ((wrap64 (x6 + x7)) + 1)) : Int).toNat (wrap64 ((rd x5 (wrap64 ((wrap64 (x6 + x7)) + 1))) + (wrap64 ((((bt x0 x6) - 48) % 256) * (((bt x1 x7) - 48) % 256)))))) x6 (wrap64 (x7 + 1))) else (none)) else (none)) else (none)) else (none)) else (none)) else (metrolabref01_product.l0 k x0 x1 x5 (wrap64 (x6 + 1)))
def metrolabref01_product.l2 : Nat → List Int → List Int → Int → Int → Option (ByteArray)
  | 0, _, _, _, _ => none
  | k + 1, x5, x8, x9, x10 => if x10 ≥ 0 then (if 0 ≤ x10 then (if x10 < (x5.length : Int) then (if x10 < (x8.length : Int) then (metrolabref01_product.l2 k x5 (x8.set (x10 : Int).toNat ((wrap64 (48 + (Int.tmod (wrap64 (x9 + (rd x5 x10))) 10))) % 256)) (wrap64 (Int.tdiv (wrap64 (x9 + (rd x5 x10))) 10)) (wrap64 (x10 - 1))) else (none)) else (none)) else (none)) else ((ZP.metrolabref01_bare.f k (strOfNums x8)).bind fun t111 => (some t111))
end
def metrolabref01_product.f (k : Nat) (a0 : ByteArray) (a1 : ByteArray) : Option (ByteArray) := if 0 ≤ (wrap64 ((a0.size : Int) + (a1.size : Int))) then (if (wrap64 ((a0.size : Int) + (a1.size : Int)) : Int).toNat ≤ 35184372088832 then (metrolabref01_product.l0 k a0 a1 (List.replicate (wrap64 ((a0.size : Int) + (a1.size : Int)) : Int).toNat 0) 0) else (none)) else (none)
theorem metrolabref01_product.mono_l : ∀ k, (∀ y0 y1 y2 y3, LeO (metrolabref01_product.l0 k y0 y1 y2 y3) (metrolabref01_product.l0 (k + 1) y0 y1 y2 y3)) ∧ (∀ y0 y1 y2 y3 y4, LeO (metrolabref01_product.l1 k y0 y1 y2 y3 y4) (metrolabref01_product.l1 (k + 1) y0 y1 y2 y3 y4)) ∧ (∀ y0 y1 y2 y3, LeO (metrolabref01_product.l2 k y0 y1 y2 y3) (metrolabref01_product.l2 (k + 1) y0 y1 y2 y3))
  | 0 => ⟨fun _ _ _ _ r h => by simp [metrolabref01_product.l0] at h, fun _ _ _ _ _ r h => by simp [metrolabref01_product.l1] at h, fun _ _ _ _ r h => by simp [metrolabref01_product.l2] at h⟩
  | k + 1 => by
    obtain ⟨ih0, ih1, ih2⟩ := metrolabref01_product.mono_l k
    refine ⟨?_, ?_, ?_⟩
    · intro y0 y1 y2 y3
      unfold metrolabref01_product.l0
      repeat' first
      | (with_reducible exact ih0 _ _ _ _)
      | (with_reducible exact ih1 _ _ _ _ _)
      | (with_reducible exact ih2 _ _ _ _)
      | (with_reducible exact ZP.metrolabref01_bare.mono _ _)
      | (with_reducible exact LeO.refl _)
      | (with_reducible exact LeO.none _)
      | (with_reducible refine LeO.ite ?_ ?_)
      | (with_reducible refine LeO.bind ?_ (fun _ => ?_))
      | exact ih0 _ _ _ _
      | exact ih1 _ _ _ _ _
      | exact ih2 _ _ _ _
      | exact ZP.metrolabref01_bare.mono _ _
      | exact LeO.none _
      | refine LeO.ite ?_ ?_
      | refine LeO.bind ?_ (fun _ => ?_)
    · intro y0 y1 y2 y3 y4
      unfold metrolabref01_product.l1
      repeat' first
      | (with_reducible exact ih0 _ _ _ _)
      | (with_reducible exact ih1 _ _ _ _ _)
      | (with_reducible exact ih2 _ _ _ _)
      | (with_reducible exact ZP.metrolabref01_bare.mono _ _)
      | (with_reducible exact LeO.refl _)
      | (with_reducible exact LeO.none _)
      | (with_reducible refine LeO.ite ?_ ?_)
      | (with_reducible refine LeO.bind ?_ (fun _ => ?_))
      | exact ih0 _ _ _ _
      | exact ih1 _ _ _ _ _
      | exact ih2 _ _ _ _
      | exact ZP.metrolabref01_bare.mono _ _
      | exact LeO.none _
      | refine LeO.ite ?_ ?_
      | refine LeO.bind ?_ (fun _ => ?_)
    · intro y0 y1 y2 y3
      unfold metrolabref01_product.l2
      repeat' first
      | (with_reducible exact ih0 _ _ _ _)
      | (with_reducible exact ih1 _ _ _ _ _)
      | (with_reducible exact ih2 _ _ _ _)
      | (with_reducible exact ZP.metrolabref01_bare.mono _ _)
      | (with_reducible exact LeO.refl _)
      | (with_reducible exact LeO.none _)
      | (with_reducible refine LeO.ite ?_ ?_)
      | (with_reducible refine LeO.bind ?_ (fun _ => ?_))
      | exact ih0 _ _ _ _
      | exact ih1 _ _ _ _ _
      | exact ih2 _ _ _ _
      | exact ZP.metrolabref01_bare.mono _ _
      | exact LeO.none _
      | refine LeO.ite ?_ ?_
      | refine LeO.bind ?_ (fun _ => ?_)
theorem metrolabref01_product.mono : ∀ a0 a1 k, LeO (metrolabref01_product.f k a0 a1) (metrolabref01_product.f (k + 1) a0 a1) := by
  intro a0 a1 k
  obtain ⟨ih0, ih1, ih2⟩ := metrolabref01_product.mono_l k
  unfold metrolabref01_product.f
  repeat' first
      | (with_reducible exact ih0 _ _ _ _)
      | (with_reducible exact ih1 _ _ _ _ _)
      | (with_reducible exact ih2 _ _ _ _)
      | (with_reducible exact ZP.metrolabref01_bare.mono _ _)
      | (with_reducible exact LeO.refl _)
      | (with_reducible exact LeO.none _)
      | (with_reducible refine LeO.ite ?_ ?_)
      | (with_reducible refine LeO.bind ?_ (fun _ => ?_))
      | exact ih0 _ _ _ _
      | exact ih1 _ _ _ _ _
      | exact ih2 _ _ _ _
      | exact ZP.metrolabref01_bare.mono _ _
      | exact LeO.none _
      | refine LeO.ite ?_ ?_
      | refine LeO.bind ?_ (fun _ => ?_)
def metrolabref01_product.T8 : Bool × List (List Nat × List Nat) := (true, [([], []), ([], []), ([], []), ([1, 2], [1, 2]), ([3], [3]), ([0, 4], [0, 4]), ([5], [5]), ([], []), ([], []), ([7, 8], [7, 8]), ([9], [9]), ([10], [10]), ([], []), ([], []), ([12, 13], [12, 13]), ([14], [14]), ([15], [15]), ([11, 16], [11, 16]), ([6, 17], [6, 17]), ([0, 4, 0, 1, 2, 3, 4, 5, 6, 7, 8, 9, 10, 11, 12, 13, 14, 15, 16, 17, 18], [0, 4]), ([19, 18, 0, 1, 2, 3, 4, 5, 6, 7, 8, 9, 10, 11, 12, 13, 14, 15, 16, 17, 18], [18, 19])])
def metrolabref01_product.B8 : List Nat := [0, 0, 0, 6, 14, 31, 63, 0, 0, 384, 896, 1920, 0, 0, 12288, 28672, 61440, 130944, 262143, 524287, 1048575]
theorem metrolabref01_product.tab8 : rtab .any (opsOf Tryz.f73 8) = metrolabref01_product.T8 := by kernel_rfl
theorem metrolabref01_product.bits8 : waitsOk metrolabref01_product.T8.2 metrolabref01_product.B8 = true := by kernel_rfl
set_option maxHeartbeats 8000000 in
set_option maxRecDepth 100000 in
theorem metrolabref01_product.calls (k : Nat) (a0 : ByteArray) (a1 : ByteArray) (r : ByteArray) (w : World) (h : metrolabref01_product.f k a0 a1 = some r) :
    Calls Tryz.prog 73 #[.string a0, .string a1] w fun e w' => e = .returned (.string r) ∧ Below w.heap.size w w' := by
  have HB := Aside0.mk (Below.refl w.heap.size w)
  have H : (if 0 ≤ (wrap64 ((a0.size : Int) + (a1.size : Int))) then (if (wrap64 ((a0.size : Int) + (a1.size : Int)) : Int).toNat ≤ 35184372088832 then (metrolabref01_product.l0 k a0 a1 (List.replicate (wrap64 ((a0.size : Int) + (a1.size : Int)) : Int).toNat 0) 0) else (none)) else (none)) = some r := h
  clear h
  obtain ⟨ji3, hji3⟩ : ∃ j_ : Int, (wrap64 ((a0.size : Int) + (a1.size : Int))) = j_ := ⟨_, rfl⟩
  replace H : (if 0 ≤ (ji3) then (if (ji3 : Int).toNat ≤ 35184372088832 then (metrolabref01_product.l0 k a0 a1 (List.replicate (ji3 : Int).toNat 0) 0) else (none)) else (none)) = some r := by first | (rw [hji3] at H; exact H) | (simp only [hji3] at H ⊢; exact H)
  have hji3w : (IntKind.i64.wrap ((a0.size : Int) + (a1.size : Int))) = ji3 := (i64_w _).trans hji3
  by_cases c4 : 0 ≤ (ji3)
  · rw [if_pos c4] at H
    have c4b0 := eq_true c4
    have c4b1 : decide (0 ≤ (ji3)) = true := decide_eq_true c4
    clear c4
    by_cases c5 : (ji3 : Int).toNat ≤ 35184372088832
    · rw [if_pos c5] at H
      have c5b0 := eq_true c5
      have c5b1 : decide ((ji3 : Int).toNat ≤ 35184372088832) = true := decide_eq_true c5
      clear c5
      obtain ⟨y101, hy101⟩ : ∃ y_ : List Int, y_ = (List.replicate (ji3 : Int).toNat 0) := ⟨_, rfl⟩
      replace H : (metrolabref01_product.l0 k a0 a1 y101 0) = some r := by first | (rw [hy101]; with_reducible exact H) | (have H2_ := (Option.bind_some _ _).symm.trans H; rw [hy101]; with_reducible exact H2_) | (have H2_ := (Option.bind_some _ _).symm.trans H; with_reducible exact H2_) | with_reducible exact H | (rw [hy101]; exact H) | exact H
      have Ny101 := Aside0.mk hy101
      clear hy101
      have H' := Aside0.mk H
      clear H
      go_enter Tryz.func73, Tryz.ntmps73
      go_wp2_with (first | ((with_reducible refine gate_dst (N := 16) rfl ?_); refine Kd.R_make (Kd.int .i64) _ 3 rfl (N := 16) rfl 96 _ _ rfl ji3 rfl rfl Tryz.underlying96 (.int .i64 0) 8 info3 rfl (by decide) (by omega) 0 (ok := fun _ => True) (okp := fun _ => True) rfl (fun _ hk => hk) trivial (of_decide_eq_true (by first | (with_reducible assumption) | assumption)) (Nat.le_trans (Nat.mul_le_mul_right _ (of_decide_eq_true (by first | (with_reducible assumption) | assumption) : ji3.toNat ≤ 35184372088832)) (by omega)) (Below.refl _ _) (Nat.le_refl _) ?_; intro v102 w6 ho7 hb hg_ hnew_; clear hg_ hnew_; (first | rw [← Ny101.out] at ho7 | (simp only [Int.reduceToNat] at ho7; rw [← Ny101.out] at ho7)); have n0_ := Aside0.mk (Kd.R_lower ho7 (below_size (by repeat (first | (with_reducible first | exact HB.out | apply below_alloc | apply pw_below_drewN | apply below_drew1) | exact HB.out)))); have n1_ := Aside0.mk (below_step (by repeat (first | (with_reducible first | exact HB.out | apply below_alloc | apply pw_below_drewN | apply below_drew1) | exact HB.out)) hb); clear HB; have HO103 := n0_; have HB := n1_; clear n0_ n1_; clear hb ho7))
      go_loopg [6] k (fun kq v6 w' => ∃ (x5_1 : List Int) (x6_1 : Int), v6 = .int .i64 x6_1 ∧ Aside0 (metrolabref01_product.l0 kq a0 a1 x5_1 x6_1 = some r) ∧ Aside0 (kq ≤ k) ∧ Aside0 (Kd.R (Kd.int .i64) 3 w' w.heap.size (fun _ => True) v102 x5_1) ∧ Aside0 (Below w.heap.size w w'))
      case atStart => exact ⟨(y101), (0), (by first | rfl | exact congrArg Value.bool (not_empty _) | exact congrArg Value.bool (is_empty _) | (simp; done) | (simp [*]; done)), H', ⟨Nat.le_refl _⟩, ⟨by (with_reducible repeat (first | apply Kd.R_alloc | apply Kd.R_drewN | apply Kd.R_drew)); exact HO103.out⟩, ⟨by repeat (first | (with_reducible first | exact HB.out | apply below_alloc | apply pw_below_drewN | apply below_drew1) | exact HB.out)⟩⟩
      case round =>
        clear H'
        try clear p2
        try clear c4
        try clear c4b0
        try clear c4b1
        try clear c5
        try clear c5b0
        try clear c5b1
        try clear p6
        try clear c7
        obtain ⟨x5_1, x6_1, rfl, HA, HK1, HO_5, HB⟩ := hrel
        cases gk with
        | zero => exact absurd HA.out (by simp [metrolabref01_product.l0])
        | succ k1 =>
          have H := HA.out
          clear HA
          simp only [metrolabref01_product.l0] at H
          by_cases c8 : x6_1 < (a0.size : Int)
          · rw [if_pos c8] at H
            have c8b0 : decide (x6_1 < (a0.size : Int)) = true := decide_eq_true c8
            clear c8
            have H' := Aside0.mk H
            clear H
            go_wp2
            go_loopg [7] k1 (fun kq v7 w' => ∃ (x5_2 : List Int) (x7_2 : Int), v7 = .int .i64 x7_2 ∧ Aside0 (metrolabref01_product.l1 kq a0 a1 x5_2 x6_1 x7_2 = some r) ∧ Aside0 (kq ≤ k1) ∧ Aside0 (Kd.R (Kd.int .i64) 3 w' w.heap.size (fun _ => True) v102 x5_2) ∧ Aside0 (Below w.heap.size w w'))
            case atStart => exact ⟨(x5_1), (0), (by first | rfl | exact congrArg Value.bool (not_empty _) | exact congrArg Value.bool (is_empty _) | (simp; done) | (simp [*]; done)), H', ⟨Nat.le_refl _⟩, ⟨by (with_reducible repeat (first | apply Kd.R_alloc | apply Kd.R_drewN | apply Kd.R_drew)); exact HO_5.out⟩, ⟨by repeat (first | (with_reducible first | exact HB.out | apply below_alloc | apply pw_below_drewN | apply below_drew1) | exact HB.out)⟩⟩
            case round =>
              clear H'
              try clear p2
              try clear c4
              try clear c4b0
              try clear c4b1
              try clear c5
              try clear c5b0
              try clear c5b1
              try clear p6
              try clear c7
              try clear c8
              try clear c8b0
              try clear p2
              try clear p6
              obtain ⟨x5_2, x7_2, rfl, HA, HK2, HO_5, HB⟩ := hrel
              cases gk with
              | zero => exact absurd HA.out (by simp [metrolabref01_product.l1])
              | succ k2 =>
                have H := HA.out
                clear HA
                simp only [metrolabref01_product.l1] at H
                by_cases c9 : x7_2 < (a1.size : Int)
                · rw [if_pos c9] at H
                  have c9b0 : decide (x7_2 < (a1.size : Int)) = true := decide_eq_true c9
                  clear c9
                  obtain ⟨ji10, hji10⟩ : ∃ j_ : Int, (wrap64 ((wrap64 (x6_1 + x7_2)) + 1)) = j_ := ⟨_, rfl⟩
                  replace H : (if 0 ≤ (ji10) then (if (ji10) < (x5_2.length : Int) then (if 0 ≤ x6_1 then (if x6_1 < (a0.size : Int) then (if 0 ≤ x7_2 then (metrolabref01_product.l1 k2 a0 a1 (x5_2.set ((ji10) : Int).toNat (wrap64 ((rd x5_2 (ji10)) + (wrap64 ((((bt a0 x6_1) - 48) % 256) * (((bt a1 x7_2) - 48) % 256)))))) x6_1 (wrap64 (x7_2 + 1))) else (none)) else (none)) else (none)) else (none)) else (none)) = some r := by first | (rw [hji10] at H; exact H) | (simp only [hji10] at H ⊢; exact H)
                  have hji10w : (IntKind.i64.wrap ((wrap64 (x6_1 + x7_2)) + 1)) = ji10 := (i64_w _).trans hji10
                  by_cases c11 : 0 ≤ (ji10)
                  · rw [if_pos c11] at H
                    have c11b0 : decide (0 ≤ (ji10)) = true := decide_eq_true c11
                    clear c11
                    by_cases c12 : (ji10) < (x5_2.length : Int)
                    · rw [if_pos c12] at H
                      have c12b0 : decide ((ji10) < (x5_2.length : Int)) = true := decide_eq_true c12
                      clear c12
                      by_cases c13 : 0 ≤ x6_1
                      · rw [if_pos c13] at H
                        have c13b0 : decide (0 ≤ x6_1) = true := decide_eq_true c13
                        clear c13
                        by_cases c14 : x6_1 < (a0.size : Int)
                        · rw [if_pos c14] at H
                          have c14b0 : decide (x6_1 < (a0.size : Int)) = true := decide_eq_true c14
                          clear c14
                          by_cases c16 : 0 ≤ x7_2
                          · rw [if_pos c16] at H
                            have c16b0 : decide (0 ≤ x7_2) = true := decide_eq_true c16
                            clear c16
                            obtain ⟨y105, hy105⟩ : ∃ y_ : List Int, y_ = (x5_2.set ((ji10) : Int).toNat (wrap64 ((rd x5_2 (ji10)) + (wrap64 ((((bt a0 x6_1) - 48) % 256) * (((bt a1 x7_2) - 48) % 256)))))) := ⟨_, rfl⟩
                            replace H : (metrolabref01_product.l1 k2 a0 a1 y105 x6_1 (wrap64 (x7_2 + 1))) = some r := by first | (rw [hy105]; with_reducible exact H) | (have H2_ := (Option.bind_some _ _).symm.trans H; rw [hy105]; with_reducible exact H2_) | (have H2_ := (Option.bind_some _ _).symm.trans H; with_reducible exact H2_) | with_reducible exact H | (rw [hy105]; exact H) | exact H
                            have Ny105 := Aside0.mk hy105
                            clear hy105
                            have H' := Aside0.mk H
                            clear H
                            try go_wp2
                            have n0_ := Aside0.mk (Kd.R_drew HO_5.out)
                            have n1_ := Aside0.mk (below_drew1 HB.out)
                            clear HO_5
                            clear HB
                            have HO_5 := n0_
                            have HB := n1_
                            clear n0_ n1_
                            obtain ⟨Ao20, co20, eo20⟩ := Kd.R_slice HO_5.out
                            (first | subst eo20 | (injection eo20 with f1_ f2_ f3_; have f4_ := f1_.symm; have f5_ := f3_.symm; clear f1_ f2_ f3_; subst f4_; subst f5_))
                            have p104 : 0 ≤ ((ji10) : Int) := of_decide_eq_true (by first | (with_reducible assumption) | assumption)
                            have q104 : (ji10) < (x5_2.length : Int) := of_decide_eq_true (by first | (with_reducible assumption) | assumption)
                            obtain ⟨ad104, e104, hx104_0⟩ := Kd.at_int (Kd.R_reads' HO_5.out).2.2 (ji10) p104 q104
                            cases e104
                            replace p104 := eq_true p104
                            replace q104 := eq_true q104
                            have p15 : 0 ≤ (x6_1 : Int) := of_decide_eq_true (by first | (with_reducible assumption) | assumption)
                            have q15 : x6_1 < (a0.size : Int) := of_decide_eq_true (by first | (with_reducible assumption) | assumption)
                            have hx15 := bt_at a0 x6_1
                            replace p15 := eq_true p15
                            replace q15 := eq_true q15
                            have p17 : 0 ≤ (x7_2 : Int) := of_decide_eq_true (by first | (with_reducible assumption) | assumption)
                            have q17 : x7_2 < (a1.size : Int) := of_decide_eq_true (by first | (with_reducible assumption) | assumption)
                            have hx17 := bt_at a1 x7_2
                            replace p17 := eq_true p17
                            replace q17 := eq_true q17
                            have p18 : 0 ≤ ((ji10) : Int) := of_decide_eq_true (by first | (with_reducible assumption) | assumption)
                            have q18 : ((ji10) : Int) < ((x5_2.length : Int) : Int) := of_decide_eq_true (by first | (with_reducible assumption) | assumption)
                            obtain ⟨go18, co18, eo18, gb18, gl18, cl18, HG18⟩ := Kd.R_form HO_5.out (by omega)
                            (first | cases eo18 | (injection eo18 with ea_ en_ ec_; (first | subst ea_ | (injection ea_ with ea_; subst ea_)); subst ec_; clear en_))
                            have GB18 := Aside0.mk gb18
                            have GG18 := Aside0.mk HG18
                            clear gb18 gl18 HG18
                            (first | simp only [add_plain] at hx104_0 | skip)
                            obtain ⟨hx18_0, hf18_0⟩ := Kd.R_celln 0 HO_5.out ((ji10) : Int) p18 q18
                            replace p18 := eq_true p18
                            replace q18 := eq_true q18
                            have HP21 := Kd.R_putn HO_5.out ((ji10) : Int) (wrap64 ((rd x5_2 (ji10)) + (wrap64 ((((bt a0 x6_1) - 48) % 256) * (((bt a1 x7_2) - 48) % 256)))))
                            rw [← Ny105.out] at HP21
                            have HQ21 := Aside0.mk HP21
                            clear HP21
                            refine start_ (n := 21) (S := fun w' => w'.cell? ⟨go18, ((ji10)).toNat, none⟩ = some (.int .i64 (rd x5_2 (ji10)))) (ds := [20]) #[false, false, false, false, false, false, false, false, false, false, false, false, false, false, false, false, false, false, false, false, false] (by kernel_rfl) rfl rfl (hx104_0) (fun hHeld => ?_); refine with_tabW metrolabref01_product.tab8 metrolabref01_product.bits8 (fun HT_ HW_ => ?_)
                            generalize wr.drew = w19 at HO_5 HB GG18 HQ21 hf18_0 hx104_0 hx18_0 hHeld ⊢
                            refine pure_ (i := 0) (N := some 29) (v := ?_) (a' := ?_) #[true, false, false, false, false, false, false, false, false, false, false, false, false, false, false, false, false, false, false, false, false] rfl rfl (any_of HT_.out (by kernel_rfl)) (fun _ _ _ h => h) (Or.inl ⟨by rfl, ?_⟩) ?_ ?_
                            rotate_left
                            · intro w'
                              go_simp
                              with_reducible rfl
                            rotate_left
                            · simp only [Act.put, List.setIfInBounds_toArray, List.set_cons_zero, List.set_cons_succ, i64_w, i32_w]
                              rfl
                            refine pure_ (i := 1) (N := some 30) (v := ?_) (a' := ?_) #[true, true, false, false, false, false, false, false, false, false, false, false, false, false, false, false, false, false, false, false, false] rfl rfl (any_of HT_.out (by kernel_rfl)) (fun _ _ _ h => h) (Or.inl ⟨by rfl, ?_⟩) ?_ ?_
                            rotate_left
                            · intro w'
                              go_simp
                              with_reducible rfl
                            rotate_left
                            · simp only [Act.put, List.setIfInBounds_toArray, List.set_cons_zero, List.set_cons_succ, i64_w, i32_w]
                              rfl
                            refine pure_ (i := 2) (N := some 31) (v := ?_) (a' := ?_) #[true, true, true, false, false, false, false, false, false, false, false, false, false, false, false, false, false, false, false, false, false] rfl rfl (any_of HT_.out (by kernel_rfl)) (fun _ _ _ h => h) (Or.inl ⟨by rfl, ?_⟩) ?_ ?_
                            rotate_left
                            · intro w'
                              go_simp
                              with_reducible rfl
                            rotate_left
                            · simp only [Act.put, List.setIfInBounds_toArray, List.set_cons_zero, List.set_cons_succ, i64_w, i32_w]
                              rfl
                            refine pure_ (i := 3) (N := some 32) (v := ?_) (a' := ?_) #[true, true, true, true, false, false, false, false, false, false, false, false, false, false, false, false, false, false, false, false, false] rfl rfl (any_of HT_.out (by kernel_rfl)) (fun _ _ _ h => h) (Or.inl ⟨by rfl, ?_⟩) ?_ ?_
                            rotate_left
                            · intro w'
                              go_simp
                              with_reducible rfl
                            rotate_left
                            · simp only [Act.put, List.setIfInBounds_toArray, List.set_cons_zero, List.set_cons_succ, i64_w, i32_w]
                              rfl
                            refine pure_ (i := 4) (N := some 33) (v := ?_) (a' := ?_) #[true, true, true, true, true, false, false, false, false, false, false, false, false, false, false, false, false, false, false, false, false] rfl rfl (any_of HT_.out (by kernel_rfl)) (fun _ _ _ h => h) (Or.inl ⟨by rfl, ?_⟩) ?_ ?_
                            rotate_left
                            · intro w'
                              go_simp
                              with_reducible rfl
                            rotate_left
                            · simp only [Act.put, List.setIfInBounds_toArray, List.set_cons_zero, List.set_cons_succ, i64_w, i32_w]
                              rfl
                            refine pure_ (i := 5) (N := some 34) (v := ?_) (a' := ?_) #[true, true, true, true, true, true, false, false, false, false, false, false, false, false, false, false, false, false, false, false, false] rfl rfl (any_of HT_.out (by kernel_rfl)) (fun _ _ _ h => h) (Or.inl ⟨by rfl, ?_⟩) ?_ ?_
                            rotate_left
                            · intro w'
                              go_simp
                              with_reducible rfl
                            rotate_left
                            · simp only [Act.put, List.setIfInBounds_toArray, List.set_cons_zero, List.set_cons_succ, i64_w, i32_w]
                              rfl
                            refine pure_ (i := 7) (N := some 36) (v := ?_) (a' := ?_) #[true, true, true, true, true, true, false, true, false, false, false, false, false, false, false, false, false, false, false, false, false] rfl rfl (any_of HT_.out (by kernel_rfl)) (fun _ _ _ h => h) (Or.inl ⟨by rfl, ?_⟩) ?_ ?_
                            rotate_left
                            · intro w'
                              go_simp
                              with_reducible rfl
                            rotate_left
                            · simp only [Act.put, List.setIfInBounds_toArray, List.set_cons_zero, List.set_cons_succ, i64_w, i32_w]
                              rfl
                            refine pure_ (i := 8) (N := some 37) (v := ?_) (a' := ?_) #[true, true, true, true, true, true, false, true, true, false, false, false, false, false, false, false, false, false, false, false, false] rfl rfl (any_of HT_.out (by kernel_rfl)) (fun _ _ _ h => h) (Or.inl ⟨by rfl, ?_⟩) ?_ ?_
                            rotate_left
                            · intro w'
                              go_simp
                              with_reducible rfl
                            rotate_left
                            · simp only [Act.put, List.setIfInBounds_toArray, List.set_cons_zero, List.set_cons_succ, i64_w, i32_w]
                              rfl
                            refine pure_ (i := 12) (N := some 41) (v := ?_) (a' := ?_) #[true, true, true, true, true, true, false, true, true, false, false, false, true, false, false, false, false, false, false, false, false] rfl rfl (any_of HT_.out (by kernel_rfl)) (fun _ _ _ h => h) (Or.inl ⟨by rfl, ?_⟩) ?_ ?_
                            rotate_left
                            · intro w'
                              go_simp
                              with_reducible rfl
                            rotate_left
                            · simp only [Act.put, List.setIfInBounds_toArray, List.set_cons_zero, List.set_cons_succ, i64_w, i32_w]
                              rfl
                            refine pure_ (i := 13) (N := some 42) (v := ?_) (a' := ?_) #[true, true, true, true, true, true, false, true, true, false, false, false, true, true, false, false, false, false, false, false, false] rfl rfl (any_of HT_.out (by kernel_rfl)) (fun _ _ _ h => h) (Or.inl ⟨by rfl, ?_⟩) ?_ ?_
                            rotate_left
                            · intro w'
                              go_simp
                              with_reducible rfl
                            rotate_left
                            · simp only [Act.put, List.setIfInBounds_toArray, List.set_cons_zero, List.set_cons_succ, i64_w, i32_w]
                              rfl
                            refine take_ (i := 6) (N := some 35) (v := ?_) (a' := ?_) #[true, true, true, true, true, true, true, true, true, false, false, false, true, true, false, false, false, false, false, false, false] rfl rfl (take_ofW HT_.out HW_.out (by kernel_rfl)) (fun _ _ _ h => h) (Or.inl ⟨by rfl, ?_⟩) hHeld ?_ ?_
                            rotate_left
                            · intro w' s0
                              go_simp
                              with_reducible rfl
                            rotate_left
                            · simp only [Act.put, List.setIfInBounds_toArray, List.set_cons_zero, List.set_cons_succ, i64_w, i32_w]
                              rfl
                            refine take_ (i := 9) (N := some 38) (v := ?_) (a' := ?_) #[true, true, true, true, true, true, true, true, true, true, false, false, true, true, false, false, false, false, false, false, false] rfl rfl (take_ofW HT_.out HW_.out (by kernel_rfl)) (fun _ _ _ h => h) (Or.inl ⟨by rfl, ?_⟩) hHeld ?_ ?_
                            rotate_left
                            · intro w' s0
                              go_simp
                              with_reducible rfl
                            rotate_left
                            · simp only [Act.put, List.setIfInBounds_toArray, List.set_cons_zero, List.set_cons_succ, i64_w, i32_w]
                              rfl
                            refine pure_ (i := 10) (N := some 39) (v := ?_) (a' := ?_) #[true, true, true, true, true, true, true, true, true, true, true, false, true, true, false, false, false, false, false, false, false] rfl rfl (any_of HT_.out (by kernel_rfl)) (fun _ _ _ h => h) (Or.inl ⟨by rfl, ?_⟩) ?_ ?_
                            rotate_left
                            · intro w'
                              go_simp
                              with_reducible rfl
                            rotate_left
                            · simp only [Act.put, List.setIfInBounds_toArray, List.set_cons_zero, List.set_cons_succ, i64_w, i32_w]
                              rfl
                            refine pure_ (i := 11) (N := some 40) (v := ?_) (a' := ?_) #[true, true, true, true, true, true, true, true, true, true, true, true, true, true, false, false, false, false, false, false, false] rfl rfl (any_of HT_.out (by kernel_rfl)) (fun _ _ _ h => h) (Or.inl ⟨by rfl, ?_⟩) ?_ ?_
                            rotate_left
                            · intro w'
                              go_simp
                              with_reducible rfl
                            rotate_left
                            · simp only [Act.put, List.setIfInBounds_toArray, List.set_cons_zero, List.set_cons_succ, i64_w, i32_w]
                              rfl
                            refine take_ (i := 14) (N := some 43) (v := ?_) (a' := ?_) #[true, true, true, true, true, true, true, true, true, true, true, true, true, true, true, false, false, false, false, false, false] rfl rfl (take_ofW HT_.out HW_.out (by kernel_rfl)) (fun _ _ _ h => h) (Or.inl ⟨by rfl, ?_⟩) hHeld ?_ ?_
                            rotate_left
                            · intro w' s0
                              go_simp
                              with_reducible rfl
                            rotate_left
                            · simp only [Act.put, List.setIfInBounds_toArray, List.set_cons_zero, List.set_cons_succ, i64_w, i32_w]
                              rfl
                            refine pure_ (i := 15) (N := some 44) (v := ?_) (a' := ?_) #[true, true, true, true, true, true, true, true, true, true, true, true, true, true, true, true, false, false, false, false, false] rfl rfl (any_of HT_.out (by kernel_rfl)) (fun _ _ _ h => h) (Or.inl ⟨by rfl, ?_⟩) ?_ ?_
                            rotate_left
                            · intro w'
                              go_simp
                              with_reducible rfl
                            rotate_left
                            · simp only [Act.put, List.setIfInBounds_toArray, List.set_cons_zero, List.set_cons_succ, i64_w, i32_w]
                              rfl
                            refine pure_ (i := 16) (N := some 45) (v := ?_) (a' := ?_) #[true, true, true, true, true, true, true, true, true, true, true, true, true, true, true, true, true, false, false, false, false] rfl rfl (any_of HT_.out (by kernel_rfl)) (fun _ _ _ h => h) (Or.inl ⟨by rfl, ?_⟩) ?_ ?_
                            rotate_left
                            · intro w'
                              go_simp
                              with_reducible rfl
                            rotate_left
                            · simp only [Act.put, List.setIfInBounds_toArray, List.set_cons_zero, List.set_cons_succ, i64_w, i32_w]
                              rfl
                            refine pure_ (i := 17) (N := some 46) (v := ?_) (a' := ?_) #[true, true, true, true, true, true, true, true, true, true, true, true, true, true, true, true, true, true, false, false, false] rfl rfl (any_of HT_.out (by kernel_rfl)) (fun _ _ _ h => h) (Or.inl ⟨by rfl, ?_⟩) ?_ ?_
                            rotate_left
                            · intro w'
                              go_simp
                              with_reducible rfl
                            rotate_left
                            · simp only [Act.put, List.setIfInBounds_toArray, List.set_cons_zero, List.set_cons_succ, i64_w, i32_w]
                              rfl
                            refine pure_ (i := 18) (N := some 47) (v := ?_) (a' := ?_) #[true, true, true, true, true, true, true, true, true, true, true, true, true, true, true, true, true, true, true, false, false] rfl rfl (any_of HT_.out (by kernel_rfl)) (fun _ _ _ h => h) (Or.inl ⟨by rfl, ?_⟩) ?_ ?_
                            rotate_left
                            · intro w'
                              go_simp
                              with_reducible rfl
                            rotate_left
                            · simp only [Act.put, List.setIfInBounds_toArray, List.set_cons_zero, List.set_cons_succ, i64_w, i32_w]
                              rfl
                            refine pure_ (i := 19) (N := some 48) (v := ?_) (a' := ?_) #[true, true, true, true, true, true, true, true, true, true, true, true, true, true, true, true, true, true, true, true, false] rfl rfl (any_of HT_.out (by kernel_rfl)) (fun _ _ _ h => h) (Or.inl ⟨by rfl, ?_⟩) ?_ ?_
                            rotate_left
                            · intro w'
                              go_simp
                              with_reducible rfl
                            rotate_left
                            · simp only [Act.put, List.setIfInBounds_toArray, List.set_cons_zero, List.set_cons_succ, i64_w, i32_w]
                              rfl
                            refine last_ (i := 20) (N := none) #[true, true, true, true, true, true, true, true, true, true, true, true, true, true, true, true, true, true, true, true, true] rfl rfl (one_of HT_.out (by kernel_rfl)) (by decide) (fun K hK => ?_)
                            refine skip_ (w1 := ?_) (by rfl) rfl ?_ ?_
                            rotate_left
                            · go_simp
                              rfl
                            refine hK.out _ _ ?_
                            clear hK K
                            refine done_ (done_of HT_.out (by kernel_rfl)) ?_
                            try go_wp2
                            go_roundg k2
                            case measure => have := HK1.out; have := HK2.out; omega
                            case rel => exact ⟨(y105), (wrap64 (x7_2 + 1)), (by first | rfl | exact congrArg Value.bool (not_empty _) | exact congrArg Value.bool (is_empty _) | (simp; done) | (simp [*]; done)), H', ⟨by have := HK1.out; have := HK2.out; omega⟩, ⟨by (with_reducible repeat (first | apply Kd.R_alloc | apply Kd.R_drewN | apply Kd.R_drew)); first | exact HQ21.out | (simp only [wrap_mod]; exact HQ21.out)⟩, ⟨by repeat (first | (with_reducible first | exact HB.out | apply below_alloc | apply pw_below_drewN | apply below_drew1 | refine below_set ?_ GB18.out) | exact HB.out)⟩⟩
                          · rw [if_neg c16] at H
                            exact absurd H (by simp)
                        · rw [if_neg c14] at H
                          exact absurd H (by simp)
                      · rw [if_neg c13] at H
                        exact absurd H (by simp)
                    · rw [if_neg c12] at H
                      exact absurd H (by simp)
                  · rw [if_neg c11] at H
                    exact absurd H (by simp)
                · rw [if_neg c9] at H
                  have c9b0 : decide (x7_2 < (a1.size : Int)) = false := decide_eq_false c9
                  clear c9
                  have H' := Aside0.mk H
                  clear H
                  go_wp2
                  go_roundg k2
                  case measure => have := HK1.out; have := HK2.out; omega
                  case rel => exact ⟨(x5_2), (wrap64 (x6_1 + 1)), (by first | rfl | exact congrArg Value.bool (not_empty _) | exact congrArg Value.bool (is_empty _) | (simp; done) | (simp [*]; done)), H', ⟨by have := HK1.out; have := HK2.out; omega⟩, ⟨by (with_reducible repeat (first | apply Kd.R_alloc | apply Kd.R_drewN | apply Kd.R_drew)); exact HO_5.out⟩, ⟨by repeat (first | (with_reducible first | exact HB.out | apply below_alloc | apply pw_below_drewN | apply below_drew1) | exact HB.out)⟩⟩
          · rw [if_neg c8] at H
            have c8b0 : decide (x6_1 < (a0.size : Int)) = false := decide_eq_false c8
            clear c8
            by_cases c22 : 0 ≤ (x5_1.length : Int)
            · rw [if_pos c22] at H
              have c22b0 := eq_true c22
              have c22b1 : decide (0 ≤ (x5_1.length : Int)) = true := decide_eq_true c22
              clear c22
              by_cases c23 : ((x5_1.length : Int) : Int).toNat ≤ 281474976710656
              · rw [if_pos c23] at H
                have c23b0 := eq_true c23
                have c23b1 : decide (((x5_1.length : Int) : Int).toNat ≤ 281474976710656) = true := decide_eq_true c23
                clear c23
                obtain ⟨y106, hy106⟩ : ∃ y_ : List Int, y_ = (List.replicate ((x5_1.length : Int) : Int).toNat 0) := ⟨_, rfl⟩
                replace H : (metrolabref01_product.l2 k1 x5_1 y106 0 (wrap64 ((x5_1.length : Int) - 1))) = some r := by first | (rw [hy106]; with_reducible exact H) | (have H2_ := (Option.bind_some _ _).symm.trans H; rw [hy106]; with_reducible exact H2_) | (have H2_ := (Option.bind_some _ _).symm.trans H; with_reducible exact H2_) | with_reducible exact H | (rw [hy106]; exact H) | exact H
                have Ny106 := Aside0.mk hy106
                clear hy106
                have H' := Aside0.mk H
                clear H
                obtain ⟨Ao24, co24, eo24⟩ := Kd.R_slice HO_5.out
                subst eo24
                go_wp2_with (first | ((with_reducible refine gate_dst (N := 51) rfl ?_); refine Kd.R_make (Kd.int .u8) _ 5 rfl (N := 51) rfl 88 _ _ rfl (x5_1.length : Int) rfl rfl Tryz.underlying88 (.int .u8 0) 1 info5 rfl (by decide) (by omega) 0 (ok := fun _ => True) (okp := fun _ => True) rfl (fun _ hk => hk) trivial (of_decide_eq_true (by first | (with_reducible assumption) | assumption)) (Nat.le_trans (Nat.mul_le_mul_right _ (of_decide_eq_true (by first | (with_reducible assumption) | assumption) : (x5_1.length : Int).toNat ≤ 281474976710656)) (by omega)) (Below.refl _ _) (Nat.le_refl _) ?_; intro v107 w25 ho26 hb hg_ hnew_; clear hg_ hnew_; (first | rw [← Ny106.out] at ho26 | (simp only [Int.reduceToNat] at ho26; rw [← Ny106.out] at ho26)); have n0_ := Aside0.mk (Kd.R_below (by (with_reducible repeat (first | apply Kd.R_alloc | apply Kd.R_drewN | apply Kd.R_drew)); exact HO_5.out) hb); have n1_ := Aside0.mk (Kd.R_lower ho26 (below_size (by repeat (first | (with_reducible first | exact HB.out | apply below_alloc | apply pw_below_drewN | apply below_drew1) | exact HB.out)))); have n2_ := Aside0.mk (below_step (by repeat (first | (with_reducible first | exact HB.out | apply below_alloc | apply pw_below_drewN | apply below_drew1) | exact HB.out)) hb); clear HO_5; clear HB; have HO_5 := n0_; have HO108 := n1_; have HB := n2_; clear n0_ n1_ n2_; clear hb ho26))
                go_loopg [9, 10] k1 (fun kq v9 v10 w' => ∃ (x8_2 : List Int) (x9_2 : Int) (x10_2 : Int), v9 = .int .i64 x9_2 ∧ v10 = .int .i64 x10_2 ∧ Aside0 (metrolabref01_product.l2 kq x5_1 x8_2 x9_2 x10_2 = some r) ∧ Aside0 (kq ≤ k1) ∧ Aside0 (Kd.R (Kd.int .i64) 3 w' w.heap.size (fun _ => True) (.slice Ao24 x5_1.length co24) x5_1) ∧ Aside0 (Kd.R (Kd.int .u8) 5 w' w.heap.size (fun _ => True) v107 x8_2) ∧ Aside0 (Below w.heap.size w w'))
                case atStart => exact ⟨(y106), (0), (wrap64 ((x5_1.length : Int) - 1)), (by first | rfl | exact congrArg Value.bool (not_empty _) | exact congrArg Value.bool (is_empty _) | (simp; done) | (simp [*]; done)), (by first | rfl | exact congrArg Value.bool (not_empty _) | exact congrArg Value.bool (is_empty _) | (simp; done) | (simp [*]; done)), H', ⟨Nat.le_refl _⟩, ⟨by (with_reducible repeat (first | apply Kd.R_alloc | apply Kd.R_drewN | apply Kd.R_drew)); exact HO_5.out⟩, ⟨by (with_reducible repeat (first | apply Kd.R_alloc | apply Kd.R_drewN | apply Kd.R_drew)); exact HO108.out⟩, ⟨by repeat (first | (with_reducible first | exact HB.out | apply below_alloc | apply pw_below_drewN | apply below_drew1) | exact HB.out)⟩⟩
                case round =>
                  clear H'
                  try clear c1
                  try clear p1
                  try clear q1
                  try clear hx1
                  try clear c2
                  try clear p2
                  try clear c4
                  try clear c4b0
                  try clear c4b1
                  try clear c5
                  try clear c5b0
                  try clear c5b1
                  try clear p6
                  try clear c7
                  try clear c8
                  try clear c8b0
                  try clear c9
                  try clear c9b0
                  try clear p10
                  try clear q10
                  try clear hx10
                  try clear c11
                  try clear c11b0
                  try clear c12
                  try clear c12b0
                  try clear c13
                  try clear c13b0
                  try clear c14
                  try clear c14b0
                  try clear p15
                  try clear q15
                  try clear hx15
                  try clear c16
                  try clear c16b0
                  try clear p17
                  try clear q17
                  try clear hx17
                  try clear p18
                  try clear q18
                  try clear hx18
                  try clear hf18
                  try clear c22
                  try clear c22b0
                  try clear c22b1
                  try clear c23
                  try clear c23b0
                  try clear c23b1
                  try clear hx104_0
                  try clear hx18_0
                  try clear p104
                  try clear p15
                  try clear p17
                  try clear p18
                  try clear p2
                  try clear p6
                  try clear q104
                  try clear q15
                  try clear q17
                  try clear q18
                  obtain ⟨x8_2, x9_2, x10_2, rfl, rfl, HA, HK2, HO_5, HO_8, HB⟩ := hrel
                  cases gk with
                  | zero => exact absurd HA.out (by simp [metrolabref01_product.l2])
                  | succ k2 =>
                    have H := HA.out
                    clear HA
                    simp only [metrolabref01_product.l2] at H
                    by_cases c27 : x10_2 ≥ 0
                    · rw [if_pos c27] at H
                      have c27b0 : decide (0 ≤ x10_2) = true := decide_eq_true c27
                      clear c27
                      by_cases c28 : 0 ≤ x10_2
                      · rw [if_pos c28] at H
                        have c28b0 : decide (0 ≤ x10_2) = true := decide_eq_true c28
                        clear c28
                        by_cases c29 : x10_2 < (x5_1.length : Int)
                        · rw [if_pos c29] at H
                          have c29b0 : decide (x10_2 < (x5_1.length : Int)) = true := decide_eq_true c29
                          clear c29
                          by_cases c30 : x10_2 < (x8_2.length : Int)
                          · rw [if_pos c30] at H
                            have c30b0 : decide (x10_2 < (x8_2.length : Int)) = true := decide_eq_true c30
                            clear c30
                            obtain ⟨y110, hy110⟩ : ∃ y_ : List Int, y_ = (x8_2.set (x10_2 : Int).toNat ((wrap64 (48 + (Int.tmod (wrap64 (x9_2 + (rd x5_1 x10_2))) 10))) % 256)) := ⟨_, rfl⟩
                            replace H : (metrolabref01_product.l2 k2 x5_1 y110 (wrap64 (Int.tdiv (wrap64 (x9_2 + (rd x5_1 x10_2))) 10)) (wrap64 (x10_2 - 1))) = some r := by first | (rw [hy110]; with_reducible exact H) | (have H2_ := (Option.bind_some _ _).symm.trans H; rw [hy110]; with_reducible exact H2_) | (have H2_ := (Option.bind_some _ _).symm.trans H; with_reducible exact H2_) | with_reducible exact H | (rw [hy110]; exact H) | exact H
                            have Ny110 := Aside0.mk hy110
                            clear hy110
                            have H' := Aside0.mk H
                            clear H
                            have p109 : 0 ≤ (x10_2 : Int) := of_decide_eq_true (by first | (with_reducible assumption) | assumption)
                            have q109 : x10_2 < (x5_1.length : Int) := of_decide_eq_true (by first | (with_reducible assumption) | assumption)
                            obtain ⟨ad109, e109, hx109_0⟩ := Kd.at_int (Kd.R_reads' HO_5.out).2.2 x10_2 p109 q109
                            cases e109
                            replace p109 := eq_true p109
                            replace q109 := eq_true q109
                            have p31 : 0 ≤ (x10_2 : Int) := of_decide_eq_true (by first | (with_reducible assumption) | assumption)
                            have q31 : (x10_2 : Int) < ((x8_2.length : Int) : Int) := of_decide_eq_true (by first | (with_reducible assumption) | assumption)
                            obtain ⟨go31, co31, eo31, gb31, gl31, cl31, HG31⟩ := Kd.R_form HO_8.out (by omega)
                            (first | cases eo31 | (injection eo31 with ea_ en_ ec_; (first | subst ea_ | (injection ea_ with ea_; subst ea_)); subst ec_; clear en_))
                            have GB31 := Aside0.mk gb31
                            have GG31 := Aside0.mk HG31
                            clear gb31 gl31 HG31
                            obtain ⟨hx31_0, hf31_0⟩ := Kd.R_celln 0 HO_8.out (x10_2 : Int) p31 q31
                            replace p31 := eq_true p31
                            replace q31 := eq_true q31
                            have HP32 := Kd.R_putg HO_8.out (x10_2 : Int) ((wrap64 (48 + (Int.tmod (wrap64 (x9_2 + (rd x5_1 x10_2))) 10))) % 256)
                            go_wp2_with (first | ((with_reducible refine gate_store (t := 5) (p := 71) rfl ?_); refine store_event (t := 5) (p := 71) (v := ?vo_w33) (w1 := (wr.setCell ⟨go31, (x10_2 : Int).toNat, none⟩ (.int .u8 ((wrap64 (48 + (Int.tmod (wrap64 (x9_2 + (rd x5_1 x10_2))) 10))) % 256)))) ?hg ?ho ?hn ?hr ?_; (case ho => rfl); (case hg => rfl); (case hn => rfl); (case hr => first | (go_simp; done) | (go_simp; rfl)); intro w33 hw; have hg : wr.grownBy w33 (some go31) := (by rw [hw]; exact HP32.2); have hp_ : Kd.R (Kd.int .u8) 5 w33 w.heap.size (fun _ => True) (.slice (some ⟨go31, 0, none⟩) x8_2.length co31) y110 := (by rw [hw, Ny110.out]; exact HP32.1); clear HP32; have n0_ := Aside0.mk (Kd.R_over' (v := (.slice (some ⟨go31, 0, none⟩) x8_2.length co31)) (by (with_reducible repeat (first | apply Kd.R_alloc | apply Kd.R_drewN | apply Kd.R_drew)); exact HO_5.out) (Kd.R_typed HO_8.out) (by decide) hg); have n1_ := Aside0.mk (hp_); have n2_ := Aside0.mk ((by rw [hw]; exact below_set (HB.out) GB31.out : Below w.heap.size w w33)); clear HO_5; clear HO_8; clear HB; have HO_5 := n0_; have HO_8 := n1_; have HB := n2_; clear n0_ n1_ n2_; clear hg hw hp_))
                            go_roundg k2
                            case measure => have := HK1.out; have := HK2.out; omega
                            case rel => exact ⟨(y110), (wrap64 (Int.tdiv (wrap64 (x9_2 + (rd x5_1 x10_2))) 10)), (wrap64 (x10_2 - 1)), (by first | rfl | exact congrArg Value.bool (not_empty _) | exact congrArg Value.bool (is_empty _) | (simp; done) | (simp [*]; done)), (by first | rfl | exact congrArg Value.bool (not_empty _) | exact congrArg Value.bool (is_empty _) | (simp; done) | (simp [*]; done)), H', ⟨by have := HK1.out; have := HK2.out; omega⟩, ⟨by (with_reducible repeat (first | apply Kd.R_alloc | apply Kd.R_drewN | apply Kd.R_drew)); exact HO_5.out⟩, ⟨by (with_reducible repeat (first | apply Kd.R_alloc | apply Kd.R_drewN | apply Kd.R_drew)); exact HO_8.out⟩, ⟨by repeat (first | (with_reducible first | exact HB.out | apply below_alloc | apply pw_below_drewN | apply below_drew1) | exact HB.out)⟩⟩
                          · rw [if_neg c30] at H
                            exact absurd H (by simp)
                        · rw [if_neg c29] at H
                          exact absurd H (by simp)
                      · rw [if_neg c28] at H
                        exact absurd H (by simp)
                    · rw [if_neg c27] at H
                      have c27b0 : decide (0 ≤ x10_2) = false := decide_eq_false c27
                      clear c27
                      replace H := Option.bind_eq_some_iff.mp H
                      obtain ⟨t111, A340, H⟩ := H
                      replace H : (some t111) = some r := H
                      have A34 := Aside0.mk A340
                      clear A340
                      obtain rfl := Option.some.inj H
                      have hcv35 := own_string (P := Tryz.prog) Tryz.underlying88 Tryz.underlying5 Tryz.underlying9 (Kd.own_of_R HO_8.out)
                      go_wp2_with (first | ((with_reducible refine gate_callee (f := 96) rfl ?_); refine goesL_ (some 76) rfl rfl Tryz.func96 (by kernel_rfl) rfl #[.string (strOfNums x8_2)] rfl (by (try simp only [List.map_toArray, List.map_cons, List.map_nil]); first | done | rfl | (simp only [List.length_drop, List.length_take]; rfl)) ?_; (with_reducible refine (ZP.metrolabref01_bare.calls k2 (strOfNums x8_2) t111 _ A34.out).mono ?_); rintro e w' ⟨rfl, ⟨nd, rfl⟩⟩; refine ⟨_, rfl, ?_⟩))
                      go_ret
                      exact ⟨by first | rfl | (simp [errW_none, errW_some] <;> rfl) | (simp only [← hji3]; first | rfl | (simp [errW_none, errW_some] <;> rfl)) | (simp [*, errW_none, errW_some] <;> rfl), by repeat (first | (with_reducible first | exact HB.out | apply below_alloc | apply pw_below_drewN | apply below_drew1) | exact HB.out)⟩
              · rw [if_neg c23] at H
                exact absurd H (by simp)
            · rw [if_neg c22] at H
              exact absurd H (by simp)
    · rw [if_neg c5] at H
      exact absurd H (by simp)
  · rw [if_neg c4] at H
    exact absurd H (by simp)
def metrolabref01_Times.j0 : Nat → ByteArray → ByteArray → Int → Int → Bool → Option (ByteArray)
  | 0, _, _, _, _, _ => none
  | k + 1, x0, x1, x5, x6, x23 => if x23 = true then ((ZP.metrolabref01_Of.f k (wrap64 (x5 * x6))).bind fun t115 => (some t115)) else ((ZP.metrolabref01_size.f x0).bind fun t116 => ((ZP.metrolabref01_size.f x1).bind fun t117 => ((metrolabref01_product.f k t116 t117).bind fun t118 => ((ZP.metrolabref01_Below.f x0).bind fun t119 => ((ZP.metrolabref01_Below.f x1).bind fun t120 => ((ZP.metrolabref01_signed.f t118 (t119 != t120)).bind fun t121 => (some t121)))))))
def metrolabref01_Times.f (k : Nat) (a0 : ByteArray) (a1 : ByteArray) : Option (ByteArray) := (ZP.metrolabref01_brief.f k a0 a1).bind fun bt112 => (if bt112.2.2 = true then (metrolabref01_Times.j0 k a0 a1 bt112.1 bt112.2.1 (decide ((wrap64 ((a0.size : Int) + (a1.size : Int))) ≤ 18))) else (metrolabref01_Times.j0 k a0 a1 bt112.1 bt112.2.1 false))
theorem metrolabref01_Times.mono_l : ∀ k, (∀ y0 y1 y2 y3 y4, LeO (metrolabref01_Times.j0 k y0 y1 y2 y3 y4) (metrolabref01_Times.j0 (k + 1) y0 y1 y2 y3 y4))
  | 0 => fun _ _ _ _ _ r h => by simp [metrolabref01_Times.j0] at h
  | k + 1 => by
    have ih0 := metrolabref01_Times.mono_l k
    · intro y0 y1 y2 y3 y4
      unfold metrolabref01_Times.j0
      repeat' first
      | (with_reducible exact ih0 _ _ _ _ _)
      | (with_reducible exact ZP.metrolabref01_Of.mono _ _)
      | (with_reducible exact ZP.metrolabref01_brief.mono _ _ _)
      | (with_reducible exact metrolabref01_product.mono _ _ _)
      | (with_reducible exact LeO.refl _)
      | (with_reducible exact LeO.none _)
      | (with_reducible refine LeO.ite ?_ ?_)
      | (with_reducible refine LeO.bind ?_ (fun _ => ?_))
      | exact ih0 _ _ _ _ _
      | exact ZP.metrolabref01_Of.mono _ _
      | exact ZP.metrolabref01_brief.mono _ _ _
      | exact metrolabref01_product.mono _ _ _
      | exact LeO.none _
      | refine LeO.ite ?_ ?_
      | refine LeO.bind ?_ (fun _ => ?_)
theorem metrolabref01_Times.mono : ∀ a0 a1 k, LeO (metrolabref01_Times.f k a0 a1) (metrolabref01_Times.f (k + 1) a0 a1) := by
  intro a0 a1 k
  have ih0 := metrolabref01_Times.mono_l k
  unfold metrolabref01_Times.f
  repeat' first
      | (with_reducible exact ih0 _ _ _ _ _)
      | (with_reducible exact ZP.metrolabref01_Of.mono _ _)
      | (with_reducible exact ZP.metrolabref01_brief.mono _ _ _)
      | (with_reducible exact metrolabref01_product.mono _ _ _)
      | (with_reducible exact LeO.refl _)
      | (with_reducible exact LeO.none _)
      | (with_reducible refine LeO.ite ?_ ?_)
      | (with_reducible refine LeO.bind ?_ (fun _ => ?_))
      | exact ih0 _ _ _ _ _
      | exact ZP.metrolabref01_Of.mono _ _
      | exact ZP.metrolabref01_brief.mono _ _ _
      | exact metrolabref01_product.mono _ _ _
      | exact LeO.none _
      | refine LeO.ite ?_ ?_
      | refine LeO.bind ?_ (fun _ => ?_)
set_option maxHeartbeats 8000000 in
set_option maxRecDepth 100000 in
theorem metrolabref01_Times.calls (k : Nat) (a0 : ByteArray) (a1 : ByteArray) (r : ByteArray) (w : World) (h : metrolabref01_Times.f k a0 a1 = some r) :
    Calls Tryz.prog 47 #[.string a0, .string a1] w fun e w' => e = .returned (.string r) ∧ Below w.heap.size w w' := by
  have HB := Aside0.mk (Below.refl w.heap.size w)
  have H : ((ZP.metrolabref01_brief.f k a0 a1).bind fun bt112 => (if bt112.2.2 = true then (metrolabref01_Times.j0 k a0 a1 bt112.1 bt112.2.1 (decide ((wrap64 ((a0.size : Int) + (a1.size : Int))) ≤ 18))) else (metrolabref01_Times.j0 k a0 a1 bt112.1 bt112.2.1 false))) = some r := h
  clear h
  replace H := Option.bind_eq_some_iff.mp H
  obtain ⟨⟨t112, t113, t114⟩, A30, H⟩ := H
  replace H : (if t114 = true then (metrolabref01_Times.j0 k a0 a1 t112 t113 (decide ((wrap64 ((a0.size : Int) + (a1.size : Int))) ≤ 18))) else (metrolabref01_Times.j0 k a0 a1 t112 t113 false)) = some r := H
  have A3 := Aside0.mk A30
  clear A30
  have HC4 := Aside0.mk H
  clear H
  go_enter Tryz.func47, Tryz.ntmps47
  go_upto_region 2 with (first | ((with_reducible refine gate_callee (f := 71) rfl ?_); refine goesL_ (some 11) rfl rfl Tryz.func71 (by kernel_rfl) rfl #[.string a0, .string a1] rfl (by (try simp only [List.map_toArray, List.map_cons, List.map_nil]); first | done | rfl | (simp only [List.length_drop, List.length_take]; rfl)) ?_; (with_reducible refine (ZP.metrolabref01_brief.calls k a0 a1 t112 t113 t114 _ A3.out).mono ?_); rintro e w' ⟨rfl, ⟨nd, rfl⟩⟩; refine ⟨_, rfl, ?_⟩))
  (try simp only [Act.put, List.setIfInBounds_toArray, List.set_cons_zero, List.set_cons_succ])
  go_cut [23] (fun v23 wc => ∃ (kq : Nat) (x23_3 : Bool), v23 = .bool x23_3 ∧ Aside0 (metrolabref01_Times.j0 kq a0 a1 t112 t113 x23_3 = some r) ∧ Aside0 (kq ≤ k) ∧ Aside0 (Below w.heap.size w wc))
  case first =>
    have H := HC4.out
    clear HC4
    by_cases c5 : t114 = true
    · subst c5
      have H1 : (metrolabref01_Times.j0 k a0 a1 t112 t113 (decide ((wrap64 ((a0.size : Int) + (a1.size : Int))) ≤ 18))) = some r := by rw [if_pos rfl] at H; exact H
      clear H
      have H := H1
      clear H1
      have H' := Aside0.mk H
      clear H
      go_wp2
      go_meet
      case rel => exact ⟨_, (decide ((wrap64 ((a0.size : Int) + (a1.size : Int))) ≤ 18)), (by first | rfl | exact congrArg Value.bool (not_empty _) | exact congrArg Value.bool (is_empty _) | (simp; done) | (simp [*]; done)), H', ⟨by first | omega | exact Nat.le_refl _⟩, ⟨by repeat (first | (with_reducible first | exact HB.out | apply below_alloc | apply pw_below_drewN | apply below_drew1) | exact HB.out)⟩⟩
    · replace c5 := Bool.eq_false_iff.mpr c5
      subst c5
      have H1 : (metrolabref01_Times.j0 k a0 a1 t112 t113 false) = some r := by rw [if_neg (show ¬ (false = true) by decide)] at H; exact H
      clear H
      have H := H1
      clear H1
      have H' := Aside0.mk H
      clear H
      go_wp2
      go_meet
      case rel => exact ⟨_, (false), (by first | rfl | exact congrArg Value.bool (not_empty _) | exact congrArg Value.bool (is_empty _) | (simp; done) | (simp [*]; done)), H', ⟨by first | omega | exact Nat.le_refl _⟩, ⟨by repeat (first | (with_reducible first | exact HB.out | apply below_alloc | apply pw_below_drewN | apply below_drew1) | exact HB.out)⟩⟩
  case rest =>
    clear HC4
    try clear p2
    try clear c4
    try clear c5
    obtain ⟨kq, x23_3, rfl, HA, HJ3, HB⟩ := hcut
    cases kq with
    | zero => exact absurd HA.out (by simp [metrolabref01_Times.j0])
    | succ kj3 =>
      have H := HA.out
      clear HA
      simp only [metrolabref01_Times.j0] at H
      by_cases c6 : x23_3 = true
      · subst c6
        have H1 : ((ZP.metrolabref01_Of.f kj3 (wrap64 (t112 * t113))).bind fun t115 => (some t115)) = some r := by rw [if_pos rfl] at H; exact H
        clear H
        have H := H1
        clear H1
        replace H := Option.bind_eq_some_iff.mp H
        obtain ⟨t115, A70, H⟩ := H
        replace H : (some t115) = some r := H
        have A7 := Aside0.mk A70
        clear A70
        obtain rfl := Option.some.inj H
        go_wp2_with (first | ((with_reducible refine gate_callee (f := 31) rfl ?_); refine goesL_ (some 27) rfl rfl Tryz.func31 (by kernel_rfl) rfl #[.int .i64 (wrap64 (t112 * t113))] rfl (by (try simp only [List.map_toArray, List.map_cons, List.map_nil]); first | done | rfl | (simp only [List.length_drop, List.length_take]; rfl)) ?_; (with_reducible refine (ZP.metrolabref01_Of.calls kj3 (wrap64 (t112 * t113)) t115 _ A7.out).mono ?_); rintro e w8 ⟨rfl, hb⟩; refine ⟨_, rfl, ?_⟩; have n0_ := Aside0.mk (below_step (by repeat (first | (with_reducible first | exact HB.out | apply below_alloc | apply pw_below_drewN | apply below_drew1) | exact HB.out)) hb); clear HB; have HB := n0_; clear n0_; (try clear hb); (try clear hb2); (try clear hk); (try clear hi)))
        go_ret
        exact ⟨by first | rfl | (simp [errW_none, errW_some] <;> rfl) | (simp [*, errW_none, errW_some] <;> rfl), by repeat (first | (with_reducible first | exact HB.out | apply below_alloc | apply pw_below_drewN | apply below_drew1) | exact HB.out)⟩
      · replace c6 := Bool.eq_false_iff.mpr c6
        subst c6
        have H1 : ((ZP.metrolabref01_size.f a0).bind fun t116 => ((ZP.metrolabref01_size.f a1).bind fun t117 => ((metrolabref01_product.f kj3 t116 t117).bind fun t118 => ((ZP.metrolabref01_Below.f a0).bind fun t119 => ((ZP.metrolabref01_Below.f a1).bind fun t120 => ((ZP.metrolabref01_signed.f t118 (t119 != t120)).bind fun t121 => (some t121))))))) = some r := by rw [if_neg (show ¬ (false = true) by decide)] at H; exact H
        clear H
        have H := H1
        clear H1
        replace H := Option.bind_eq_some_iff.mp H
        obtain ⟨t116, A90, H⟩ := H
        replace H : ((ZP.metrolabref01_size.f a1).bind fun t117 => ((metrolabref01_product.f kj3 t116 t117).bind fun t118 => ((ZP.metrolabref01_Below.f a0).bind fun t119 => ((ZP.metrolabref01_Below.f a1).bind fun t120 => ((ZP.metrolabref01_signed.f t118 (t119 != t120)).bind fun t121 => (some t121)))))) = some r := H
        have A9 := Aside0.mk A90
        clear A90
        replace H := Option.bind_eq_some_iff.mp H
        obtain ⟨t117, A100, H⟩ := H
        replace H : ((metrolabref01_product.f kj3 t116 t117).bind fun t118 => ((ZP.metrolabref01_Below.f a0).bind fun t119 => ((ZP.metrolabref01_Below.f a1).bind fun t120 => ((ZP.metrolabref01_signed.f t118 (t119 != t120)).bind fun t121 => (some t121))))) = some r := H
        have A10 := Aside0.mk A100
        clear A100
        replace H := Option.bind_eq_some_iff.mp H
        obtain ⟨t118, A110, H⟩ := H
        replace H : ((ZP.metrolabref01_Below.f a0).bind fun t119 => ((ZP.metrolabref01_Below.f a1).bind fun t120 => ((ZP.metrolabref01_signed.f t118 (t119 != t120)).bind fun t121 => (some t121)))) = some r := H
        have A11 := Aside0.mk A110
        clear A110
        replace H := Option.bind_eq_some_iff.mp H
        obtain ⟨t119, A120, H⟩ := H
        replace H : ((ZP.metrolabref01_Below.f a1).bind fun t120 => ((ZP.metrolabref01_signed.f t118 (t119 != t120)).bind fun t121 => (some t121))) = some r := H
        have A12 := Aside0.mk A120
        clear A120
        replace H := Option.bind_eq_some_iff.mp H
        obtain ⟨t120, A130, H⟩ := H
        replace H : ((ZP.metrolabref01_signed.f t118 (t119 != t120)).bind fun t121 => (some t121)) = some r := H
        have A13 := Aside0.mk A130
        clear A130
        replace H := Option.bind_eq_some_iff.mp H
        obtain ⟨t121, A140, H⟩ := H
        replace H : (some t121) = some r := H
        have A14 := Aside0.mk A140
        clear A140
        obtain rfl := Option.some.inj H
        go_wp2_with (first | ((with_reducible refine gate_callee (f := 58) rfl ?_); refine goesL_ (some 29) rfl rfl Tryz.func58 (by kernel_rfl) rfl #[.string a0] rfl (by (try simp only [List.map_toArray, List.map_cons, List.map_nil]); first | done | rfl | (simp only [List.length_drop, List.length_take]; rfl)) ?_; (with_reducible refine (ZP.metrolabref01_size.calls a0 t116 _ A9.out).mono ?_); rintro e w' ⟨rfl, ⟨nd, rfl⟩⟩; refine ⟨_, rfl, ?_⟩) | ((with_reducible refine gate_callee (f := 58) rfl ?_); refine goesL_ (some 31) rfl rfl Tryz.func58 (by kernel_rfl) rfl #[.string a1] rfl (by (try simp only [List.map_toArray, List.map_cons, List.map_nil]); first | done | rfl | (simp only [List.length_drop, List.length_take]; rfl)) ?_; (with_reducible refine (ZP.metrolabref01_size.calls a1 t117 _ A10.out).mono ?_); rintro e w' ⟨rfl, ⟨nd, rfl⟩⟩; refine ⟨_, rfl, ?_⟩) | ((with_reducible refine gate_callee (f := 73) rfl ?_); refine goesL_ (some 32) rfl rfl Tryz.func73 (by kernel_rfl) rfl #[.string t116, .string t117] rfl (by (try simp only [List.map_toArray, List.map_cons, List.map_nil]); first | done | rfl | (simp only [List.length_drop, List.length_take]; rfl)) ?_; (with_reducible refine (metrolabref01_product.calls kj3 t116 t117 t118 _ A11.out).mono ?_); rintro e w15 ⟨rfl, hb⟩; refine ⟨_, rfl, ?_⟩; have n0_ := Aside0.mk (below_step (by repeat (first | (with_reducible first | exact HB.out | apply below_alloc | apply pw_below_drewN | apply below_drew1) | exact HB.out)) hb); clear HB; have HB := n0_; clear n0_; (try clear hb); (try clear hb2); (try clear hk); (try clear hi)) | ((with_reducible refine gate_callee (f := 59) rfl ?_); refine goesL_ (some 34) rfl rfl Tryz.func59 (by kernel_rfl) rfl #[.string a0] rfl (by (try simp only [List.map_toArray, List.map_cons, List.map_nil]); first | done | rfl | (simp only [List.length_drop, List.length_take]; rfl)) ?_; (with_reducible refine (ZP.metrolabref01_Below.calls a0 t119 _ A12.out).mono ?_); rintro e w' ⟨rfl, ⟨nd, rfl⟩⟩; refine ⟨_, rfl, ?_⟩) | ((with_reducible refine gate_callee (f := 59) rfl ?_); refine goesL_ (some 36) rfl rfl Tryz.func59 (by kernel_rfl) rfl #[.string a1] rfl (by (try simp only [List.map_toArray, List.map_cons, List.map_nil]); first | done | rfl | (simp only [List.length_drop, List.length_take]; rfl)) ?_; (with_reducible refine (ZP.metrolabref01_Below.calls a1 t120 _ A13.out).mono ?_); rintro e w' ⟨rfl, ⟨nd, rfl⟩⟩; refine ⟨_, rfl, ?_⟩) | ((with_reducible refine gate_callee (f := 72) rfl ?_); refine goesL_ (some 38) rfl rfl Tryz.func72 (by kernel_rfl) rfl #[.string t118, .bool (t119 != t120)] rfl (by (try simp only [List.map_toArray, List.map_cons, List.map_nil]); first | done | rfl | (simp only [List.length_drop, List.length_take]; rfl)) ?_; (with_reducible refine (ZP.metrolabref01_signed.calls t118 (t119 != t120) t121 _ A14.out).mono ?_); rintro e w' ⟨rfl, ⟨nd, rfl⟩⟩; refine ⟨_, rfl, ?_⟩))
        go_ret
        exact ⟨by first | rfl | (simp [errW_none, errW_some] <;> rfl) | (simp [*, errW_none, errW_some] <;> rfl), by repeat (first | (with_reducible first | exact HB.out | apply below_alloc | apply pw_below_drewN | apply below_drew1) | exact HB.out)⟩
def metrolabref01_Mul.f (k : Nat) (a0 : ByteArray) (a1 : ByteArray) : Option (ByteArray × Int) := (ZP.metrolabref01_both.f k a0 a1).bind fun t122 => (if t122 = 0 then ((metrolabref01_Times.f k a0 a1).bind fun t123 => ((ZP.metrolabref01_Kept.f t123).bind fun bt124 => (some (bt124.1, bt124.2)))) else (some ((⟨#[]⟩ : ByteArray), t122)))
theorem metrolabref01_Mul.mono : ∀ a0 a1 k, LeO (metrolabref01_Mul.f k a0 a1) (metrolabref01_Mul.f (k + 1) a0 a1) := by
  intro a0 a1 k
  unfold metrolabref01_Mul.f
  repeat' first
      | (with_reducible exact ZP.metrolabref01_both.mono _ _ _)
      | (with_reducible exact metrolabref01_Times.mono _ _ _)
      | (with_reducible exact LeO.refl _)
      | (with_reducible exact LeO.none _)
      | (with_reducible refine LeO.ite ?_ ?_)
      | (with_reducible refine LeO.bind ?_ (fun _ => ?_))
      | exact ZP.metrolabref01_both.mono _ _ _
      | exact metrolabref01_Times.mono _ _ _
      | exact LeO.none _
      | refine LeO.ite ?_ ?_
      | refine LeO.bind ?_ (fun _ => ?_)
end Go.Proofs.YtpkfnclbcmnckaaGreatDoor.ZM
namespace Go.Proofs.YtpkfnclbcmnckaaGreatDoor.ZM
open Go.RowKit Go.Proofs.YtpkfnclbcmnckaaGreatDoorW.PrintWords Go.Proofs.YtpkfnclbcmnckaaGreatDoorW.PrintLast Go.Proofs.YtpkfnclbcmnckaaGreatDoorW.PrintMore
attribute [local go_sem] max2_int min2_int max_two min_two max_three min_three max_four min_four   -- for this text's walks alone
set_option linter.unusedVariables false
set_option linter.unusedSimpArgs false
mutual
def metrolabref01_divided.l0 : Nat → ByteArray → ByteArray → ByteArray → ByteArray → Int → Option (ByteArray × ByteArray)
  | 0, _, _, _, _, _ => none
  | k + 1, x0, x1, x6, x7, x8 => if x8 < (x0.size : Int) then (if 0 ≤ x8 then (if x8 ≤ (wrap64 (x8 + 1)) then (if (wrap64 (x8 + 1)) ≤ (x0.size : Int) then (if x7.size + (x0.extract (x8 : Int).toNat ((wrap64 (x8 + 1)) : Int).toNat).size ≤ 9223372036854775807 then ((ZP.metrolabref01_bare.f k (x7 ++ (x0.extract (x8 : Int).toNat ((wrap64 (x8 + 1)) : Int).toNat))).bind fun t127 => (metrolabref01_divided.l1 k x0 x1 x6 t127 x8 48)) else (none)) else (none)) else (none)) else (none)) else ((ZP.metrolabref01_bare.f k x6).bind fun t126 => (some (t126, x7)))
def metrolabref01_divided.l1 : Nat → ByteArray → ByteArray → ByteArray → ByteArray → Int → Int → Option (ByteArray × ByteArray)
  | 0, _, _, _, _, _, _ => none
  | k + 1, x0, x1, x6, x7, x8, x9 => (ZP.metrolabref01_less.f x7 x1).bind fun t128 => (if t128 = true then ((some (([x9] : List Int) : List Int)).bind fun y129 => (if x6.size + (strOfNums y129).size ≤ 9223372036854775807 then (metrolabref01_divided.l0 k x0 x1 (x6 ++ (strOfNums y129)) x7 (wrap64 (x8 + 1))) else (none))) else ((ZP.metrolabref01_paper.f k x7 x1 false).bind fun t132 => (metrolabref01_divided.l1 k x0 x1 x6 t132 x8 ((x9 + 1) % 256))))
end
def metrolabref01_divided.f (k : Nat) (a0 : ByteArray) (a1 : ByteArray) : Option (ByteArray × ByteArray) := metrolabref01_divided.l0 k a0 a1 (⟨#[]⟩ : ByteArray) (⟨#[48]⟩ : ByteArray) 0
theorem metrolabref01_divided.mono_l : ∀ k, (∀ y0 y1 y2 y3 y4, LeO (metrolabref01_divided.l0 k y0 y1 y2 y3 y4) (metrolabref01_divided.l0 (k + 1) y0 y1 y2 y3 y4)) ∧ (∀ y0 y1 y2 y3 y4 y5, LeO (metrolabref01_divided.l1 k y0 y1 y2 y3 y4 y5) (metrolabref01_divided.l1 (k + 1) y0 y1 y2 y3 y4 y5))
  | 0 => ⟨fun _ _ _ _ _ r h => by simp [metrolabref01_divided.l0] at h, fun _ _ _ _ _ _ r h => by simp [metrolabref01_divided.l1] at h⟩
  | k + 1 => by
    obtain ⟨ih0, ih1⟩ := metrolabref01_divided.mono_l k
    refine ⟨?_, ?_⟩
    · intro y0 y1 y2 y3 y4
      unfold metrolabref01_divided.l0
      repeat' first
      | (with_reducible exact ih0 _ _ _ _ _)
      | (with_reducible exact ih1 _ _ _ _ _ _)
      | (with_reducible exact ZP.metrolabref01_bare.mono _ _)
      | (with_reducible exact ZP.metrolabref01_paper.mono _ _ _ _)
      | (with_reducible exact LeO.refl _)
      | (with_reducible exact LeO.none _)
      | (with_reducible refine LeO.ite ?_ ?_)
      | (with_reducible refine LeO.bind ?_ (fun _ => ?_))
      | exact ih0 _ _ _ _ _
      | exact ih1 _ _ _ _ _ _
      | exact ZP.metrolabref01_bare.mono _ _
      | exact ZP.metrolabref01_paper.mono _ _ _ _
      | exact LeO.none _
      | refine LeO.ite ?_ ?_
      | refine LeO.bind ?_ (fun _ => ?_)
    · intro y0 y1 y2 y3 y4 y5
      unfold metrolabref01_divided.l1
      repeat' first
      | (with_reducible exact ih0 _ _ _ _ _)
      | (with_reducible exact ih1 _ _ _ _ _ _)
      | (with_reducible exact ZP.metrolabref01_bare.mono _ _)
      | (with_reducible exact ZP.metrolabref01_paper.mono _ _ _ _)
      | (with_reducible exact LeO.refl _)
      | (with_reducible exact LeO.none _)
      | (with_reducible refine LeO.ite ?_ ?_)
      | (with_reducible refine LeO.bind ?_ (fun _ => ?_))
      | exact ih0 _ _ _ _ _
      | exact ih1 _ _ _ _ _ _
      | exact ZP.metrolabref01_bare.mono _ _
      | exact ZP.metrolabref01_paper.mono _ _ _ _
      | exact LeO.none _
      | refine LeO.ite ?_ ?_
      | refine LeO.bind ?_ (fun _ => ?_)
theorem metrolabref01_divided.mono : ∀ a0 a1 k, LeO (metrolabref01_divided.f k a0 a1) (metrolabref01_divided.f (k + 1) a0 a1) := by
  intro a0 a1 k
  obtain ⟨ih0, ih1⟩ := metrolabref01_divided.mono_l k
  unfold metrolabref01_divided.f
  repeat' first
      | (with_reducible exact ih0 _ _ _ _ _)
      | (with_reducible exact ih1 _ _ _ _ _ _)
      | (with_reducible exact ZP.metrolabref01_bare.mono _ _)
      | (with_reducible exact ZP.metrolabref01_paper.mono _ _ _ _)
      | (with_reducible exact LeO.refl _)
      | (with_reducible exact LeO.none _)
      | (with_reducible refine LeO.ite ?_ ?_)
      | (with_reducible refine LeO.bind ?_ (fun _ => ?_))
      | exact ih0 _ _ _ _ _
      | exact ih1 _ _ _ _ _ _
      | exact ZP.metrolabref01_bare.mono _ _
      | exact ZP.metrolabref01_paper.mono _ _ _ _
      | exact LeO.none _
      | refine LeO.ite ?_ ?_
      | refine LeO.bind ?_ (fun _ => ?_)
mutual
def metrolabref01_Parted.j0 : Nat → Int → Int → Int → Bool → Option (ByteArray × ByteArray)
  | 0, _, _, _, _ => none
  | k + 1, x6, x7, x9, x32 => if x32 = true then (if x7 = 0 then (none) else ((ZP.metrolabref01_Of.f k (wrap64 (Int.tdiv (wrap64 (x6 - (wrap64 (x9 + x7)))) x7))).bind fun t136 => ((ZP.metrolabref01_Of.f k (wrap64 (x9 + x7))).bind fun t137 => (some (t136, t137))))) else (if x7 = 0 then (none) else ((ZP.metrolabref01_Of.f k (wrap64 (Int.tdiv (wrap64 (x6 - x9)) x7))).bind fun t138 => ((ZP.metrolabref01_Of.f k x9).bind fun t139 => (some (t138, t139)))))
def metrolabref01_Parted.j1 : Nat → ByteArray → ByteArray → ByteArray → Bool → Option (ByteArray × ByteArray)
  | 0, _, _, _, _ => none
  | k + 1, x0, x1, x12, x67 => if x67 = true then ((ZP.metrolabref01_Minus.f k x12 (⟨#[49]⟩ : ByteArray)).bind fun t149 => ((metrolabref01_Times.f k t149 x1).bind fun t150 => ((ZP.metrolabref01_Minus.f k x0 t150).bind fun t151 => (some (t149, t151))))) else ((metrolabref01_Times.f k x12 x1).bind fun t152 => ((ZP.metrolabref01_Minus.f k x0 t152).bind fun t153 => (some (x12, t153))))
end
def metrolabref01_Parted.f (k : Nat) (a0 : ByteArray) (a1 : ByteArray) : Option (ByteArray × ByteArray) := (ZP.metrolabref01_brief.f k a0 a1).bind fun bt133 => (if bt133.2.2 = true then (if bt133.2.1 = 0 then (none) else (if (Int.tmod bt133.1 bt133.2.1) = 0 then (metrolabref01_Parted.j0 k bt133.1 bt133.2.1 (Int.tmod bt133.1 bt133.2.1) false) else (metrolabref01_Parted.j0 k bt133.1 bt133.2.1 (Int.tmod bt133.1 bt133.2.1) ((decide ((Int.tmod bt133.1 bt133.2.1) < 0)) != (decide (bt133.2.1 < 0)))))) else ((ZP.metrolabref01_size.f a0).bind fun t140 => ((ZP.metrolabref01_size.f a1).bind fun t141 => ((metrolabref01_divided.f k t140 t141).bind fun bt142 => ((ZP.metrolabref01_Below.f a0).bind fun t144 => ((ZP.metrolabref01_Below.f a1).bind fun t145 => ((ZP.metrolabref01_signed.f bt142.1 (t144 != t145)).bind fun t146 => (if bt142.2.toList = ([48] : List UInt8) then (metrolabref01_Parted.j1 k a0 a1 t146 false) else ((ZP.metrolabref01_Below.f a0).bind fun t147 => ((ZP.metrolabref01_Below.f a1).bind fun t148 => (metrolabref01_Parted.j1 k a0 a1 t146 (t147 != t148))))))))))))
theorem metrolabref01_Parted.mono_l : ∀ k, (∀ y0 y1 y2 y3, LeO (metrolabref01_Parted.j0 k y0 y1 y2 y3) (metrolabref01_Parted.j0 (k + 1) y0 y1 y2 y3)) ∧ (∀ y0 y1 y2 y3, LeO (metrolabref01_Parted.j1 k y0 y1 y2 y3) (metrolabref01_Parted.j1 (k + 1) y0 y1 y2 y3))
  | 0 => ⟨fun _ _ _ _ r h => by simp [metrolabref01_Parted.j0] at h, fun _ _ _ _ r h => by simp [metrolabref01_Parted.j1] at h⟩
  | k + 1 => by
    obtain ⟨ih0, ih1⟩ := metrolabref01_Parted.mono_l k
    refine ⟨?_, ?_⟩
    · intro y0 y1 y2 y3
      unfold metrolabref01_Parted.j0
      repeat' first
      | (with_reducible exact ih0 _ _ _ _)
      | (with_reducible exact ih1 _ _ _ _)
      | (with_reducible exact ZP.metrolabref01_Minus.mono _ _ _)
      | (with_reducible exact ZP.metrolabref01_Of.mono _ _)
      | (with_reducible exact ZP.metrolabref01_brief.mono _ _ _)
      | (with_reducible exact metrolabref01_Times.mono _ _ _)
      | (with_reducible exact metrolabref01_divided.mono _ _ _)
      | (with_reducible exact LeO.refl _)
      | (with_reducible exact LeO.none _)
      | (with_reducible refine LeO.ite ?_ ?_)
      | (with_reducible refine LeO.bind ?_ (fun _ => ?_))
      | exact ih0 _ _ _ _
      | exact ih1 _ _ _ _
      | exact ZP.metrolabref01_Minus.mono _ _ _
      | exact ZP.metrolabref01_Of.mono _ _
      | exact ZP.metrolabref01_brief.mono _ _ _
      | exact metrolabref01_Times.mono _ _ _
      | exact metrolabref01_divided.mono _ _ _
      | exact LeO.none _
      | refine LeO.ite ?_ ?_
      | refine LeO.bind ?_ (fun _ => ?_)
    · intro y0 y1 y2 y3
      unfold metrolabref01_Parted.j1
      repeat' first
      | (with_reducible exact ih0 _ _ _ _)
      | (with_reducible exact ih1 _ _ _ _)
      | (with_reducible exact ZP.metrolabref01_Minus.mono _ _ _)
      | (with_reducible exact ZP.metrolabref01_Of.mono _ _)
      | (with_reducible exact ZP.metrolabref01_brief.mono _ _ _)
      | (with_reducible exact metrolabref01_Times.mono _ _ _)
      | (with_reducible exact metrolabref01_divided.mono _ _ _)
      | (with_reducible exact LeO.refl _)
      | (with_reducible exact LeO.none _)
      | (with_reducible refine LeO.ite ?_ ?_)
      | (with_reducible refine LeO.bind ?_ (fun _ => ?_))
      | exact ih0 _ _ _ _
      | exact ih1 _ _ _ _
      | exact ZP.metrolabref01_Minus.mono _ _ _
      | exact ZP.metrolabref01_Of.mono _ _
      | exact ZP.metrolabref01_brief.mono _ _ _
      | exact metrolabref01_Times.mono _ _ _
      | exact metrolabref01_divided.mono _ _ _
      | exact LeO.none _
      | refine LeO.ite ?_ ?_
      | refine LeO.bind ?_ (fun _ => ?_)
theorem metrolabref01_Parted.mono : ∀ a0 a1 k, LeO (metrolabref01_Parted.f k a0 a1) (metrolabref01_Parted.f (k + 1) a0 a1) := by
  intro a0 a1 k
  obtain ⟨ih0, ih1⟩ := metrolabref01_Parted.mono_l k
  unfold metrolabref01_Parted.f
  repeat' first
      | (with_reducible exact ih0 _ _ _ _)
      | (with_reducible exact ih1 _ _ _ _)
      | (with_reducible exact ZP.metrolabref01_Minus.mono _ _ _)
      | (with_reducible exact ZP.metrolabref01_Of.mono _ _)
      | (with_reducible exact ZP.metrolabref01_brief.mono _ _ _)
      | (with_reducible exact metrolabref01_Times.mono _ _ _)
      | (with_reducible exact metrolabref01_divided.mono _ _ _)
      | (with_reducible exact LeO.refl _)
      | (with_reducible exact LeO.none _)
      | (with_reducible refine LeO.ite ?_ ?_)
      | (with_reducible refine LeO.bind ?_ (fun _ => ?_))
      | exact ih0 _ _ _ _
      | exact ih1 _ _ _ _
      | exact ZP.metrolabref01_Minus.mono _ _ _
      | exact ZP.metrolabref01_Of.mono _ _
      | exact ZP.metrolabref01_brief.mono _ _ _
      | exact metrolabref01_Times.mono _ _ _
      | exact metrolabref01_divided.mono _ _ _
      | exact LeO.none _
      | refine LeO.ite ?_ ?_
      | refine LeO.bind ?_ (fun _ => ?_)
def metrolabref01_Divide.f (k : Nat) (a0 : ByteArray) (a1 : ByteArray) : Option (ByteArray × ByteArray × Int) := (ZP.metrolabref01_both.f k a0 a1).bind fun t154 => (if t154 = 0 then (if a1.toList = ([48] : List UInt8) then (some ((⟨#[]⟩ : ByteArray), (⟨#[]⟩ : ByteArray), 10)) else ((metrolabref01_Parted.f k a0 a1).bind fun bt155 => (some (bt155.1, bt155.2, 0)))) else (some ((⟨#[]⟩ : ByteArray), (⟨#[]⟩ : ByteArray), t154)))
theorem metrolabref01_Divide.mono : ∀ a0 a1 k, LeO (metrolabref01_Divide.f k a0 a1) (metrolabref01_Divide.f (k + 1) a0 a1) := by
  intro a0 a1 k
  unfold metrolabref01_Divide.f
  repeat' first
      | (with_reducible exact ZP.metrolabref01_both.mono _ _ _)
      | (with_reducible exact metrolabref01_Parted.mono _ _ _)
      | (with_reducible exact LeO.refl _)
      | (with_reducible exact LeO.none _)
      | (with_reducible refine LeO.ite ?_ ?_)
      | (with_reducible refine LeO.bind ?_ (fun _ => ?_))
      | exact ZP.metrolabref01_both.mono _ _ _
      | exact metrolabref01_Parted.mono _ _ _
      | exact LeO.none _
      | refine LeO.ite ?_ ?_
      | refine LeO.bind ?_ (fun _ => ?_)
mutual
def metrolabref01_Shared.l0 : Nat → ByteArray → ByteArray → Option (ByteArray)
  | 0, _, _ => none
  | k + 1, x0, x1 => if x1.toList = ([48] : List UInt8) then (some x0) else ((ZP.metrolabref01_brief.f k x0 x1).bind fun bt161 => (if bt161.2.2 = true then (metrolabref01_Shared.l1 k bt161.1 bt161.2.1) else ((metrolabref01_Parted.f k x0 x1).bind fun bt165 => (metrolabref01_Shared.l0 k x1 bt165.2))))
def metrolabref01_Shared.l1 : Nat → Int → Int → Option (ByteArray)
  | 0, _, _ => none
  | k + 1, x5, x6 => if x6 > 0 then (if x6 = 0 then (none) else (metrolabref01_Shared.l1 k x6 (Int.tmod x5 x6))) else ((ZP.metrolabref01_Of.f k x5).bind fun t164 => (some t164))
end
def metrolabref01_Shared.f (k : Nat) (a0 : ByteArray) (a1 : ByteArray) : Option (ByteArray) := (ZP.metrolabref01_size.f a0).bind fun t157 => ((ZP.metrolabref01_signed.f t157 false).bind fun t158 => ((ZP.metrolabref01_size.f a1).bind fun t159 => ((ZP.metrolabref01_signed.f t159 false).bind fun t160 => (metrolabref01_Shared.l0 k t158 t160))))
theorem metrolabref01_Shared.mono_l : ∀ k, (∀ y0 y1, LeO (metrolabref01_Shared.l0 k y0 y1) (metrolabref01_Shared.l0 (k + 1) y0 y1)) ∧ (∀ y0 y1, LeO (metrolabref01_Shared.l1 k y0 y1) (metrolabref01_Shared.l1 (k + 1) y0 y1))
  | 0 => ⟨fun _ _ r h => by simp [metrolabref01_Shared.l0] at h, fun _ _ r h => by simp [metrolabref01_Shared.l1] at h⟩
  | k + 1 => by
    obtain ⟨ih0, ih1⟩ := metrolabref01_Shared.mono_l k
    refine ⟨?_, ?_⟩
    · intro y0 y1
      unfold metrolabref01_Shared.l0
      repeat' first
      | (with_reducible exact ih0 _ _)
      | (with_reducible exact ih1 _ _)
      | (with_reducible exact ZP.metrolabref01_Of.mono _ _)
      | (with_reducible exact ZP.metrolabref01_brief.mono _ _ _)
      | (with_reducible exact metrolabref01_Parted.mono _ _ _)
      | (with_reducible exact LeO.refl _)
      | (with_reducible exact LeO.none _)
      | (with_reducible refine LeO.ite ?_ ?_)
      | (with_reducible refine LeO.bind ?_ (fun _ => ?_))
      | exact ih0 _ _
      | exact ih1 _ _
      | exact ZP.metrolabref01_Of.mono _ _
      | exact ZP.metrolabref01_brief.mono _ _ _
      | exact metrolabref01_Parted.mono _ _ _
      | exact LeO.none _
      | refine LeO.ite ?_ ?_
      | refine LeO.bind ?_ (fun _ => ?_)
    · intro y0 y1
      unfold metrolabref01_Shared.l1
      repeat' first
      | (with_reducible exact ih0 _ _)
      | (with_reducible exact ih1 _ _)
      | (with_reducible exact ZP.metrolabref01_Of.mono _ _)
      | (with_reducible exact ZP.metrolabref01_brief.mono _ _ _)
      | (with_reducible exact metrolabref01_Parted.mono _ _ _)
      | (with_reducible exact LeO.refl _)
      | (with_reducible exact LeO.none _)
      | (with_reducible refine LeO.ite ?_ ?_)
      | (with_reducible refine LeO.bind ?_ (fun _ => ?_))
      | exact ih0 _ _
      | exact ih1 _ _
      | exact ZP.metrolabref01_Of.mono _ _
      | exact ZP.metrolabref01_brief.mono _ _ _
      | exact metrolabref01_Parted.mono _ _ _
      | exact LeO.none _
      | refine LeO.ite ?_ ?_
      | refine LeO.bind ?_ (fun _ => ?_)
theorem metrolabref01_Shared.mono : ∀ a0 a1 k, LeO (metrolabref01_Shared.f k a0 a1) (metrolabref01_Shared.f (k + 1) a0 a1) := by
  intro a0 a1 k
  obtain ⟨ih0, ih1⟩ := metrolabref01_Shared.mono_l k
  unfold metrolabref01_Shared.f
  repeat' first
      | (with_reducible exact ih0 _ _)
      | (with_reducible exact ih1 _ _)
      | (with_reducible exact ZP.metrolabref01_Of.mono _ _)
      | (with_reducible exact ZP.metrolabref01_brief.mono _ _ _)
      | (with_reducible exact metrolabref01_Parted.mono _ _ _)
      | (with_reducible exact LeO.refl _)
      | (with_reducible exact LeO.none _)
      | (with_reducible refine LeO.ite ?_ ?_)
      | (with_reducible refine LeO.bind ?_ (fun _ => ?_))
      | exact ih0 _ _
      | exact ih1 _ _
      | exact ZP.metrolabref01_Of.mono _ _
      | exact ZP.metrolabref01_brief.mono _ _ _
      | exact metrolabref01_Parted.mono _ _ _
      | exact LeO.none _
      | refine LeO.ite ?_ ?_
      | refine LeO.bind ?_ (fun _ => ?_)
end Go.Proofs.YtpkfnclbcmnckaaGreatDoor.ZM
namespace Go.Proofs.YtpkfnclbcmnckaaGreatDoor.ZM
open Go.RowKit Go.Proofs.YtpkfnclbcmnckaaGreatDoorW.PrintWords Go.Proofs.YtpkfnclbcmnckaaGreatDoorW.PrintLast Go.Proofs.YtpkfnclbcmnckaaGreatDoorW.PrintMore
attribute [local go_sem] max2_int min2_int max_two min_two max_three min_three max_four min_four   -- for this text's walks alone
set_option linter.unusedVariables false
set_option linter.unusedSimpArgs false
def metrolabref01_Gcd.f (k : Nat) (a0 : ByteArray) (a1 : ByteArray) : Option (ByteArray × Int) := (ZP.metrolabref01_both.f k a0 a1).bind fun t167 => (if t167 = 0 then ((metrolabref01_Shared.f k a0 a1).bind fun t168 => (some (t168, 0))) else (some ((⟨#[]⟩ : ByteArray), t167)))
theorem metrolabref01_Gcd.mono : ∀ a0 a1 k, LeO (metrolabref01_Gcd.f k a0 a1) (metrolabref01_Gcd.f (k + 1) a0 a1) := by
  intro a0 a1 k
  unfold metrolabref01_Gcd.f
  repeat' first
      | (with_reducible exact ZP.metrolabref01_both.mono _ _ _)
      | (with_reducible exact metrolabref01_Shared.mono _ _ _)
      | (with_reducible exact LeO.refl _)
      | (with_reducible exact LeO.none _)
      | (with_reducible refine LeO.ite ?_ ?_)
      | (with_reducible refine LeO.bind ?_ (fun _ => ?_))
      | exact ZP.metrolabref01_both.mono _ _ _
      | exact metrolabref01_Shared.mono _ _ _
      | exact LeO.none _
      | refine LeO.ite ?_ ?_
      | refine LeO.bind ?_ (fun _ => ?_)
end Go.Proofs.YtpkfnclbcmnckaaGreatDoor.ZM
set_option linter.unusedVariables false
namespace Go.Proofs.YtpkfnclbcmnckaaGreatDoor
open Go Go.RowKit Go.Proofs.YtpkfnclbcmnckaaGreatDoor.Dec Go.Proofs.YtpkfnclbcmnckaaGreatDoor.Mem Go.Proofs.YtpkfnclbcmnckaaGreatDoor.Wid Go.Proofs.YtpkfnclbcmnckaaGreatDoorW.PrintWords Go.Proofs.YtpkfnclbcmnckaaGreatDoorW.PrintMore
/-- The value of the first digits, at their places. -/
def pre10 (l : List UInt8) (i : Nat) : Nat := val (l.take i) * 10 ^ (l.length - i)
theorem pre10_zero (l : List UInt8) : pre10 l 0 = 0 := by unfold pre10; rw [List.take_zero]; show 0 * _ = 0; rw [Nat.zero_mul]
theorem pre10_len (l : List UInt8) : pre10 l l.length = val l := by unfold pre10; rw [List.take_length, Nat.sub_self, Nat.pow_zero, Nat.mul_one]
/-- A digit's number. -/
def dg (l : List UInt8) (j : Nat) : Nat := (l.getD j 0).toNat - 48
theorem dg_at (l : List UInt8) (j : Nat) (h : j < l.length) : l[j].toNat - 48 = dg l j := by
  unfold dg
  rw [List.getD_eq_getElem?_getD, List.getElem?_eq_getElem h]
  rfl
theorem dg_le {l : List UInt8} (hd : ∀ c ∈ l, isDig c = true) (j : Nat) : dg l j ≤ 9 := by
  by_cases h : j < l.length
  · have := (isDig_iff _).1 (hd _ (List.getElem_mem h))
    rw [← dg_at l j h]
    omega
  · unfold dg
    rw [List.getD_eq_getElem?_getD, List.getElem?_eq_none (by omega)]
    decide
theorem dg_bt (s : ByteArray) (hd : ∀ c ∈ s.data.toList, isDig c = true) (j : Nat) (h : j < s.data.toList.length) : (bt s (j : Int) - 48) % 256 = (dg s.data.toList j : Int) := by
  have := (isDig_iff _).1 (hd _ (List.getElem_mem h))
  rw [bt_dj s h, ← dg_at _ j h]
  omega
theorem pre10_succ (l : List UInt8) (i : Nat) (h : i < l.length) : pre10 l (i + 1) = pre10 l i + dg l i * 10 ^ (l.length - 1 - i) := by
  unfold pre10
  rw [val_take_succ l i h, dg_at l i h, show l.length - (i + 1) = l.length - 1 - i by omega, show l.length - i = (l.length - 1 - i) + 1 by omega, Nat.pow_succ, Nat.add_mul]
  generalize 10 ^ (l.length - 1 - i) = P
  generalize val (l.take i) = v
  rw [Nat.mul_comm P 10, ← Nat.mul_assoc, Nat.mul_comm v 10]
/-- What stands in the columns: no number is above a bound. -/
def Under (l : List Int) (b : Nat) : Prop := ∀ j, 0 ≤ l.getD j 0 ∧ l.getD j 0 ≤ (b : Int)
theorem Under.zero (n : Nat) : Under (List.replicate n 0) 0 := by
  intro j
  rw [List.getD_eq_getElem?_getD]
  by_cases h : j < n
  · rw [List.getElem?_replicate, if_pos h]; exact ⟨by decide, by decide⟩
  · rw [List.getElem?_replicate, if_neg h]; exact ⟨by decide, by decide⟩
theorem Under.add {l : List Int} {b m : Nat} (h : Under l b) (j : Nat) (hm : m ≤ 81) : Under (l.set j (l.getD j 0 + (m : Int))) (b + 81) := by
  intro i
  have hj := h j
  have hi := h i
  rw [List.getD_eq_getElem?_getD, List.getElem?_set]
  by_cases e : j = i
  · rw [if_pos e]
    split
    · show 0 ≤ l.getD j 0 + (m : Int) ∧ l.getD j 0 + (m : Int) ≤ _
      omega
    · show (0 : Int) ≤ 0 ∧ (0 : Int) ≤ _
      omega
  · rw [if_neg e, ← List.getD_eq_getElem?_getD]
    omega
theorem Under.mono {l : List Int} {b b' : Nat} (h : Under l b) (hb : b ≤ b') : Under l b' := fun j => ⟨(h j).1, by have := (h j).2; omega⟩
theorem cvl_add (l : List Int) (j m : Nat) (h : j < l.length) : cvl (l.set j (l.getD j 0 + (m : Int))) = cvl l + (m : Int) * 10 ^ (l.length - 1 - j) := by
  rw [cvl_set l j _ h, show l.getD j 0 + (m : Int) - l.getD j 0 = (m : Int) by omega]
theorem carry_val (v c x : Nat) (P T : Int) (h : (v : Int) + (c : Int) * P = T) : ((((c + x) % 10 : Nat) : Int) * P + (v : Int)) + (((c + x) / 10 : Nat) : Int) * (P * 10) = (x : Int) * P + T := by
  have e : ((c + x : Nat) : Int) = 10 * (((c + x) / 10 : Nat) : Int) + (((c + x) % 10 : Nat) : Int) := by omega
  have e2 : ((c : Int) + (x : Int)) * P = (10 * (((c + x) / 10 : Nat) : Int) + (((c + x) % 10 : Nat) : Int)) * P := by rw [← e, Int.natCast_add]
  rw [Int.add_mul, Int.add_mul] at e2
  have e3 : (((c + x) / 10 : Nat) : Int) * (P * 10) = 10 * (((c + x) / 10 : Nat) : Int) * P := by rw [Int.mul_comm P 10, ← Int.mul_assoc, Int.mul_comm _ 10]
  rw [e3]
  omega
theorem carry_end {v c Z n : Nat} (h : (v : Int) + (c : Int) * 10 ^ n = (Z : Int)) (hlt : Z < 10 ^ n) : c = 0 ∧ v = Z := by
  have e : ((v + c * 10 ^ n : Nat) : Int) = (Z : Int) := by rw [Int.natCast_add, Int.natCast_mul, Int.natCast_pow]; exact h
  have e2 : v + c * 10 ^ n = Z := Int.ofNat_inj.1 e
  rcases Nat.eq_zero_or_pos c with h0 | h0
  · subst h0
    rw [Nat.zero_mul] at e2
    exact ⟨rfl, by omega⟩
  · have h1 : 1 * 10 ^ n ≤ c * 10 ^ n := Nat.mul_le_mul_right _ h0
    generalize 10 ^ n = Q at *
    omega
theorem carry_dig (c x j : Nat) (hcx : c + x ≤ 2000000000000) (hj : j ≤ 100000) (cols : List Int) (hx : cols.getD j 0 = (x : Int)) :
    (wrap64 (48 + (Int.tmod (wrap64 ((c : Int) + (rd cols (j : Int)))) 10))) % 256 = ((48 + (c + x) % 10 : Nat) : Int) ∧ wrap64 (Int.tdiv (wrap64 ((c : Int) + (rd cols (j : Int)))) 10) = (((c + x) / 10 : Nat) : Int) := by
  have er : rd cols (j : Int) = (x : Int) := by unfold rd; rw [Int.toNat_natCast]; exact hx
  have es : wrap64 ((c : Int) + (x : Int)) = ((c + x : Nat) : Int) := IntWalk.wrap64_in _ (by omega)
  have q1 : Int.tmod ((c + x : Nat) : Int) 10 = (((c + x) % 10 : Nat) : Int) := tm (c + x) 10
  have q2 : Int.tdiv ((c + x : Nat) : Int) 10 = (((c + x) / 10 : Nat) : Int) := td (c + x) 10
  rw [er, es, q1, q2]
  clear er es q1 q2 hx
  exact ⟨by rw [IntWalk.wrap64_in _ (by omega)]; omega, IntWalk.wrap64_in _ (by omega)⟩
theorem nums_len (j : Nat) (D : List UInt8) : (List.replicate j (0 : Int) ++ nums D).length = j + D.length := by rw [List.length_append, List.length_replicate, nums, List.length_map]
theorem dig_of (d : Nat) (h : d < 10) : isDig (UInt8.ofNat (48 + d)) = true := (isDig_iff _).2 (by rw [u8_ofNat _ (by omega)]; omega)
/-- Carrying. -/
theorem rcarry (cols : List Int) (n : Nat) (hn : cols.length = n) (h0 : 0 < n) (hn2 : n ≤ 100000) (hu : Under cols 1000000000000) (Z : Nat) (hZ : cvl cols = (Z : Int)) (hlt : Z < 10 ^ n) :
    ∀ (j : Nat) (D : List UInt8) (c : Nat), j + D.length = n → (∀ x ∈ D, isDig x = true) → c ≤ 1000000000000 → ((val D : Nat) : Int) + (c : Int) * 10 ^ (n - j) = cvl (cols.drop j) →
    Ev (fun k => ZM.metrolabref01_product.l2 k cols (List.replicate j 0 ++ nums D) (c : Int) ((j : Int) - 1)) (dec (Z : Nat))
  | 0, D, c, hl, hd, hc, hv => by
    rw [List.drop_zero, Nat.sub_zero, hZ] at hv
    obtain ⟨rfl, hvD⟩ := carry_end hv hlt
    have hs := str_nums D
    have hb := rbare_is (strOfNums (nums D)) (by rw [size_list, hs]; omega) (by rw [hs]; exact hd)
    rw [hs, hvD] at hb
    refine Ev.step (f := fun k => (ZP.metrolabref01_bare.f k (strOfNums (nums D))).bind fun t => some t) (fun k => ?_) (Ev.bind hb (Ev.now _))
    simp only [ZM.metrolabref01_product.l2]
    exact if_neg (show ¬ (((0 : Nat) : Int) - 1 ≥ 0) by decide)
  | j + 1, D, c, hl, hd, hc, hv => by
    have hj : j < cols.length := by omega
    have hj5 : j ≤ 100000 := by omega
    obtain ⟨x, hx⟩ : ∃ x : Nat, cols.getD j 0 = (x : Int) := ⟨(cols.getD j 0).toNat, by have := (hu j).1; omega⟩
    have hxb : x ≤ 1000000000000 := by have := (hu j).2; rw [hx] at this; omega
    have hnew : ((val (UInt8.ofNat (48 + (c + x) % 10) :: D) : Nat) : Int) + (((c + x) / 10 : Nat) : Int) * 10 ^ (n - j) = cvl (cols.drop j) := by
      have hm : (c + x) % 10 < 10 := Nat.mod_lt _ (by decide)
      have h1 : D.length = n - (j + 1) := by omega
      have h2 : n - 1 - j = n - (j + 1) := by omega
      have h3 : n - j = (n - (j + 1)) + 1 := by omega
      rw [cvl_drop cols j hj, ← hv, hx, val_cons, u8_ofNat _ (by omega), h1, hn, h2, h3, Int.pow_succ, Nat.add_sub_cancel_left, Int.natCast_add, Int.natCast_mul, Int.natCast_pow]
      exact carry_val (val D) c x _ _ rfl
    have hcx : (c + x) / 10 ≤ 1000000000000 := by omega
    have hl2 : j + (UInt8.ofNat (48 + (c + x) % 10) :: D).length = n := by rw [List.length_cons]; omega
    have ih := rcarry cols n hn h0 hn2 hu Z hZ hlt j (UInt8.ofNat (48 + (c + x) % 10) :: D) ((c + x) / 10) hl2 (by intro y hy; rcases List.mem_cons.1 hy with rfl | hy; exact dig_of _ (Nat.mod_lt _ (by decide)); exact hd y hy) hcx hnew
    rw [← nums_cons ((c + x) % 10) (Nat.mod_lt _ (by decide))] at ih
    obtain ⟨g1, g2⟩ := carry_dig c x j (by omega) hj5 cols hx
    have hlen := nums_len (j + 1) D
    have ej : ((j + 1 : Nat) : Int) - 1 = (j : Int) := by omega
    have c1 : (j : Int) ≥ 0 := by omega
    have c2 : (j : Int) < (cols.length : Int) := by omega
    have c3 : (j : Int) < ((List.replicate (j + 1) (0 : Int) ++ nums D).length : Int) := by rw [hlen]; omega
    have c4 : wrap64 ((j : Int) - 1) = (j : Int) - 1 := IntWalk.wrap64_in _ (by omega)
    clear hnew hv hcx hl2 hxb
    refine Ev.step (f := fun k => ZM.metrolabref01_product.l2 k cols (List.replicate j 0 ++ (((48 + (c + x) % 10 : Nat) : Int) :: nums D)) (((c + x) / 10 : Nat) : Int) ((j : Int) - 1)) (fun k => ?_) ih
    simp only [ZM.metrolabref01_product.l2]
    rw [ej, if_pos c1, if_pos (show (0 : Int) ≤ (j : Int) from c1), if_pos c2, if_pos c3, g1, g2, c4, Int.toNat_natCast, set_row]
theorem inner_val (V a c X Y P : Nat) : V + a * X * P + a * c * (X * Y) = V + a * X * (P + c * Y) := by
  have e : a * X * (c * Y) = a * c * (X * Y) := by rw [Nat.mul_assoc, Nat.mul_left_comm X c Y, ← Nat.mul_assoc]
  rw [Nat.mul_add, e, Nat.add_assoc]
theorem pow_cast (n : Nat) : ((10 : Int) ^ n) = ((10 ^ n : Nat) : Int) := by rw [Int.natCast_pow]; rfl
/-- One row of the columns. -/
theorem rinner (A C : ByteArray) (p q : Nat) (hp : A.data.toList.length = p) (hq : C.data.toList.length = q) (dA : ∀ c ∈ A.data.toList, isDig c = true) (dC : ∀ c ∈ C.data.toList, isDig c = true) (hp2 : p ≤ 10000) (hq2 : q ≤ 10000) (r : ByteArray)
    (i : Nat) (hi : i < p) (V b : Nat) (hb : b + 81 * q ≤ 1000000000)
    (hnext : ∀ cols : List Int, cols.length = p + q → Under cols (b + 81 * q) → cvl cols = ((V + dg A.data.toList i * 10 ^ (p - 1 - i) * val C.data.toList : Nat) : Int) → Ev (fun n => ZM.metrolabref01_product.l0 n A C cols ((i + 1 : Nat) : Int)) r) :
    ∀ (d k : Nat) (cols : List Int), q - k = d → k ≤ q → cols.length = p + q → Under cols (b + 81 * k) →
    cvl cols = ((V + dg A.data.toList i * 10 ^ (p - 1 - i) * pre10 C.data.toList k : Nat) : Int) → Ev (fun n => ZM.metrolabref01_product.l1 n A C cols (i : Int) (k : Int)) r
  | 0, k, cols, hd, hk, hlen, hu, hv => by
    obtain rfl : k = q := by omega
    have e0 : pre10 C.data.toList k = val C.data.toList := by rw [← hq]; exact pre10_len _
    rw [e0] at hv
    have sC : ¬ ((k : Int) < (C.size : Int)) := by rw [size_list, hq]; omega
    have ei : wrap64 ((i : Int) + 1) = ((i + 1 : Nat) : Int) := IntWalk.wrap64_in _ (by omega)
    refine Ev.step (f := fun n => ZM.metrolabref01_product.l0 n A C cols ((i + 1 : Nat) : Int)) (fun n => ?_) (hnext cols hlen hu hv)
    simp only [ZM.metrolabref01_product.l1]
    rw [if_neg sC, ei]
  | d + 1, k, cols, hd, hk, hlen, hu, hv => by
    have hkq : k < q := by omega
    have hkC : k < C.data.toList.length := by omega
    have hiA : i < A.data.toList.length := by omega
    have c1 : (k : Int) < (C.size : Int) := by rw [size_list, hq]; omega
    have c2 : (0 : Int) ≤ ((i + k + 1 : Nat) : Int) := Int.natCast_nonneg _
    have c3 : ((i + k + 1 : Nat) : Int) < (cols.length : Int) := by rw [hlen]; omega
    have c4 : (0 : Int) ≤ (i : Int) := Int.natCast_nonneg _
    have c5 : (i : Int) < (A.size : Int) := by rw [size_list, hp]; omega
    have c6 : (0 : Int) ≤ (k : Int) := Int.natCast_nonneg _
    have c7 : i + k + 1 < cols.length := by omega
    have c8 : p + q - 1 - (i + k + 1) = (p - 1 - i) + (q - 1 - k) := by omega
    have c9 : q - (k + 1) = d := by omega
    have c10 : b + 81 * k + 81 ≤ b + 81 * (k + 1) := by omega
    have b1 : -9223372036854775808 ≤ (i : Int) + (k : Int) ∧ (i : Int) + (k : Int) ≤ 9223372036854775807 := by omega
    have b2 : -9223372036854775808 ≤ (i : Int) + (k : Int) + 1 ∧ (i : Int) + (k : Int) + 1 ≤ 9223372036854775807 := by omega
    have b3 : -9223372036854775808 ≤ (k : Int) + 1 ∧ (k : Int) + 1 ≤ 9223372036854775807 := by omega
    have hgu := hu (i + k + 1)
    have hac : dg A.data.toList i * dg C.data.toList k ≤ 81 := Nat.mul_le_mul (dg_le dA i) (dg_le dC k)
    have hv2 : cvl (cols.set (i + k + 1) (cols.getD (i + k + 1) 0 + ((dg A.data.toList i * dg C.data.toList k : Nat) : Int))) = ((V + dg A.data.toList i * 10 ^ (p - 1 - i) * pre10 C.data.toList (k + 1) : Nat) : Int) := by
      rw [cvl_add cols (i + k + 1) _ c7, hv, hlen, c8, pow_cast, Nat.pow_add, pre10_succ _ k hkC, hq, ← Int.natCast_mul, ← Int.natCast_add, inner_val]
    have ih := rinner A C p q hp hq dA dC hp2 hq2 r i hi V b hb hnext d (k + 1) _ c9 hkq (by rw [List.length_set]; exact hlen) ((hu.add (i + k + 1) hac).mono c10) hv2
    clear hv hv2 hnext
    have ea := dg_bt A dA i hiA
    have ec := dg_bt C dC k hkC
    generalize dg A.data.toList i = a at *
    generalize dg C.data.toList k = c at *
    have b4 : -9223372036854775808 ≤ ((a * c : Nat) : Int) ∧ ((a * c : Nat) : Int) ≤ 9223372036854775807 := by
      clear ea ec hgu
      generalize a * c = m at *
      omega
    have b5 : -9223372036854775808 ≤ cols.getD (i + k + 1) 0 + ((a * c : Nat) : Int) ∧ cols.getD (i + k + 1) 0 + ((a * c : Nat) : Int) ≤ 9223372036854775807 := by
      clear ea ec ih
      generalize a * c = m at *
      generalize cols.getD (i + k + 1) 0 = g at *
      omega
    have er : rd cols ((i + k + 1 : Nat) : Int) = cols.getD (i + k + 1) 0 := by unfold rd; rw [Int.toNat_natCast]
    have hidx : wrap64 (wrap64 ((i : Int) + (k : Int)) + 1) = ((i + k + 1 : Nat) : Int) := by rw [IntWalk.wrap64_in _ b1, IntWalk.wrap64_in _ b2]; rfl
    have w1 : wrap64 ((a : Int) * (c : Int)) = ((a * c : Nat) : Int) := by rw [← Int.natCast_mul]; exact IntWalk.wrap64_in _ b4
    refine Ev.step (f := fun n => ZM.metrolabref01_product.l1 n A C (cols.set (i + k + 1) (cols.getD (i + k + 1) 0 + ((a * c : Nat) : Int))) (i : Int) ((k + 1 : Nat) : Int)) (fun n => ?_) ih
    simp only [ZM.metrolabref01_product.l1]
    rw [hidx, if_pos c1, if_pos c2, if_pos c3, if_pos c4, if_pos c5, if_pos c6, ea, ec, er, w1, IntWalk.wrap64_in _ b5, IntWalk.wrap64_in _ b3, Int.toNat_natCast]
    rfl
/-- The columns of a product. -/
theorem rcols (A C : ByteArray) (p q : Nat) (hp : A.data.toList.length = p) (hq : C.data.toList.length = q) (dA : ∀ c ∈ A.data.toList, isDig c = true) (dC : ∀ c ∈ C.data.toList, isDig c = true) (hp2 : p ≤ 10000) (hq2 : q ≤ 10000) (r : ByteArray) (K : Nat) (hK : K = 81 * q) (hpK : p * K ≤ 1000000000 * 10)
    (hpK2 : ∀ i, i < p → i * K + K ≤ 1000000000)
    (hend : ∀ cols : List Int, cols.length = p + q → Under cols (p * K) → cvl cols = ((val A.data.toList * val C.data.toList : Nat) : Int) → Ev (fun k => ZM.metrolabref01_product.l2 k cols (List.replicate (p + q) 0) 0 (wrap64 (((p + q : Nat) : Int) - 1))) r) :
    ∀ (d i : Nat) (cols : List Int), p - i = d → i ≤ p → cols.length = p + q → Under cols (i * K) →
    cvl cols = ((pre10 A.data.toList i * val C.data.toList : Nat) : Int) → Ev (fun n => ZM.metrolabref01_product.l0 n A C cols (i : Int)) r
  | 0, i, cols, hd, hi, hlen, hu, hv => by
    obtain rfl : i = p := by omega
    have hpl : pre10 A.data.toList i = val A.data.toList := by rw [← hp]; exact pre10_len _
    rw [hpl] at hv
    have c1 : ¬ ((i : Int) < (A.size : Int)) := by rw [size_list, hp]; omega
    have c2 : (0 : Int) ≤ ((i + q : Nat) : Int) := by omega
    have c3 : i + q ≤ 281474976710656 := by omega
    refine Ev.step (f := fun n => ZM.metrolabref01_product.l2 n cols (List.replicate (i + q) 0) 0 (wrap64 (((i + q : Nat) : Int) - 1))) (fun n => ?_) (hend cols hlen hu hv)
    simp only [ZM.metrolabref01_product.l0]
    rw [if_neg c1, hlen, if_pos c2, Int.toNat_natCast, if_pos c3]
  | d + 1, i, cols, hd, hi, hlen, hu, hv => by
    have hip : i < p := by omega
    have hiA : i < A.data.toList.length := by omega
    have c1 : (i : Int) < (A.size : Int) := by rw [size_list, hp]; omega
    have hb : i * K + 81 * q ≤ 1000000000 := by rw [← hK]; exact hpK2 i hip
    refine Ev.step (f := fun n => ZM.metrolabref01_product.l1 n A C cols (i : Int) ((0 : Nat) : Int)) (fun n => ?_) ?_
    · simp only [ZM.metrolabref01_product.l0]
      rw [if_pos c1]
      rfl
    · refine rinner A C p q hp hq dA dC hp2 hq2 r i hip (pre10 A.data.toList i * val C.data.toList) (i * K) hb ?_ _ 0 cols rfl (Nat.zero_le _) hlen hu ?_
      · intro cols' hlen' hu' hv'
        refine rcols A C p q hp hq dA dC hp2 hq2 r K hK hpK hpK2 hend d (i + 1) cols' (by omega) hip hlen' ?_ ?_
        · rw [← hK] at hu'
          rw [Nat.succ_mul]
          exact hu'
        · rw [hv', pre10_succ _ i hiA, hp, Nat.add_mul]
      · rw [hv, pre10_zero, Nat.mul_zero, Nat.add_zero]
theorem prod_bound {i q : Nat} (hi : i ≤ 2000) (hq : q ≤ 2000) : i * (81 * q) ≤ 324000000 := Nat.le_trans (Nat.mul_le_mul hi (Nat.mul_le_mul_left 81 hq)) (by decide)
theorem rproduct_of (A C : ByteArray) (p q x y : Nat) (gA : A.data.toList.length = p) (gC : C.data.toList.length = q) (dA : ∀ c ∈ A.data.toList, isDig c = true) (dC : ∀ c ∈ C.data.toList, isDig c = true)
    (hp : p ≤ 2000) (hq : q ≤ 2000) (p0 : 0 < p) (vA : val A.data.toList = x) (vC : val C.data.toList = y) (hlt : x * y < 10 ^ (p + q)) :
    Ev (fun k => ZM.metrolabref01_product.f k A C) (dec ((x * y : Nat) : Int)) := by
  have b1 : -9223372036854775808 ≤ (p : Int) + (q : Int) ∧ (p : Int) + (q : Int) ≤ 9223372036854775807 := by omega
  have b2 : -9223372036854775808 ≤ ((p + q : Nat) : Int) - 1 ∧ ((p + q : Nat) : Int) - 1 ≤ 9223372036854775807 := by omega
  have c1 : (0 : Int) ≤ ((p + q : Nat) : Int) := Int.natCast_nonneg _
  have c2 : p + q ≤ 35184372088832 := by omega
  have c3 : p + q ≤ 100000 := by omega
  have c4 : 0 < p + q := by omega
  have c5 : p ≤ 10000 := by omega
  have c6 : q ≤ 10000 := by omega
  have hK : ∀ i, i ≤ p → i * (81 * q) ≤ 324000000 := fun i hi => prod_bound (Nat.le_trans hi hp) hq
  have hK2 : ∀ i, i < p → i * (81 * q) + 81 * q ≤ 1000000000 := fun i hi => by rw [← Nat.succ_mul]; exact Nat.le_trans (hK (i + 1) hi) (by decide)
  have e : wrap64 ((A.size : Int) + (C.size : Int)) = ((p + q : Nat) : Int) := by
    rw [size_list, size_list, gA, gC, IntWalk.wrap64_in _ b1]
    rfl
  unfold ZM.metrolabref01_product.f
  rw [e]
  refine Ev.pos c1 ?_
  refine Ev.pos (by rw [Int.toNat_natCast]; exact c2) ?_
  rw [Int.toNat_natCast]
  refine rcols A C p q gA gC dA dC c5 c6 _ (81 * q) rfl (Nat.le_trans (hK p (Nat.le_refl _)) (by decide)) hK2 ?_ _ 0 _ rfl (Nat.zero_le _) (by rw [List.length_replicate]) ((Under.zero _).mono (Nat.zero_le _)) ?_
  · intro cols hlen hu hv
    rw [vA, vC] at hv
    have e0 : cols.drop (p + q) = [] := List.drop_of_length_le (Nat.le_of_eq hlen)
    have := rcarry cols (p + q) hlen c4 c3 (hu.mono (Nat.le_trans (hK p (Nat.le_refl _)) (by decide))) (x * y) hv hlt (p + q) [] 0 rfl (by simp) (by decide) (by rw [e0]; show ((0 : Nat) : Int) + 0 * _ = 0; rw [Int.zero_mul]; rfl)
    rw [show nums ([] : List UInt8) = [] from rfl, List.append_nil] at this
    rw [IntWalk.wrap64_in _ b2]
    exact this
  · rw [cvl_zero, pre10_zero, Nat.zero_mul]
    rfl
theorem rproduct_is (x y : Nat) (hx : lg x ≤ 2000) (hy : lg y ≤ 2000) : Ev (fun k => ZM.metrolabref01_product.f k (dec (x : Int)) (dec (y : Int))) (dec ((x * y : Nat) : Int)) := by
  have lA : (dec (x : Int)).data.toList = Lib.decDigits x := by rw [dec_nat]
  have lC : (dec (y : Int)).data.toList = Lib.decDigits y := by rw [dec_nat]
  exact rproduct_of _ _ (lg x) (lg y) x y (by rw [lA]; rfl) (by rw [lC]; rfl) (by rw [lA]; exact decDigits_dig x) (by rw [lC]; exact decDigits_dig y) hx hy (lg_pos x) (by rw [lA, decDigits_val]) (by rw [lC, decDigits_val])
    (by rw [Nat.pow_add]; exact Nat.mul_lt_mul_of_lt_of_lt (lg_lt x) (lg_lt y))
end Go.Proofs.YtpkfnclbcmnckaaGreatDoor
set_option linter.unusedVariables false
namespace Go.Proofs.YtpkfnclbcmnckaaGreatDoor
open Go Go.RowKit Go.Proofs.YtpkfnclbcmnckaaGreatDoor.Dec Go.Proofs.YtpkfnclbcmnckaaGreatDoor.Mem Go.Proofs.YtpkfnclbcmnckaaGreatDoor.Wid Go.Proofs.YtpkfnclbcmnckaaGreatDoorW.PrintWords Go.Proofs.YtpkfnclbcmnckaaGreatDoorW.PrintMore
theorem times_small (x y : Int) (hb : brief18 x y) : (-9223372036854775808 ≤ ((dec x).size : Int) + ((dec y).size : Int) ∧ ((dec x).size : Int) + ((dec y).size : Int) ≤ 9223372036854775807) ∧
    ((((dec x).size : Int) + ((dec y).size : Int)) ≤ 18 → -9223372036854775808 ≤ x * y ∧ x * y ≤ 9223372036854775807) := by
  have s1 := lg_le_size x
  have s2 := lg_le_size y
  have z1 := lg_size_le x
  have z2 := lg_size_le y
  have b1 := hb.1
  have b2 := hb.2
  rw [lg_size] at b1 b2
  have h1 := lgI_mul x y
  generalize (dec x).size = n1 at *
  generalize (dec y).size = n2 at *
  generalize x * y = xy at *
  refine ⟨by omega, fun hs => ?_⟩
  have h2 := lt_of_lg (show lg xy.natAbs ≤ 18 by omega)
  have h3 : (10 : Nat) ^ 18 = 1000000000000000000 := by decide
  rw [h3] at h2
  omega
theorem rtimes_long (x y : Int) (hx : lg x.natAbs ≤ 2000) (hy : lg y.natAbs ≤ 2000) (m n : Int) : Ev (fun k => ZM.metrolabref01_Times.j0 k (dec x) (dec y) m n false) (dec (x * y)) := by
  have hs : lg (x.natAbs * y.natAbs) ≤ 4000 := Nat.le_trans (lg_mul _ _) (Nat.add_le_add hx hy)
  refine Ev.step (f := fun k => (ZM.metrolabref01_product.f k (dec (x.natAbs : Int)) (dec (y.natAbs : Int))).bind fun t137 => ((ZP.metrolabref01_signed.f t137 (decide (x < 0) != decide (y < 0))).bind fun t140 => (some t140))) (fun k => ?_) ?_
  · rw [ZM.metrolabref01_Times.j0, if_neg (show ¬ (false = true) by decide), rsize_is, Option.bind_some, rsize_is, Option.bind_some, magS_dec, magS_dec]
    simp only [rbelow_is, Option.bind_some]
  · refine Ev.bind (rproduct_is x.natAbs y.natAbs hx hy) ?_
    rw [rsigned_is _ _ (dec_size_lg _ _ hs (by decide)), sv_mul]
    simp only [Option.bind_some]
    exact Ev.now _
theorem rtimes_short (x y : Int) (b1 : -9223372036854775808 ≤ x * y) (b2 : x * y ≤ 9223372036854775807) : Ev (fun k => ZM.metrolabref01_Times.j0 k (dec x) (dec y) x y true) (dec (x * y)) := by
  refine Ev.step (f := fun k => (ZP.metrolabref01_Of.f k (x * y)).bind fun t => some t) (fun k => ?_) (Ev.bind (rof_is (x * y) b1 b2) (Ev.now _))
  simp only [ZM.metrolabref01_Times.j0]
  rw [if_pos trivial, IntWalk.wrap64_in _ ⟨b1, b2⟩]
theorem rtimes_is (x y : Int) (hx : lg x.natAbs ≤ 2000) (hy : lg y.natAbs ≤ 2000) : Ev (fun k => ZM.metrolabref01_Times.f k (dec x) (dec y)) (dec (x * y)) := by
  unfold ZM.metrolabref01_Times.f
  by_cases hb : brief18 x y
  · refine Ev.bind (rbrief_yes x y hb) ?_
    refine Ev.pos rfl ?_
    obtain ⟨b0, hm⟩ := times_small x y hb
    rw [IntWalk.wrap64_in _ b0]
    by_cases hs : (((dec x).size : Int) + ((dec y).size : Int)) ≤ 18
    · rw [decide_eq_true hs]
      exact rtimes_short x y (hm hs).1 (hm hs).2
    · rw [decide_eq_false hs]
      exact rtimes_long x y hx hy x y
  · refine Ev.bind (rbrief_no x y hb) ?_
    exact Ev.neg (by decide) (rtimes_long x y hx hy 0 0)
theorem canon_of {a : ByteArray} (h : chk a = 0) : dec (iv a) = a := dec_iv (chk_zero h).1
theorem lg_of {a : ByteArray} (h : chk a = 0) : lg (iv a).natAbs ≤ 1024 := lg_fit (by rw [canon_of h]; exact h)
end Go.Proofs.YtpkfnclbcmnckaaGreatDoor
namespace Go.Proofs.YtpkfnclbcmnckaaGreatDoor.ZK
open Go.RowKit Go.Proofs.YtpkfnclbcmnckaaGreatDoorW.PrintWords Go.Proofs.YtpkfnclbcmnckaaGreatDoorW.PrintLast Go.Proofs.YtpkfnclbcmnckaaGreatDoorW.PrintMore
attribute [local go_sem] max2_int min2_int max_two min_two max_three min_three max_four min_four   -- for this text's walks alone
set_option linter.unusedVariables false
set_option linter.unusedSimpArgs false
def errW : Option Int → Value
  | none => .nilIface
  | some c => .iface 0 (.int .i64 c)
theorem errW_none : errW none = .nilIface := rfl
theorem errW_some (c : Int) : errW (some c) = .iface 0 (.int .i64 c) := rfl
theorem info22 : (Tryz.prog.info? 22).map (fun i => (i.zero, i.size, i.bytes)) = some (some (.string ⟨#[]⟩), 1, 16) := by kernel_rfl
end Go.Proofs.YtpkfnclbcmnckaaGreatDoor.ZK
namespace Go.Proofs.YtpkfnclbcmnckaaGreatDoor.ZK
open Go.RowKit Go.Proofs.YtpkfnclbcmnckaaGreatDoorW.PrintWords Go.Proofs.YtpkfnclbcmnckaaGreatDoorW.PrintLast Go.Proofs.YtpkfnclbcmnckaaGreatDoorW.PrintMore
attribute [local go_sem] max2_int min2_int max_two min_two max_three min_three max_four min_four   -- for this text's walks alone
set_option linter.unusedVariables false
set_option linter.unusedSimpArgs false
mutual
def metrolabref01_Pow.j0 : Nat → ByteArray → Int → Bool → Option (ByteArray × Int)
  | 0, _, _, _ => none
  | k + 1, x0, x1, x21 => if x21 = true then (some ((⟨#[]⟩ : ByteArray), 2)) else (metrolabref01_Pow.l0 k x0 x1 (⟨#[49]⟩ : ByteArray) 0)
def metrolabref01_Pow.l0 : Nat → ByteArray → Int → ByteArray → Int → Option (ByteArray × Int)
  | 0, _, _, _, _ => none
  | k + 1, x0, x1, x7, x8 => if x8 < x1 then ((ZM.metrolabref01_Times.f k x7 x0).bind fun t102 => ((ZP.metrolabref01_Kept.f t102).bind fun bt103 => (if bt103.2 = 0 then (metrolabref01_Pow.l0 k x0 x1 bt103.1 (wrap64 (x8 + 1))) else (some ((⟨#[]⟩ : ByteArray), bt103.2))))) else (some (x7, 0))
end
def metrolabref01_Pow.f (k : Nat) (a0 : ByteArray) (a1 : Int) : Option (ByteArray × Int) := (ZP.metrolabref01_Check.f k a0).bind fun t101 => (if t101 = 0 then (if a1 < 0 then (metrolabref01_Pow.j0 k a0 a1 true) else (metrolabref01_Pow.j0 k a0 a1 (decide (a1 > 4096)))) else (some ((⟨#[]⟩ : ByteArray), t101)))
theorem metrolabref01_Pow.mono_l : ∀ k, (∀ y0 y1 y2, LeO (metrolabref01_Pow.j0 k y0 y1 y2) (metrolabref01_Pow.j0 (k + 1) y0 y1 y2)) ∧ (∀ y0 y1 y2 y3, LeO (metrolabref01_Pow.l0 k y0 y1 y2 y3) (metrolabref01_Pow.l0 (k + 1) y0 y1 y2 y3))
  | 0 => ⟨fun _ _ _ r h => by simp [metrolabref01_Pow.j0] at h, fun _ _ _ _ r h => by simp [metrolabref01_Pow.l0] at h⟩
  | k + 1 => by
    obtain ⟨ih0, ih1⟩ := metrolabref01_Pow.mono_l k
    refine ⟨?_, ?_⟩
    · intro y0 y1 y2
      unfold metrolabref01_Pow.j0
      repeat' first
      | (with_reducible exact ih0 _ _ _)
      | (with_reducible exact ih1 _ _ _ _)
      | (with_reducible exact ZM.metrolabref01_Times.mono _ _ _)
      | (with_reducible exact ZP.metrolabref01_Check.mono _ _)
      | (with_reducible exact LeO.refl _)
      | (with_reducible exact LeO.none _)
      | (with_reducible refine LeO.ite ?_ ?_)
      | (with_reducible refine LeO.bind ?_ (fun _ => ?_))
      | exact ih0 _ _ _
      | exact ih1 _ _ _ _
      | exact ZM.metrolabref01_Times.mono _ _ _
      | exact ZP.metrolabref01_Check.mono _ _
      | exact LeO.none _
      | refine LeO.ite ?_ ?_
      | refine LeO.bind ?_ (fun _ => ?_)
    · intro y0 y1 y2 y3
      unfold metrolabref01_Pow.l0
      repeat' first
      | (with_reducible exact ih0 _ _ _)
      | (with_reducible exact ih1 _ _ _ _)
      | (with_reducible exact ZM.metrolabref01_Times.mono _ _ _)
      | (with_reducible exact ZP.metrolabref01_Check.mono _ _)
      | (with_reducible exact LeO.refl _)
      | (with_reducible exact LeO.none _)
      | (with_reducible refine LeO.ite ?_ ?_)
      | (with_reducible refine LeO.bind ?_ (fun _ => ?_))
      | exact ih0 _ _ _
      | exact ih1 _ _ _ _
      | exact ZM.metrolabref01_Times.mono _ _ _
      | exact ZP.metrolabref01_Check.mono _ _
      | exact LeO.none _
      | refine LeO.ite ?_ ?_
      | refine LeO.bind ?_ (fun _ => ?_)
theorem metrolabref01_Pow.mono : ∀ a0 a1 k, LeO (metrolabref01_Pow.f k a0 a1) (metrolabref01_Pow.f (k + 1) a0 a1) := by
  intro a0 a1 k
  obtain ⟨ih0, ih1⟩ := metrolabref01_Pow.mono_l k
  unfold metrolabref01_Pow.f
  repeat' first
      | (with_reducible exact ih0 _ _ _)
      | (with_reducible exact ih1 _ _ _ _)
      | (with_reducible exact ZM.metrolabref01_Times.mono _ _ _)
      | (with_reducible exact ZP.metrolabref01_Check.mono _ _)
      | (with_reducible exact LeO.refl _)
      | (with_reducible exact LeO.none _)
      | (with_reducible refine LeO.ite ?_ ?_)
      | (with_reducible refine LeO.bind ?_ (fun _ => ?_))
      | exact ih0 _ _ _
      | exact ih1 _ _ _ _
      | exact ZM.metrolabref01_Times.mono _ _ _
      | exact ZP.metrolabref01_Check.mono _ _
      | exact LeO.none _
      | refine LeO.ite ?_ ?_
      | refine LeO.bind ?_ (fun _ => ?_)
set_option maxHeartbeats 8000000 in
set_option maxRecDepth 100000 in
theorem metrolabref01_Pow.calls (k : Nat) (a0 : ByteArray) (a1 : Int) (r1 : ByteArray) (r2 : Int) (w : World) (h : metrolabref01_Pow.f k a0 a1 = some (r1, r2)) :
    Calls Tryz.prog 18 #[.string a0, .int .i64 a1] w fun e w' => e = .returned (.tuple #[.string r1, .int .i64 r2]) ∧ Below w.heap.size w w' := by
  have HB := Aside0.mk (Below.refl w.heap.size w)
  have H : ((ZP.metrolabref01_Check.f k a0).bind fun t101 => (if t101 = 0 then (if a1 < 0 then (metrolabref01_Pow.j0 k a0 a1 true) else (metrolabref01_Pow.j0 k a0 a1 (decide (a1 > 4096)))) else (some ((⟨#[]⟩ : ByteArray), t101)))) = some (r1, r2) := h
  clear h
  replace H := Option.bind_eq_some_iff.mp H
  obtain ⟨t101, A30, H⟩ := H
  replace H : (if t101 = 0 then (if a1 < 0 then (metrolabref01_Pow.j0 k a0 a1 true) else (metrolabref01_Pow.j0 k a0 a1 (decide (a1 > 4096)))) else (some ((⟨#[]⟩ : ByteArray), t101))) = some (r1, r2) := H
  have A3 := Aside0.mk A30
  clear A30
  by_cases c4 : t101 = 0
  · rw [if_pos c4] at H
    have c4b0 : (t101 == 0) = true := beq_iff_eq.mpr c4
    have c4b1 : (t101 != 0) = false := bne_eq_false_iff_eq.mpr c4
    clear c4
    have HC5 := Aside0.mk H
    clear H
    go_enter Tryz.func18, Tryz.ntmps18
    go_upto_region 4 with (first | ((with_reducible refine gate_callee (f := 29) rfl ?_); refine goesL_ (some 12) rfl rfl Tryz.func29 (by kernel_rfl) rfl #[.string a0] rfl (by (try simp only [List.map_toArray, List.map_cons, List.map_nil]); first | done | rfl | (simp only [List.length_drop, List.length_take]; rfl)) ?_; (with_reducible refine (ZP.metrolabref01_Check.calls k a0 t101 _ A3.out).mono ?_); rintro e w' ⟨rfl, ⟨nd, rfl⟩⟩; refine ⟨_, rfl, ?_⟩))
    (try simp only [Act.put, List.setIfInBounds_toArray, List.set_cons_zero, List.set_cons_succ])
    go_cut [21] (fun v21 wc => ∃ (kq : Nat) (x21_4 : Bool), v21 = .bool x21_4 ∧ Aside0 (metrolabref01_Pow.j0 kq a0 a1 x21_4 = some (r1, r2)) ∧ Aside0 (kq ≤ k) ∧ Aside0 (Below w.heap.size w wc))
    case first =>
      have H := HC5.out
      clear HC5
      by_cases c6 : a1 < 0
      · rw [if_pos c6] at H
        have c6b0 : decide (a1 < 0) = true := decide_eq_true c6
        clear c6
        (first | rw [c6b0] | (simp only [i64_w, i32_w]; rw [c6b0]) | skip)
        have H' := Aside0.mk H
        clear H
        go_wp2
        go_meet
        case rel => exact ⟨_, (true), (by first | rfl | exact congrArg Value.bool (not_empty _) | exact congrArg Value.bool (is_empty _) | (simp; done) | (simp [*]; done)), H', ⟨by first | omega | exact Nat.le_refl _⟩, ⟨by repeat (first | (with_reducible first | exact HB.out | apply below_alloc | apply pw_below_drewN | apply below_drew1) | exact HB.out)⟩⟩
      · rw [if_neg c6] at H
        have c6b0 : decide (a1 < 0) = false := decide_eq_false c6
        clear c6
        (first | rw [c6b0] | (simp only [i64_w, i32_w]; rw [c6b0]) | skip)
        have H' := Aside0.mk H
        clear H
        go_wp2
        go_meet
        case rel => exact ⟨_, (decide (a1 > 4096)), (by first | rfl | exact congrArg Value.bool (not_empty _) | exact congrArg Value.bool (is_empty _) | (simp; done) | (simp [*]; done)), H', ⟨by first | omega | exact Nat.le_refl _⟩, ⟨by repeat (first | (with_reducible first | exact HB.out | apply below_alloc | apply pw_below_drewN | apply below_drew1) | exact HB.out)⟩⟩
    case rest =>
      clear HC5
      try clear c1
      try clear c2
      try clear p2
      try clear c4
      try clear c4b0
      try clear c4b1
      try clear c6
      try clear c6b0
      obtain ⟨kq, x21_4, rfl, HA, HJ4, HB⟩ := hcut
      cases kq with
      | zero => exact absurd HA.out (by simp [metrolabref01_Pow.j0])
      | succ kj4 =>
        have H := HA.out
        clear HA
        simp only [metrolabref01_Pow.j0] at H
        by_cases c7 : x21_4 = true
        · subst c7
          have H1 : (some ((⟨#[]⟩ : ByteArray), 2)) = some (r1, r2) := by rw [if_pos rfl] at H; exact H
          clear H
          have H := H1
          clear H1
          simp only [Option.some.injEq, Prod.mk.injEq] at H
          obtain ⟨rfl, rfl⟩ := H
          go_wp2
          go_ret2
          exact ⟨by first | rfl | (simp [errW_none, errW_some] <;> rfl) | (simp [*, errW_none, errW_some] <;> rfl), by repeat (first | (with_reducible first | exact HB.out | apply below_alloc | apply pw_below_drewN | apply below_drew1) | exact HB.out)⟩
        · replace c7 := Bool.eq_false_iff.mpr c7
          subst c7
          have H1 : (metrolabref01_Pow.l0 kj4 a0 a1 (⟨#[49]⟩ : ByteArray) 0) = some (r1, r2) := by rw [if_neg (show ¬ (false = true) by decide)] at H; exact H
          clear H
          have H := H1
          clear H1
          have H' := Aside0.mk H
          clear H
          go_wp2
          go_loopg [7, 8] kj4 (fun kq v7 v8 w' => ∃ (x7_2 : ByteArray) (x8_2 : Int), v7 = .string x7_2 ∧ v8 = .int .i64 x8_2 ∧ Aside0 (metrolabref01_Pow.l0 kq a0 a1 x7_2 x8_2 = some (r1, r2)) ∧ Aside0 (kq ≤ kj4) ∧ Aside0 (Below w.heap.size w w'))
          case atStart => exact ⟨((⟨#[49]⟩ : ByteArray)), (0), (by first | rfl | exact congrArg Value.bool (not_empty _) | exact congrArg Value.bool (is_empty _) | (simp; done) | (simp [*]; done)), (by first | rfl | exact congrArg Value.bool (not_empty _) | exact congrArg Value.bool (is_empty _) | (simp; done) | (simp [*]; done)), H', ⟨Nat.le_refl _⟩, ⟨by repeat (first | (with_reducible first | exact HB.out | apply below_alloc | apply pw_below_drewN | apply below_drew1) | exact HB.out)⟩⟩
          case round =>
            clear H'
            try clear c1
            try clear c2
            try clear p2
            try clear c4
            try clear c4b0
            try clear c4b1
            try clear c6
            try clear c6b0
            try clear c7
            try clear p2
            obtain ⟨x7_2, x8_2, rfl, rfl, HA, HK2, HB⟩ := hrel
            cases gk with
            | zero => exact absurd HA.out (by simp [metrolabref01_Pow.l0])
            | succ k2 =>
              have H := HA.out
              clear HA
              simp only [metrolabref01_Pow.l0] at H
              by_cases c8 : x8_2 < a1
              · rw [if_pos c8] at H
                have c8b0 : decide (x8_2 < a1) = true := decide_eq_true c8
                clear c8
                replace H := Option.bind_eq_some_iff.mp H
                obtain ⟨t102, A90, H⟩ := H
                replace H : ((ZP.metrolabref01_Kept.f t102).bind fun bt103 => (if bt103.2 = 0 then (metrolabref01_Pow.l0 k2 a0 a1 bt103.1 (wrap64 (x8_2 + 1))) else (some ((⟨#[]⟩ : ByteArray), bt103.2)))) = some (r1, r2) := H
                have A9 := Aside0.mk A90
                clear A90
                replace H := Option.bind_eq_some_iff.mp H
                obtain ⟨⟨t103, t104⟩, A100, H⟩ := H
                replace H : (if t104 = 0 then (metrolabref01_Pow.l0 k2 a0 a1 t103 (wrap64 (x8_2 + 1))) else (some ((⟨#[]⟩ : ByteArray), t104))) = some (r1, r2) := H
                have A10 := Aside0.mk A100
                clear A100
                by_cases c11 : t104 = 0
                · rw [if_pos c11] at H
                  have c11b0 : (t104 == 0) = true := beq_iff_eq.mpr c11
                  have c11b1 : (t104 != 0) = false := bne_eq_false_iff_eq.mpr c11
                  clear c11
                  have H' := Aside0.mk H
                  clear H
                  go_wp2_with (first | ((with_reducible refine gate_callee (f := 47) rfl ?_); refine goesL_ (some 30) rfl rfl Tryz.func47 (by kernel_rfl) rfl #[.string x7_2, .string a0] rfl (by (try simp only [List.map_toArray, List.map_cons, List.map_nil]); first | done | rfl | (simp only [List.length_drop, List.length_take]; rfl)) ?_; (with_reducible refine (ZM.metrolabref01_Times.calls k2 x7_2 a0 t102 _ A9.out).mono ?_); rintro e w12 ⟨rfl, hb⟩; refine ⟨_, rfl, ?_⟩; have n0_ := Aside0.mk (below_step (by repeat (first | (with_reducible first | exact HB.out | apply below_alloc | apply pw_below_drewN | apply below_drew1) | exact HB.out)) hb); clear HB; have HB := n0_; clear n0_; (try clear hb); (try clear hb2); (try clear hk); (try clear hi)) | ((with_reducible refine gate_callee (f := 46) rfl ?_); refine goesL_ (some 31) rfl rfl Tryz.func46 (by kernel_rfl) rfl #[.string t102] rfl (by (try simp only [List.map_toArray, List.map_cons, List.map_nil]); first | done | rfl | (simp only [List.length_drop, List.length_take]; rfl)) ?_; (with_reducible refine (ZP.metrolabref01_Kept.calls t102 t103 t104 _ A10.out).mono ?_); rintro e w' ⟨rfl, ⟨nd, rfl⟩⟩; refine ⟨_, rfl, ?_⟩))
                  go_roundg k2
                  case measure => have := HJ4.out; have := HK2.out; omega
                  case rel => exact ⟨(t103), (wrap64 (x8_2 + 1)), (by first | rfl | exact congrArg Value.bool (not_empty _) | exact congrArg Value.bool (is_empty _) | (simp; done) | (simp [*]; done)), (by first | rfl | exact congrArg Value.bool (not_empty _) | exact congrArg Value.bool (is_empty _) | (simp; done) | (simp [*]; done)), H', ⟨by have := HJ4.out; have := HK2.out; omega⟩, ⟨by repeat (first | (with_reducible first | exact HB.out | apply below_alloc | apply pw_below_drewN | apply below_drew1) | exact HB.out)⟩⟩
                · rw [if_neg c11] at H
                  have c11b0 : (t104 == 0) = false := beq_eq_false_iff_ne.mpr c11
                  have c11b1 : (t104 != 0) = true := bne_iff_ne.mpr c11
                  simp only [Option.some.injEq, Prod.mk.injEq] at H
                  obtain ⟨rfl, rfl⟩ := H
                  go_wp2_with (first | ((with_reducible refine gate_callee (f := 47) rfl ?_); refine goesL_ (some 30) rfl rfl Tryz.func47 (by kernel_rfl) rfl #[.string x7_2, .string a0] rfl (by (try simp only [List.map_toArray, List.map_cons, List.map_nil]); first | done | rfl | (simp only [List.length_drop, List.length_take]; rfl)) ?_; (with_reducible refine (ZM.metrolabref01_Times.calls k2 x7_2 a0 t102 _ A9.out).mono ?_); rintro e w13 ⟨rfl, hb⟩; refine ⟨_, rfl, ?_⟩; have n0_ := Aside0.mk (below_step (by repeat (first | (with_reducible first | exact HB.out | apply below_alloc | apply pw_below_drewN | apply below_drew1) | exact HB.out)) hb); clear HB; have HB := n0_; clear n0_; (try clear hb); (try clear hb2); (try clear hk); (try clear hi)) | ((with_reducible refine gate_callee (f := 46) rfl ?_); refine goesL_ (some 31) rfl rfl Tryz.func46 (by kernel_rfl) rfl #[.string t102] rfl (by (try simp only [List.map_toArray, List.map_cons, List.map_nil]); first | done | rfl | (simp only [List.length_drop, List.length_take]; rfl)) ?_; (with_reducible refine (ZP.metrolabref01_Kept.calls t102 t103 t104 _ A10.out).mono ?_); rintro e w' ⟨rfl, ⟨nd, rfl⟩⟩; refine ⟨_, rfl, ?_⟩))
                  go_ret2
                  exact ⟨by first | rfl | (simp [errW_none, errW_some] <;> rfl) | (simp [*, errW_none, errW_some] <;> rfl), by repeat (first | (with_reducible first | exact HB.out | apply below_alloc | apply pw_below_drewN | apply below_drew1) | exact HB.out)⟩
              · rw [if_neg c8] at H
                have c8b0 : decide (x8_2 < a1) = false := decide_eq_false c8
                clear c8
                simp only [Option.some.injEq, Prod.mk.injEq] at H
                obtain ⟨rfl, rfl⟩ := H
                go_wp2
                go_ret2
                exact ⟨by first | rfl | (simp [errW_none, errW_some] <;> rfl) | (simp [*, errW_none, errW_some] <;> rfl), by repeat (first | (with_reducible first | exact HB.out | apply below_alloc | apply pw_below_drewN | apply below_drew1) | exact HB.out)⟩
  · rw [if_neg c4] at H
    have c4b0 : (t101 == 0) = false := beq_eq_false_iff_ne.mpr c4
    have c4b1 : (t101 != 0) = true := bne_iff_ne.mpr c4
    simp only [Option.some.injEq, Prod.mk.injEq] at H
    obtain ⟨rfl, rfl⟩ := H
    go_enter Tryz.func18, Tryz.ntmps18
    go_wp2_with (first | ((with_reducible refine gate_callee (f := 29) rfl ?_); refine goesL_ (some 12) rfl rfl Tryz.func29 (by kernel_rfl) rfl #[.string a0] rfl (by (try simp only [List.map_toArray, List.map_cons, List.map_nil]); first | done | rfl | (simp only [List.length_drop, List.length_take]; rfl)) ?_; (with_reducible refine (ZP.metrolabref01_Check.calls k a0 t101 _ A3.out).mono ?_); rintro e w' ⟨rfl, ⟨nd, rfl⟩⟩; refine ⟨_, rfl, ?_⟩))
    go_ret2
    exact ⟨by first | rfl | (simp [errW_none, errW_some] <;> rfl) | (simp [*, errW_none, errW_some] <;> rfl), by repeat (first | (with_reducible first | exact HB.out | apply below_alloc | apply pw_below_drewN | apply below_drew1) | exact HB.out)⟩
mutual
def metrolabref01_Chosen.j0 : Nat → Int → Int → Bool → Option (ByteArray)
  | 0, _, _, _ => none
  | k + 1, x0, x1, x15 => if x15 = true then (some (⟨#[48]⟩ : ByteArray)) else (metrolabref01_Chosen.l0 k x0 x1 (([(⟨#[49]⟩ : ByteArray)] : List ByteArray)) 1)
def metrolabref01_Chosen.l0 : Nat → Int → Int → List ByteArray → Int → Option (ByteArray)
  | 0, _, _, _, _ => none
  | k + 1, x0, x1, x5, x6 => if x6 ≤ x0 then (metrolabref01_Chosen.l1 k x0 x1 x5 x6 (([(⟨#[49]⟩ : ByteArray)] : List ByteArray)) 1) else (if 0 ≤ x1 then (if x1 < (x5.length : Int) then (some (rdOf ByteArray.empty x5 x1)) else (none)) else (none))
def metrolabref01_Chosen.l1 : Nat → Int → Int → List ByteArray → Int → List ByteArray → Int → Option (ByteArray)
  | 0, _, _, _, _, _, _ => none
  | k + 1, x0, x1, x5, x6, x7, x8 => if x8 < x6 then (if 0 ≤ (wrap64 (x8 - 1)) then (if (wrap64 (x8 - 1)) < (x5.length : Int) then (if 0 ≤ x8 then (if x8 < (x5.length : Int) then ((ZP.metrolabref01_Plus.f k (rdOf ByteArray.empty x5 (wrap64 (x8 - 1))) (rdOf ByteArray.empty x5 x8)).bind fun t114 => (if x7.length < 8796093022208 then (metrolabref01_Chosen.l1 k x0 x1 x5 x6 (x7 ++ [t114]) (wrap64 (x8 + 1))) else (none))) else (none)) else (none)) else (none)) else (none)) else (if x7.length < 8796093022208 then (metrolabref01_Chosen.l0 k x0 x1 (x7 ++ [(⟨#[49]⟩ : ByteArray)]) (wrap64 (x6 + 1))) else (none))
end
def metrolabref01_Chosen.f (k : Nat) (a0 : Int) (a1 : Int) : Option (ByteArray) := if a1 < 0 then (metrolabref01_Chosen.j0 k a0 a1 true) else (metrolabref01_Chosen.j0 k a0 a1 (decide (a1 > a0)))
theorem metrolabref01_Chosen.mono_l : ∀ k, (∀ y0 y1 y2, LeO (metrolabref01_Chosen.j0 k y0 y1 y2) (metrolabref01_Chosen.j0 (k + 1) y0 y1 y2)) ∧ (∀ y0 y1 y2 y3, LeO (metrolabref01_Chosen.l0 k y0 y1 y2 y3) (metrolabref01_Chosen.l0 (k + 1) y0 y1 y2 y3)) ∧ (∀ y0 y1 y2 y3 y4 y5, LeO (metrolabref01_Chosen.l1 k y0 y1 y2 y3 y4 y5) (metrolabref01_Chosen.l1 (k + 1) y0 y1 y2 y3 y4 y5))
  | 0 => ⟨fun _ _ _ r h => by simp [metrolabref01_Chosen.j0] at h, fun _ _ _ _ r h => by simp [metrolabref01_Chosen.l0] at h, fun _ _ _ _ _ _ r h => by simp [metrolabref01_Chosen.l1] at h⟩
  | k + 1 => by
    obtain ⟨ih0, ih1, ih2⟩ := metrolabref01_Chosen.mono_l k
    refine ⟨?_, ?_, ?_⟩
    · intro y0 y1 y2
      unfold metrolabref01_Chosen.j0
      repeat' first
      | (with_reducible exact ih0 _ _ _)
      | (with_reducible exact ih1 _ _ _ _)
      | (with_reducible exact ih2 _ _ _ _ _ _)
      | (with_reducible exact ZP.metrolabref01_Plus.mono _ _ _)
      | (with_reducible exact LeO.refl _)
      | (with_reducible exact LeO.none _)
      | (with_reducible refine LeO.ite ?_ ?_)
      | (with_reducible refine LeO.bind ?_ (fun _ => ?_))
      | exact ih0 _ _ _
      | exact ih1 _ _ _ _
      | exact ih2 _ _ _ _ _ _
      | exact ZP.metrolabref01_Plus.mono _ _ _
      | exact LeO.none _
      | refine LeO.ite ?_ ?_
      | refine LeO.bind ?_ (fun _ => ?_)
    · intro y0 y1 y2 y3
      unfold metrolabref01_Chosen.l0
      repeat' first
      | (with_reducible exact ih0 _ _ _)
      | (with_reducible exact ih1 _ _ _ _)
      | (with_reducible exact ih2 _ _ _ _ _ _)
      | (with_reducible exact ZP.metrolabref01_Plus.mono _ _ _)
      | (with_reducible exact LeO.refl _)
      | (with_reducible exact LeO.none _)
      | (with_reducible refine LeO.ite ?_ ?_)
      | (with_reducible refine LeO.bind ?_ (fun _ => ?_))
      | exact ih0 _ _ _
      | exact ih1 _ _ _ _
      | exact ih2 _ _ _ _ _ _
      | exact ZP.metrolabref01_Plus.mono _ _ _
      | exact LeO.none _
      | refine LeO.ite ?_ ?_
      | refine LeO.bind ?_ (fun _ => ?_)
    · intro y0 y1 y2 y3 y4 y5
      unfold metrolabref01_Chosen.l1
      repeat' first
      | (with_reducible exact ih0 _ _ _)
      | (with_reducible exact ih1 _ _ _ _)
      | (with_reducible exact ih2 _ _ _ _ _ _)
      | (with_reducible exact ZP.metrolabref01_Plus.mono _ _ _)
      | (with_reducible exact LeO.refl _)
      | (with_reducible exact LeO.none _)
      | (with_reducible refine LeO.ite ?_ ?_)
      | (with_reducible refine LeO.bind ?_ (fun _ => ?_))
      | exact ih0 _ _ _
      | exact ih1 _ _ _ _
      | exact ih2 _ _ _ _ _ _
      | exact ZP.metrolabref01_Plus.mono _ _ _
      | exact LeO.none _
      | refine LeO.ite ?_ ?_
      | refine LeO.bind ?_ (fun _ => ?_)
theorem metrolabref01_Chosen.mono : ∀ a0 a1 k, LeO (metrolabref01_Chosen.f k a0 a1) (metrolabref01_Chosen.f (k + 1) a0 a1) := by
  intro a0 a1 k
  obtain ⟨ih0, ih1, ih2⟩ := metrolabref01_Chosen.mono_l k
  unfold metrolabref01_Chosen.f
  repeat' first
      | (with_reducible exact ih0 _ _ _)
      | (with_reducible exact ih1 _ _ _ _)
      | (with_reducible exact ih2 _ _ _ _ _ _)
      | (with_reducible exact ZP.metrolabref01_Plus.mono _ _ _)
      | (with_reducible exact LeO.refl _)
      | (with_reducible exact LeO.none _)
      | (with_reducible refine LeO.ite ?_ ?_)
      | (with_reducible refine LeO.bind ?_ (fun _ => ?_))
      | exact ih0 _ _ _
      | exact ih1 _ _ _ _
      | exact ih2 _ _ _ _ _ _
      | exact ZP.metrolabref01_Plus.mono _ _ _
      | exact LeO.none _
      | refine LeO.ite ?_ ?_
      | refine LeO.bind ?_ (fun _ => ?_)
def metrolabref01_Chosen.T11 : Bool × List (List Nat × List Nat) := (true, [([], []), ([], []), ([], []), ([2], [2]), ([1, 3], [1, 3]), ([4], [4]), ([], []), ([], []), ([6, 7], [6, 7]), ([8], [8]), ([5, 9], [5, 9]), ([10], [10]), ([0, 11, 10], [0, 11]), ([12, 12, 0, 1, 2, 3, 4, 5, 6, 7, 8, 9, 10, 11, 12], [0, 12])])
def metrolabref01_Chosen.B11 : List Nat := [0, 0, 0, 4, 14, 30, 0, 0, 192, 448, 1022, 2046, 4095, 8191]
theorem metrolabref01_Chosen.tab11 : rtab .any (opsOf Tryz.f53 11) = metrolabref01_Chosen.T11 := by kernel_rfl
theorem metrolabref01_Chosen.bits11 : waitsOk metrolabref01_Chosen.T11.2 metrolabref01_Chosen.B11 = true := by kernel_rfl
set_option maxHeartbeats 8000000 in
set_option maxRecDepth 100000 in
theorem metrolabref01_Chosen.calls (k : Nat) (a0 : Int) (a1 : Int) (r : ByteArray) (w : World) (h : metrolabref01_Chosen.f k a0 a1 = some r) :
    Calls Tryz.prog 53 #[.int .i64 a0, .int .i64 a1] w fun e w' => e = .returned (.string r) ∧ Below w.heap.size w w' := by
  have HB := Aside0.mk (Below.refl w.heap.size w)
  have H : (if a1 < 0 then (metrolabref01_Chosen.j0 k a0 a1 true) else (metrolabref01_Chosen.j0 k a0 a1 (decide (a1 > a0)))) = some r := h
  clear h
  have HC3 := Aside0.mk H
  clear H
  go_enter Tryz.func53, Tryz.ntmps53
  go_upto_region 1 with (fail)
  go_cut [15] (fun v15 wc => ∃ (kq : Nat) (x15_2 : Bool), v15 = .bool x15_2 ∧ Aside0 (metrolabref01_Chosen.j0 kq a0 a1 x15_2 = some r) ∧ Aside0 (kq ≤ k) ∧ Aside0 (Below w.heap.size w wc))
  case first =>
    have H := HC3.out
    clear HC3
    by_cases c4 : a1 < 0
    · rw [if_pos c4] at H
      have c4b0 : decide (a1 < 0) = true := decide_eq_true c4
      clear c4
      (first | rw [c4b0] | (simp only [i64_w, i32_w]; rw [c4b0]) | skip)
      have H' := Aside0.mk H
      clear H
      go_wp2
      go_meet
      case rel => exact ⟨_, (true), (by first | rfl | exact congrArg Value.bool (not_empty _) | exact congrArg Value.bool (is_empty _) | (simp; done) | (simp [*]; done)), H', ⟨by first | omega | exact Nat.le_refl _⟩, ⟨by repeat (first | (with_reducible first | exact HB.out | apply below_alloc | apply pw_below_drewN | apply below_drew1) | exact HB.out)⟩⟩
    · rw [if_neg c4] at H
      have c4b0 : decide (a1 < 0) = false := decide_eq_false c4
      clear c4
      (first | rw [c4b0] | (simp only [i64_w, i32_w]; rw [c4b0]) | skip)
      have H' := Aside0.mk H
      clear H
      go_wp2
      go_meet
      case rel => exact ⟨_, (decide (a1 > a0)), (by first | rfl | exact congrArg Value.bool (not_empty _) | exact congrArg Value.bool (is_empty _) | (simp; done) | (simp [*]; done)), H', ⟨by first | omega | exact Nat.le_refl _⟩, ⟨by repeat (first | (with_reducible first | exact HB.out | apply below_alloc | apply pw_below_drewN | apply below_drew1) | exact HB.out)⟩⟩
  case rest =>
    clear HC3
    try clear p2
    try clear c4
    try clear c4b0
    obtain ⟨kq, x15_2, rfl, HA, HJ2, HB⟩ := hcut
    cases kq with
    | zero => exact absurd HA.out (by simp [metrolabref01_Chosen.j0])
    | succ kj2 =>
      have H := HA.out
      clear HA
      simp only [metrolabref01_Chosen.j0] at H
      by_cases c5 : x15_2 = true
      · subst c5
        have H1 : (some (⟨#[48]⟩ : ByteArray)) = some r := by rw [if_pos rfl] at H; exact H
        clear H
        have H := H1
        clear H1
        obtain rfl := Option.some.inj H
        go_wp2
        go_ret
        exact ⟨by first | rfl | (simp [errW_none, errW_some] <;> rfl) | (simp [*, errW_none, errW_some] <;> rfl), by repeat (first | (with_reducible first | exact HB.out | apply below_alloc | apply pw_below_drewN | apply below_drew1) | exact HB.out)⟩
      · replace c5 := Bool.eq_false_iff.mpr c5
        subst c5
        have H1 : (metrolabref01_Chosen.l0 kj2 a0 a1 (([(⟨#[49]⟩ : ByteArray)] : List ByteArray)) 1) = some r := by rw [if_neg (show ¬ (false = true) by decide)] at H; exact H
        clear H
        have H := H1
        clear H1
        obtain ⟨y105, hy105⟩ : ∃ y_ : List ByteArray, y_ = (([(⟨#[49]⟩ : ByteArray)] : List ByteArray)) := ⟨_, rfl⟩
        replace H : (metrolabref01_Chosen.l0 kj2 a0 a1 y105 1) = some r := by first | (rw [hy105]; with_reducible exact H) | (have H2_ := (Option.bind_some _ _).symm.trans H; rw [hy105]; with_reducible exact H2_) | (have H2_ := (Option.bind_some _ _).symm.trans H; with_reducible exact H2_) | with_reducible exact H | (rw [hy105]; exact H) | exact H
        have Ny105 := Aside0.mk hy105
        clear hy105
        have H' := Aside0.mk H
        clear H
        go_wp2_with (first | ((with_reducible refine gate_dst (N := 16) rfl ?_); refine Kd.R_lit Kd.string _ 22 ?hg (N := 16) ?hd (xs := ([(⟨#[49]⟩ : ByteArray)] : List ByteArray)) (inner := [.string (⟨#[49]⟩ : ByteArray)]) (ok := fun _ => True) (okp := fun _ => True) ?hr ?hp (fun _ hk => hk) trivial (Below.refl _ _) (Nat.le_refl _) (by simp) ?_; (case hd => rfl); (case hg => rfl); (case hr => first | (go_simp; done) | (go_simp; rfl)); (case hp => exact (Reps.one (show Kd.M Kd.string _ _ _ (⟨#[49]⟩ : ByteArray) [.string (⟨#[49]⟩ : ByteArray)] from rfl) (Reps.none _ _))); intro v106 w6 ho7 hb hg_ hnew_; clear hg_ hnew_; (first | rw [← Ny105.out] at ho7 | (simp only [Int.reduceToNat] at ho7; rw [← Ny105.out] at ho7)); have n0_ := Aside0.mk (Kd.R_lower ho7 (below_size (by repeat (first | (with_reducible first | exact HB.out | apply below_alloc | apply pw_below_drewN | apply below_drew1) | exact HB.out)))); have n1_ := Aside0.mk (below_step (by repeat (first | (with_reducible first | exact HB.out | apply below_alloc | apply pw_below_drewN | apply below_drew1) | exact HB.out)) hb); clear HB; have HO107 := n0_; have HB := n1_; clear n0_ n1_; clear hb ho7))
        go_loopg [5, 6] kj2 (fun kq v5 v6 w' => ∃ (x5_2 : List ByteArray) (x6_2 : Int), v6 = .int .i64 x6_2 ∧ Aside0 (metrolabref01_Chosen.l0 kq a0 a1 x5_2 x6_2 = some r) ∧ Aside0 (kq ≤ kj2) ∧ Aside0 (Kd.R Kd.string 22 w' w.heap.size (fun _ => True) v5 x5_2) ∧ Aside0 (Below w.heap.size w w'))
        case atStart => exact ⟨(y105), (1), (by first | rfl | exact congrArg Value.bool (not_empty _) | exact congrArg Value.bool (is_empty _) | (simp; done) | (simp [*]; done)), H', ⟨Nat.le_refl _⟩, ⟨by (with_reducible repeat (first | apply Kd.R_alloc | apply Kd.R_drewN | apply Kd.R_drew)); exact HO107.out⟩, ⟨by repeat (first | (with_reducible first | exact HB.out | apply below_alloc | apply pw_below_drewN | apply below_drew1) | exact HB.out)⟩⟩
        case round =>
          clear H'
          try clear p2
          try clear c4
          try clear c4b0
          try clear c5
          try clear p2
          obtain ⟨x5_2, x6_2, rfl, HA, HK2, HO_5, HB⟩ := hrel
          cases gk with
          | zero => exact absurd HA.out (by simp [metrolabref01_Chosen.l0])
          | succ k2 =>
            have H := HA.out
            clear HA
            simp only [metrolabref01_Chosen.l0] at H
            by_cases c8 : x6_2 ≤ a0
            · rw [if_pos c8] at H
              have c8b0 : decide (x6_2 ≤ a0) = true := decide_eq_true c8
              clear c8
              obtain ⟨y109, hy109⟩ : ∃ y_ : List ByteArray, y_ = (([(⟨#[49]⟩ : ByteArray)] : List ByteArray)) := ⟨_, rfl⟩
              replace H : (metrolabref01_Chosen.l1 k2 a0 a1 x5_2 x6_2 y109 1) = some r := by first | (rw [hy109]; with_reducible exact H) | (have H2_ := (Option.bind_some _ _).symm.trans H; rw [hy109]; with_reducible exact H2_) | (have H2_ := (Option.bind_some _ _).symm.trans H; with_reducible exact H2_) | with_reducible exact H | (rw [hy109]; exact H) | exact H
              have Ny109 := Aside0.mk hy109
              clear hy109
              have H' := Aside0.mk H
              clear H
              go_wp2_with (first | ((with_reducible refine gate_dst (N := 22) rfl ?_); refine Kd.R_lit Kd.string _ 22 ?hg (N := 22) ?hd (xs := ([(⟨#[49]⟩ : ByteArray)] : List ByteArray)) (inner := [.string (⟨#[49]⟩ : ByteArray)]) (ok := fun _ => True) (okp := fun _ => True) ?hr ?hp (fun _ hk => hk) trivial (Below.refl _ _) (Nat.le_refl _) (by simp) ?_; (case hd => rfl); (case hg => rfl); (case hr => first | (go_simp; done) | (go_simp; rfl)); (case hp => exact (Reps.one (show Kd.M Kd.string _ _ _ (⟨#[49]⟩ : ByteArray) [.string (⟨#[49]⟩ : ByteArray)] from rfl) (Reps.none _ _))); intro v110 w9 ho10 hb hg_ hnew_; clear hg_ hnew_; (first | rw [← Ny109.out] at ho10 | (simp only [Int.reduceToNat] at ho10; rw [← Ny109.out] at ho10)); have n0_ := Aside0.mk (Kd.R_elder' (by (with_reducible repeat (first | apply Kd.R_alloc | apply Kd.R_drewN | apply Kd.R_drew)); exact HO_5.out) (Kd.R_base ho10) hb); have n1_ := Aside0.mk (Kd.R_lower (Kd.R_new' ho10 (Kd.R_lt (by (with_reducible repeat (first | apply Kd.R_alloc | apply Kd.R_drewN | apply Kd.R_drew)); exact HO_5.out))) (below_size (by repeat (first | (with_reducible first | exact HB.out | apply below_alloc | apply pw_below_drewN | apply below_drew1) | exact HB.out)))); have n2_ := Aside0.mk (below_step (by repeat (first | (with_reducible first | exact HB.out | apply below_alloc | apply pw_below_drewN | apply below_drew1) | exact HB.out)) hb); clear HO_5; clear HB; have HO_5 := n0_; have HO111 := n1_; have HB := n2_; clear n0_ n1_ n2_; clear hb ho10))
              go_loopg [7, 8] k2 (fun kq v7 v8 w' => ∃ (x7_3 : List ByteArray) (x8_3 : Int), v8 = .int .i64 x8_3 ∧ Aside0 (metrolabref01_Chosen.l1 kq a0 a1 x5_2 x6_2 x7_3 x8_3 = some r) ∧ Aside0 (kq ≤ k2) ∧ Aside0 (Kd.R Kd.string 22 w' w.heap.size (fun k_ => some k_ ≠ (v7 : Value).ownBlock) u5 x5_2) ∧ Aside0 (Kd.R Kd.string 22 w' w.heap.size (fun k_ => some k_ ≠ (u5 : Value).ownBlock) v7 x7_3) ∧ Aside0 (Below w.heap.size w w'))
              case atStart => exact ⟨(y109), (1), (by first | rfl | exact congrArg Value.bool (not_empty _) | exact congrArg Value.bool (is_empty _) | (simp; done) | (simp [*]; done)), H', ⟨Nat.le_refl _⟩, ⟨by (with_reducible repeat (first | apply Kd.R_alloc | apply Kd.R_drewN | apply Kd.R_drew)); exact Kd.R_mono HO_5.out (fun _ hk => hk.2)⟩, ⟨by (with_reducible repeat (first | apply Kd.R_alloc | apply Kd.R_drewN | apply Kd.R_drew)); exact Kd.R_mono HO111.out (fun _ hk => hk.2)⟩, ⟨by repeat (first | (with_reducible first | exact HB.out | apply below_alloc | apply pw_below_drewN | apply below_drew1) | exact HB.out)⟩⟩
              case round =>
                clear H'
                try clear p2
                try clear c4
                try clear c4b0
                try clear c5
                try clear c8
                try clear c8b0
                try clear p2
                obtain ⟨x7_3, x8_3, rfl, HA, HK3, HO_5, HO_7, HB⟩ := hrel
                cases gk with
                | zero => exact absurd HA.out (by simp [metrolabref01_Chosen.l1])
                | succ k3 =>
                  have H := HA.out
                  clear HA
                  simp only [metrolabref01_Chosen.l1] at H
                  by_cases c11 : x8_3 < x6_2
                  · rw [if_pos c11] at H
                    have c11b0 : decide (x8_3 < x6_2) = true := decide_eq_true c11
                    clear c11
                    obtain ⟨ji12, hji12⟩ : ∃ j_ : Int, (wrap64 (x8_3 - 1)) = j_ := ⟨_, rfl⟩
                    replace H : (if 0 ≤ (ji12) then (if (ji12) < (x5_2.length : Int) then (if 0 ≤ x8_3 then (if x8_3 < (x5_2.length : Int) then ((ZP.metrolabref01_Plus.f k3 (rdOf ByteArray.empty x5_2 (ji12)) (rdOf ByteArray.empty x5_2 x8_3)).bind fun t114 => (if x7_3.length < 8796093022208 then (metrolabref01_Chosen.l1 k3 a0 a1 x5_2 x6_2 (x7_3 ++ [t114]) (wrap64 (x8_3 + 1))) else (none))) else (none)) else (none)) else (none)) else (none)) = some r := by first | (rw [hji12] at H; exact H) | (simp only [hji12] at H ⊢; exact H)
                    have hji12w : (IntKind.i64.wrap (x8_3 - 1)) = ji12 := (i64_w _).trans hji12
                    by_cases c13 : 0 ≤ (ji12)
                    · rw [if_pos c13] at H
                      have c13b0 : decide (0 ≤ (ji12)) = true := decide_eq_true c13
                      clear c13
                      by_cases c14 : (ji12) < (x5_2.length : Int)
                      · rw [if_pos c14] at H
                        have c14b0 : decide ((ji12) < (x5_2.length : Int)) = true := decide_eq_true c14
                        clear c14
                        by_cases c15 : 0 ≤ x8_3
                        · rw [if_pos c15] at H
                          have c15b0 : decide (0 ≤ x8_3) = true := decide_eq_true c15
                          clear c15
                          by_cases c16 : x8_3 < (x5_2.length : Int)
                          · rw [if_pos c16] at H
                            have c16b0 : decide (x8_3 < (x5_2.length : Int)) = true := decide_eq_true c16
                            clear c16
                            replace H := Option.bind_eq_some_iff.mp H
                            obtain ⟨t114, A170, H⟩ := H
                            replace H : (if x7_3.length < 8796093022208 then (metrolabref01_Chosen.l1 k3 a0 a1 x5_2 x6_2 (x7_3 ++ [t114]) (wrap64 (x8_3 + 1))) else (none)) = some r := H
                            have A17 := Aside0.mk A170
                            clear A170
                            by_cases c18 : x7_3.length < 8796093022208
                            · rw [if_pos c18] at H
                              have LMc18 := Aside0.mk c18
                              clear c18
                              obtain ⟨y115, hy115⟩ : ∃ y_ : List ByteArray, y_ = (x7_3 ++ [t114]) := ⟨_, rfl⟩
                              replace H : (metrolabref01_Chosen.l1 k3 a0 a1 x5_2 x6_2 y115 (wrap64 (x8_3 + 1))) = some r := by first | (rw [hy115]; with_reducible exact H) | (have H2_ := (Option.bind_some _ _).symm.trans H; rw [hy115]; with_reducible exact H2_) | (have H2_ := (Option.bind_some _ _).symm.trans H; with_reducible exact H2_) | with_reducible exact H | (rw [hy115]; exact H) | exact H
                              have Ny115 := Aside0.mk hy115
                              clear hy115
                              have H' := Aside0.mk H
                              clear H
                              try go_wp2
                              have n0_ := Aside0.mk (Kd.R_drew HO_5.out)
                              have n1_ := Aside0.mk (Kd.R_drew HO_7.out)
                              have n2_ := Aside0.mk (below_drew1 HB.out)
                              clear HO_5
                              clear HO_7
                              clear HB
                              have HO_5 := n0_
                              have HO_7 := n1_
                              have HB := n2_
                              clear n0_ n1_ n2_
                              obtain ⟨Ao20, co20, eo20⟩ := Kd.R_slice HO_5.out
                              (first | subst eo20 | (injection eo20 with f1_ f2_ f3_; have f4_ := f1_.symm; have f5_ := f3_.symm; clear f1_ f2_ f3_; subst f4_; subst f5_))
                              have p112 : 0 ≤ ((ji12) : Int) := of_decide_eq_true (by first | (with_reducible assumption) | assumption)
                              have q112 : (ji12) < (x5_2.length : Int) := of_decide_eq_true (by first | (with_reducible assumption) | assumption)
                              obtain ⟨ad112, e112, hx112_0⟩ := Kd.at_string (Kd.R_reads' HO_5.out).2.2 (ji12) p112 q112
                              cases e112
                              replace p112 := eq_true p112
                              replace q112 := eq_true q112
                              have p113 : 0 ≤ (x8_3 : Int) := of_decide_eq_true (by first | (with_reducible assumption) | assumption)
                              have q113 : x8_3 < (x5_2.length : Int) := of_decide_eq_true (by first | (with_reducible assumption) | assumption)
                              obtain ⟨ad113, e113, hx113_0⟩ := Kd.at_string (Kd.R_reads' HO_5.out).2.2 x8_3 p113 q113
                              obtain rfl : ad112 = ad113 := (by injection e113)
                              replace p113 := eq_true p113
                              replace q113 := eq_true q113
                              refine start_ (n := 14) (S := fun w' => w'.cell? (ad112.add ((ji12)).toNat) = some (.string (rdOf ByteArray.empty x5_2 (ji12))) ∧ w'.cell? (ad112.add (x8_3).toNat) = some (.string (rdOf ByteArray.empty x5_2 x8_3))) (ds := [11, 12]) #[false, false, false, false, false, false, false, false, false, false, false, false, false, false] (by kernel_rfl) rfl rfl ⟨hx112_0, hx113_0⟩ (fun hHeld => ?_); refine with_tabW metrolabref01_Chosen.tab11 metrolabref01_Chosen.bits11 (fun HT_ HW_ => ?_)
                              generalize wr.drew = w19 at HO_5 HO_7 HB hx112_0 hx113_0 hHeld ⊢
                              refine pure_ (i := 0) (N := some 28) (v := ?_) (a' := ?_) #[true, false, false, false, false, false, false, false, false, false, false, false, false, false] rfl rfl (any_of HT_.out (by kernel_rfl)) (fun _ _ _ h => h) (Or.inl ⟨by rfl, ?_⟩) ?_ ?_
                              rotate_left
                              · intro w'
                                go_simp
                                with_reducible rfl
                              rotate_left
                              · simp only [Act.put, List.setIfInBounds_toArray, List.set_cons_zero, List.set_cons_succ, i64_w, i32_w]
                                rfl
                              refine pure_ (i := 1) (N := some 29) (v := ?_) (a' := ?_) #[true, true, false, false, false, false, false, false, false, false, false, false, false, false] rfl rfl (any_of HT_.out (by kernel_rfl)) (fun _ _ _ h => h) (Or.inl ⟨by rfl, ?_⟩) ?_ ?_
                              rotate_left
                              · intro w'
                                go_simp
                                with_reducible rfl
                              rotate_left
                              · simp only [Act.put, List.setIfInBounds_toArray, List.set_cons_zero, List.set_cons_succ, i64_w, i32_w]
                                rfl
                              refine pure_ (i := 2) (N := some 30) (v := ?_) (a' := ?_) #[true, true, true, false, false, false, false, false, false, false, false, false, false, false] rfl rfl (any_of HT_.out (by kernel_rfl)) (fun _ _ _ h => h) (Or.inl ⟨by rfl, ?_⟩) ?_ ?_
                              rotate_left
                              · intro w'
                                go_simp
                                with_reducible rfl
                              rotate_left
                              · simp only [Act.put, List.setIfInBounds_toArray, List.set_cons_zero, List.set_cons_succ, i64_w, i32_w]
                                rfl
                              refine pure_ (i := 3) (N := some 31) (v := ?_) (a' := ?_) #[true, true, true, true, false, false, false, false, false, false, false, false, false, false] rfl rfl (any_of HT_.out (by kernel_rfl)) (fun _ _ _ h => h) (Or.inl ⟨by rfl, ?_⟩) ?_ ?_
                              rotate_left
                              · intro w'
                                go_simp
                                with_reducible rfl
                              rotate_left
                              · simp only [Act.put, List.setIfInBounds_toArray, List.set_cons_zero, List.set_cons_succ, i64_w, i32_w]
                                rfl
                              refine pure_ (i := 4) (N := some 32) (v := ?_) (a' := ?_) #[true, true, true, true, true, false, false, false, false, false, false, false, false, false] rfl rfl (any_of HT_.out (by kernel_rfl)) (fun _ _ _ h => h) (Or.inl ⟨by rfl, ?_⟩) ?_ ?_
                              rotate_left
                              · intro w'
                                go_simp
                                with_reducible rfl
                              rotate_left
                              · simp only [Act.put, List.setIfInBounds_toArray, List.set_cons_zero, List.set_cons_succ, i64_w, i32_w]
                                rfl
                              refine pure_ (i := 6) (N := some 34) (v := ?_) (a' := ?_) #[true, true, true, true, true, false, true, false, false, false, false, false, false, false] rfl rfl (any_of HT_.out (by kernel_rfl)) (fun _ _ _ h => h) (Or.inl ⟨by rfl, ?_⟩) ?_ ?_
                              rotate_left
                              · intro w'
                                go_simp
                                with_reducible rfl
                              rotate_left
                              · simp only [Act.put, List.setIfInBounds_toArray, List.set_cons_zero, List.set_cons_succ, i64_w, i32_w]
                                rfl
                              refine pure_ (i := 7) (N := some 35) (v := ?_) (a' := ?_) #[true, true, true, true, true, false, true, true, false, false, false, false, false, false] rfl rfl (any_of HT_.out (by kernel_rfl)) (fun _ _ _ h => h) (Or.inl ⟨by rfl, ?_⟩) ?_ ?_
                              rotate_left
                              · intro w'
                                go_simp
                                with_reducible rfl
                              rotate_left
                              · simp only [Act.put, List.setIfInBounds_toArray, List.set_cons_zero, List.set_cons_succ, i64_w, i32_w]
                                rfl
                              refine pure_ (i := 8) (N := some 36) (v := ?_) (a' := ?_) #[true, true, true, true, true, false, true, true, true, false, false, false, false, false] rfl rfl (any_of HT_.out (by kernel_rfl)) (fun _ _ _ h => h) (Or.inl ⟨by rfl, ?_⟩) ?_ ?_
                              rotate_left
                              · intro w'
                                go_simp
                                with_reducible rfl
                              rotate_left
                              · simp only [Act.put, List.setIfInBounds_toArray, List.set_cons_zero, List.set_cons_succ, i64_w, i32_w]
                                rfl
                              refine take_ (i := 5) (N := some 33) (v := ?_) (a' := ?_) #[true, true, true, true, true, true, true, true, true, false, false, false, false, false] rfl rfl (take_ofW HT_.out HW_.out (by kernel_rfl)) (fun _ _ _ h => h) (Or.inl ⟨by rfl, ?_⟩) hHeld ?_ ?_
                              rotate_left
                              · rintro w' ⟨s0, s1⟩
                                go_simp
                                with_reducible rfl
                              rotate_left
                              · simp only [Act.put, List.setIfInBounds_toArray, List.set_cons_zero, List.set_cons_succ, i64_w, i32_w]
                                rfl
                              refine take_ (i := 9) (N := some 37) (v := ?_) (a' := ?_) #[true, true, true, true, true, true, true, true, true, true, false, false, false, false] rfl rfl (take_ofW HT_.out HW_.out (by kernel_rfl)) (fun _ _ _ h => h) (Or.inl ⟨by rfl, ?_⟩) hHeld ?_ ?_
                              rotate_left
                              · rintro w' ⟨s0, s1⟩
                                go_simp
                                with_reducible rfl
                              rotate_left
                              · simp only [Act.put, List.setIfInBounds_toArray, List.set_cons_zero, List.set_cons_succ, i64_w, i32_w]
                                rfl
                              refine one_ (i := 10) (N := some 38) #[true, true, true, true, true, true, true, true, true, true, true, false, false, false] rfl rfl (one_of HT_.out (by kernel_rfl)) (by decide) (fun K hK => ?_)
                              refine goes_ Tryz.func65 (by kernel_rfl) rfl #[.string (rdOf ByteArray.empty x5_2 (ji12)), .string (rdOf ByteArray.empty x5_2 x8_3)] (by rfl) rfl rfl (by (try simp only [List.map_toArray, List.map_cons, List.map_nil]); first | done | (simp only [hji12]; rfl) | rfl | (simp only [List.length_drop, List.length_take]; rfl)) ?_
                              with_reducible refine (ZP.metrolabref01_Plus.calls k3 (rdOf ByteArray.empty x5_2 (ji12)) (rdOf ByteArray.empty x5_2 x8_3) t114 _ A17.out).mono ?_
                              rintro e w21 ⟨rfl, hb⟩
                              have HS0_ := (hb.cell (World.block_lt_of_cell? _ _ (hHeld.1))).trans (hHeld.1)
                              have HS1_ := (hb.cell (World.block_lt_of_cell? _ _ (hHeld.2))).trans (hHeld.2)
                              refine ⟨_, rfl, ?_⟩
                              have n0_ := Aside0.mk (Kd.R_below (by (with_reducible repeat (first | apply Kd.R_alloc | apply Kd.R_drewN | apply Kd.R_drew)); exact HO_5.out) hb)
                              have n1_ := Aside0.mk (Kd.R_below (by (with_reducible repeat (first | apply Kd.R_alloc | apply Kd.R_drewN | apply Kd.R_drew)); exact HO_7.out) hb)
                              have n2_ := Aside0.mk (below_step (by repeat (first | (with_reducible first | exact HB.out | apply below_alloc | apply pw_below_drewN | apply below_drew1) | exact HB.out)) hb)
                              clear HO_5
                              clear HO_7
                              clear HB
                              have HO_5 := n0_
                              have HO_7 := n1_
                              have HB := n2_
                              clear n0_ n1_ n2_
                              (try clear hb)
                              (try clear hb2)
                              (try clear hk)
                              (try clear hi)
                              refine hK.out _ _ ⟨HS0_, HS1_⟩ (fun hHeld => ?_)
                              clear hK K
                              refine norm_ (a' := ?_) ?_ ?_
                              rotate_left
                              · show Act.put _ (some 38) _ = _
                                simp only [Act.put, List.setIfInBounds_toArray, List.set_cons_zero, List.set_cons_succ, i64_w, i32_w]
                                rfl
                              refine last_ (i := 11) (N := some 39) #[true, true, true, true, true, true, true, true, true, true, true, true, false, false] rfl rfl (one_of HT_.out (by kernel_rfl)) (by decide) (fun K hK => ?_)
                              refine value_ (w1 := ?_) (v := ?_) (by rfl) rfl ?_ ?_
                              rotate_left 2
                              · go_simp
                                constructor
                                · rfl
                                · rfl
                              refine hK.out _ _ ?_
                              clear hK K
                              refine norm_ (a' := ?_) ?_ ?_
                              rotate_left
                              · show Act.put _ (some 39) _ = _
                                simp only [Act.put, List.setIfInBounds_toArray, List.set_cons_zero, List.set_cons_succ, i64_w, i32_w]
                                rfl
                              refine last_ (i := 12) (N := some 40) #[true, true, true, true, true, true, true, true, true, true, true, true, true, false] rfl rfl (one_of HT_.out (by kernel_rfl)) (by decide) (fun K hK => ?_)
                              refine Kd.R_append_step Kd.string (w0 := w) w.heap.size (by rfl) (.tmp 28) (.tmp 39) 38 22 (.string ⟨#[]⟩) 16 rfl Tryz.underlying38 info22 rfl (by decide) (by omega) u7 x7_3 t114 [.string t114] (fun k_ => some k_ ≠ (.slice (some ad112) x5_2.length co20 : Value).ownBlock) (fun _ => False) rfl rfl ?aP (fun _ hk => hk.elim) ?aF ?aO ?aB ?aS ?aL ?_
                              (case aP => exact rfl)
                              (case aB => exact (by repeat (first | (with_reducible first | exact HB.out | apply below_alloc | apply pw_below_drewN | apply below_drew1) | exact HB.out)))
                              (case aF => exact (fun k_ hk => Kd.fresh' (Kd.R_lt (by (with_reducible repeat (first | apply Kd.R_alloc | apply Kd.R_drewN | apply Kd.R_drew)); exact HO_5.out)) k_ hk))
                              (case aO => exact (by (with_reducible repeat (first | apply Kd.R_alloc | apply Kd.R_drewN | apply Kd.R_drew)); exact HO_7.out))
                              (case aS => exact (below_size (by repeat (first | (with_reducible first | exact HB.out | apply below_alloc | apply pw_below_drewN | apply below_drew1) | exact HB.out))))
                              (case aL => have := LMc18.out; omega)
                              intro v116 w22 ho hb hg hat
                              rw [← Ny115.out] at ho
                              have n0_ := Aside0.mk (Kd.R_after (ok := (fun _ => True)) (by (with_reducible repeat (first | apply Kd.R_alloc | apply Kd.R_drewN | apply Kd.R_drew)); exact Kd.R_mono HO_5.out (fun _ hk => ⟨trivial, hk⟩)) hg hat)
                              have n1_ := Aside0.mk (hb)
                              have n2_ := Aside0.mk (ho)
                              clear HO_5
                              clear HB
                              clear HO_7
                              have HO_5 := n0_
                              have HB := n1_
                              have HO117 := n2_
                              clear n0_ n1_ n2_
                              clear ho hb hg hat
                              refine hK.out _ _ ?_
                              clear hK K
                              refine norm_ (a' := ?_) ?_ ?_
                              rotate_left
                              · show Act.put _ (some 40) _ = _
                                simp only [Act.put, List.setIfInBounds_toArray, List.set_cons_zero, List.set_cons_succ, i64_w, i32_w]
                                rfl
                              refine pure_ (i := 13) (N := some 7) (v := ?_) (a' := ?_) #[true, true, true, true, true, true, true, true, true, true, true, true, true, true] rfl rfl (any_of HT_.out (by kernel_rfl)) (fun _ _ _ h => h) (Or.inl ⟨by rfl, ?_⟩) ?_ ?_
                              rotate_left
                              · intro w'
                                go_simp
                                with_reducible rfl
                              rotate_left
                              · simp only [Act.put, List.setIfInBounds_toArray, List.set_cons_zero, List.set_cons_succ, i64_w, i32_w]
                                rfl
                              refine done_ (done_of HT_.out (by kernel_rfl)) ?_
                              try go_wp2
                              go_roundg k3
                              case measure => have := HJ2.out; have := HK2.out; have := HK3.out; omega
                              case rel => exact ⟨(y115), (wrap64 (x8_3 + 1)), (by first | rfl | exact congrArg Value.bool (not_empty _) | exact congrArg Value.bool (is_empty _) | (simp; done) | (simp [*]; done)), H', ⟨by have := HJ2.out; have := HK2.out; have := HK3.out; omega⟩, ⟨by (with_reducible repeat (first | apply Kd.R_alloc | apply Kd.R_drewN | apply Kd.R_drew)); exact Kd.R_mono HO_5.out (fun _ hk => hk.2)⟩, ⟨by (with_reducible repeat (first | apply Kd.R_alloc | apply Kd.R_drewN | apply Kd.R_drew)); exact HO117.out⟩, ⟨by repeat (first | (with_reducible first | exact HB.out | apply below_alloc | apply pw_below_drewN | apply below_drew1) | exact HB.out)⟩⟩
                            · rw [if_neg c18] at H
                              exact absurd H (by simp)
                          · rw [if_neg c16] at H
                            exact absurd H (by simp)
                        · rw [if_neg c15] at H
                          exact absurd H (by simp)
                      · rw [if_neg c14] at H
                        exact absurd H (by simp)
                    · rw [if_neg c13] at H
                      exact absurd H (by simp)
                  · rw [if_neg c11] at H
                    have c11b0 : decide (x8_3 < x6_2) = false := decide_eq_false c11
                    clear c11
                    by_cases c23 : x7_3.length < 8796093022208
                    · rw [if_pos c23] at H
                      have LMc23 := Aside0.mk c23
                      clear c23
                      obtain ⟨y118, hy118⟩ : ∃ y_ : List ByteArray, y_ = (x7_3 ++ [(⟨#[49]⟩ : ByteArray)]) := ⟨_, rfl⟩
                      replace H : (metrolabref01_Chosen.l0 k3 a0 a1 y118 (wrap64 (x6_2 + 1))) = some r := by first | (rw [hy118]; with_reducible exact H) | (have H2_ := (Option.bind_some _ _).symm.trans H; rw [hy118]; with_reducible exact H2_) | (have H2_ := (Option.bind_some _ _).symm.trans H; with_reducible exact H2_) | with_reducible exact H | (rw [hy118]; exact H) | exact H
                      have Ny118 := Aside0.mk hy118
                      clear hy118
                      have H' := Aside0.mk H
                      clear H
                      go_wp2_with (first | ((with_reducible refine gate_builtin (b := .append) (xs := #[.tmp 41, .tmp 42]) rfl ?_); at_builtin; refine Kd.R_append Kd.string (w0 := w) w.heap.size rfl (.tmp 41) (.tmp 42) 38 22 (.string ⟨#[]⟩) 16 rfl Tryz.underlying38 info22 rfl (by decide) (by omega) u7 x7_3 (⟨#[49]⟩ : ByteArray) [.string (⟨#[49]⟩ : ByteArray)] (fun k_ => some k_ ≠ (u5 : Value).ownBlock) (fun _ => False) rfl rfl ?aP (fun _ hk => hk.elim) ?aF ?aO ?aB ?aS ?aL ?_; (case aP => exact rfl); (case aB => exact (by repeat (first | (with_reducible first | exact HB.out | apply below_alloc | apply pw_below_drewN | apply below_drew1) | exact HB.out))); (case aF => exact (fun k_ hk => Kd.fresh' (Kd.R_lt (by (with_reducible repeat (first | apply Kd.R_alloc | apply Kd.R_drewN | apply Kd.R_drew)); exact HO_5.out)) k_ hk)); (case aO => exact (by (with_reducible repeat (first | apply Kd.R_alloc | apply Kd.R_drewN | apply Kd.R_drew)); exact HO_7.out)); (case aS => exact (below_size (by repeat (first | (with_reducible first | exact HB.out | apply below_alloc | apply pw_below_drewN | apply below_drew1) | exact HB.out)))); (case aL => have := LMc23.out; omega); intro v119 w24 ho hb hg hat; rw [← Ny118.out] at ho; have n0_ := Aside0.mk (Kd.R_after (ok := (fun _ => True)) (by (with_reducible repeat (first | apply Kd.R_alloc | apply Kd.R_drewN | apply Kd.R_drew)); exact Kd.R_mono HO_5.out (fun _ hk => ⟨trivial, hk⟩)) hg hat); have n1_ := Aside0.mk (hb); have n2_ := Aside0.mk (ho); clear HO_5; clear HB; clear HO_7; have HO_5 := n0_; have HB := n1_; have HO120 := n2_; clear n0_ n1_ n2_; clear ho hb hg hat))
                      go_roundg k3
                      case measure => have := HJ2.out; have := HK2.out; have := HK3.out; omega
                      case rel => exact ⟨(y118), (wrap64 (x6_2 + 1)), (by first | rfl | exact congrArg Value.bool (not_empty _) | exact congrArg Value.bool (is_empty _) | (simp; done) | (simp [*]; done)), H', ⟨by have := HJ2.out; have := HK2.out; have := HK3.out; omega⟩, ⟨by (with_reducible repeat (first | apply Kd.R_alloc | apply Kd.R_drewN | apply Kd.R_drew)); exact Kd.R_mono HO120.out (fun _ hk => trivial)⟩, ⟨by repeat (first | (with_reducible first | exact HB.out | apply below_alloc | apply pw_below_drewN | apply below_drew1) | exact HB.out)⟩⟩
                    · rw [if_neg c23] at H
                      exact absurd H (by simp)
            · rw [if_neg c8] at H
              have c8b0 : decide (x6_2 ≤ a0) = false := decide_eq_false c8
              clear c8
              by_cases c25 : 0 ≤ a1
              · rw [if_pos c25] at H
                have c25b0 : decide (0 ≤ a1) = true := decide_eq_true c25
                clear c25
                by_cases c26 : a1 < (x5_2.length : Int)
                · rw [if_pos c26] at H
                  have c26b0 : decide (a1 < (x5_2.length : Int)) = true := decide_eq_true c26
                  clear c26
                  obtain rfl := Option.some.inj H
                  obtain ⟨Ao27, co27, eo27⟩ := Kd.R_slice HO_5.out
                  subst eo27
                  have p108 : 0 ≤ (a1 : Int) := of_decide_eq_true (by first | (with_reducible assumption) | assumption)
                  have q108 : a1 < (x5_2.length : Int) := of_decide_eq_true (by first | (with_reducible assumption) | assumption)
                  obtain ⟨ad108, e108, hx108_0⟩ := Kd.at_string (Kd.R_reads' HO_5.out).2.2 a1 p108 q108
                  cases e108
                  replace p108 := eq_true p108
                  replace q108 := eq_true q108
                  go_wp2
                  go_ret
                  exact ⟨by first | rfl | (simp [errW_none, errW_some] <;> rfl) | (simp [*, errW_none, errW_some] <;> rfl), by repeat (first | (with_reducible first | exact HB.out | apply below_alloc | apply pw_below_drewN | apply below_drew1) | exact HB.out)⟩
                · rw [if_neg c26] at H
                  exact absurd H (by simp)
              · rw [if_neg c25] at H
                exact absurd H (by simp)
def metrolabref01_Binomial.j0 : Nat → Int → Int → Bool → Option (ByteArray × Int)
  | 0, _, _, _ => none
  | k + 1, x0, x1, x11 => if x11 = true then (some ((⟨#[]⟩ : ByteArray), 2)) else ((metrolabref01_Chosen.f k x0 x1).bind fun t121 => ((ZP.metrolabref01_Kept.f t121).bind fun bt122 => (some (bt122.1, bt122.2))))
def metrolabref01_Binomial.f (k : Nat) (a0 : Int) (a1 : Int) : Option (ByteArray × Int) := if a0 < 0 then (metrolabref01_Binomial.j0 k a0 a1 true) else (metrolabref01_Binomial.j0 k a0 a1 (decide (a0 > 4096)))
theorem metrolabref01_Binomial.mono_l : ∀ k, (∀ y0 y1 y2, LeO (metrolabref01_Binomial.j0 k y0 y1 y2) (metrolabref01_Binomial.j0 (k + 1) y0 y1 y2))
  | 0 => fun _ _ _ r h => by simp [metrolabref01_Binomial.j0] at h
  | k + 1 => by
    have ih0 := metrolabref01_Binomial.mono_l k
    · intro y0 y1 y2
      unfold metrolabref01_Binomial.j0
      repeat' first
      | (with_reducible exact ih0 _ _ _)
      | (with_reducible exact metrolabref01_Chosen.mono _ _ _)
      | (with_reducible exact LeO.refl _)
      | (with_reducible exact LeO.none _)
      | (with_reducible refine LeO.ite ?_ ?_)
      | (with_reducible refine LeO.bind ?_ (fun _ => ?_))
      | exact ih0 _ _ _
      | exact metrolabref01_Chosen.mono _ _ _
      | exact LeO.none _
      | refine LeO.ite ?_ ?_
      | refine LeO.bind ?_ (fun _ => ?_)
theorem metrolabref01_Binomial.mono : ∀ a0 a1 k, LeO (metrolabref01_Binomial.f k a0 a1) (metrolabref01_Binomial.f (k + 1) a0 a1) := by
  intro a0 a1 k
  have ih0 := metrolabref01_Binomial.mono_l k
  unfold metrolabref01_Binomial.f
  repeat' first
      | (with_reducible exact ih0 _ _ _)
      | (with_reducible exact metrolabref01_Chosen.mono _ _ _)
      | (with_reducible exact LeO.refl _)
      | (with_reducible exact LeO.none _)
      | (with_reducible refine LeO.ite ?_ ?_)
      | (with_reducible refine LeO.bind ?_ (fun _ => ?_))
      | exact ih0 _ _ _
      | exact metrolabref01_Chosen.mono _ _ _
      | exact LeO.none _
      | refine LeO.ite ?_ ?_
      | refine LeO.bind ?_ (fun _ => ?_)
set_option maxHeartbeats 8000000 in
set_option maxRecDepth 100000 in
theorem metrolabref01_Binomial.calls (k : Nat) (a0 : Int) (a1 : Int) (r1 : ByteArray) (r2 : Int) (w : World) (h : metrolabref01_Binomial.f k a0 a1 = some (r1, r2)) :
    Calls Tryz.prog 20 #[.int .i64 a0, .int .i64 a1] w fun e w' => e = .returned (.tuple #[.string r1, .int .i64 r2]) ∧ Below w.heap.size w w' := by
  have HB := Aside0.mk (Below.refl w.heap.size w)
  have H : (if a0 < 0 then (metrolabref01_Binomial.j0 k a0 a1 true) else (metrolabref01_Binomial.j0 k a0 a1 (decide (a0 > 4096)))) = some (r1, r2) := h
  clear h
  have HC3 := Aside0.mk H
  clear H
  go_enter Tryz.func20, Tryz.ntmps20
  go_upto_region 1 with (fail)
  go_cut [11] (fun v11 wc => ∃ (kq : Nat) (x11_2 : Bool), v11 = .bool x11_2 ∧ Aside0 (metrolabref01_Binomial.j0 kq a0 a1 x11_2 = some (r1, r2)) ∧ Aside0 (kq ≤ k) ∧ Aside0 (Below w.heap.size w wc))
  case first =>
    have H := HC3.out
    clear HC3
    by_cases c4 : a0 < 0
    · rw [if_pos c4] at H
      have c4b0 : decide (a0 < 0) = true := decide_eq_true c4
      clear c4
      (first | rw [c4b0] | (simp only [i64_w, i32_w]; rw [c4b0]) | skip)
      have H' := Aside0.mk H
      clear H
      go_wp2
      go_meet
      case rel => exact ⟨_, (true), (by first | rfl | exact congrArg Value.bool (not_empty _) | exact congrArg Value.bool (is_empty _) | (simp; done) | (simp [*]; done)), H', ⟨by first | omega | exact Nat.le_refl _⟩, ⟨by repeat (first | (with_reducible first | exact HB.out | apply below_alloc | apply pw_below_drewN | apply below_drew1) | exact HB.out)⟩⟩
    · rw [if_neg c4] at H
      have c4b0 : decide (a0 < 0) = false := decide_eq_false c4
      clear c4
      (first | rw [c4b0] | (simp only [i64_w, i32_w]; rw [c4b0]) | skip)
      have H' := Aside0.mk H
      clear H
      go_wp2
      go_meet
      case rel => exact ⟨_, (decide (a0 > 4096)), (by first | rfl | exact congrArg Value.bool (not_empty _) | exact congrArg Value.bool (is_empty _) | (simp; done) | (simp [*]; done)), H', ⟨by first | omega | exact Nat.le_refl _⟩, ⟨by repeat (first | (with_reducible first | exact HB.out | apply below_alloc | apply pw_below_drewN | apply below_drew1) | exact HB.out)⟩⟩
  case rest =>
    clear HC3
    try clear c2
    try clear p2
    try clear c4
    try clear c4b0
    obtain ⟨kq, x11_2, rfl, HA, HJ2, HB⟩ := hcut
    cases kq with
    | zero => exact absurd HA.out (by simp [metrolabref01_Binomial.j0])
    | succ kj2 =>
      have H := HA.out
      clear HA
      simp only [metrolabref01_Binomial.j0] at H
      by_cases c5 : x11_2 = true
      · subst c5
        have H1 : (some ((⟨#[]⟩ : ByteArray), 2)) = some (r1, r2) := by rw [if_pos rfl] at H; exact H
        clear H
        have H := H1
        clear H1
        simp only [Option.some.injEq, Prod.mk.injEq] at H
        obtain ⟨rfl, rfl⟩ := H
        go_wp2
        go_ret2
        exact ⟨by first | rfl | (simp [errW_none, errW_some] <;> rfl) | (simp [*, errW_none, errW_some] <;> rfl), by repeat (first | (with_reducible first | exact HB.out | apply below_alloc | apply pw_below_drewN | apply below_drew1) | exact HB.out)⟩
      · replace c5 := Bool.eq_false_iff.mpr c5
        subst c5
        have H1 : ((metrolabref01_Chosen.f kj2 a0 a1).bind fun t121 => ((ZP.metrolabref01_Kept.f t121).bind fun bt122 => (some (bt122.1, bt122.2)))) = some (r1, r2) := by rw [if_neg (show ¬ (false = true) by decide)] at H; exact H
        clear H
        have H := H1
        clear H1
        replace H := Option.bind_eq_some_iff.mp H
        obtain ⟨t121, A60, H⟩ := H
        replace H : ((ZP.metrolabref01_Kept.f t121).bind fun bt122 => (some (bt122.1, bt122.2))) = some (r1, r2) := H
        have A6 := Aside0.mk A60
        clear A60
        replace H := Option.bind_eq_some_iff.mp H
        obtain ⟨⟨t122, t123⟩, A70, H⟩ := H
        replace H : (some (t122, t123)) = some (r1, r2) := H
        have A7 := Aside0.mk A70
        clear A70
        simp only [Option.some.injEq, Prod.mk.injEq] at H
        obtain ⟨rfl, rfl⟩ := H
        go_wp2_with (first | ((with_reducible refine gate_callee (f := 53) rfl ?_); refine goesL_ (some 14) rfl rfl Tryz.func53 (by kernel_rfl) rfl #[.int .i64 a0, .int .i64 a1] rfl (by (try simp only [List.map_toArray, List.map_cons, List.map_nil]); first | done | rfl | (simp only [List.length_drop, List.length_take]; rfl)) ?_; (with_reducible refine (metrolabref01_Chosen.calls kj2 a0 a1 t121 _ A6.out).mono ?_); rintro e w8 ⟨rfl, hb⟩; refine ⟨_, rfl, ?_⟩; have n0_ := Aside0.mk (below_step (by repeat (first | (with_reducible first | exact HB.out | apply below_alloc | apply pw_below_drewN | apply below_drew1) | exact HB.out)) hb); clear HB; have HB := n0_; clear n0_; (try clear hb); (try clear hb2); (try clear hk); (try clear hi)) | ((with_reducible refine gate_callee (f := 46) rfl ?_); refine goesL_ (some 15) rfl rfl Tryz.func46 (by kernel_rfl) rfl #[.string t121] rfl (by (try simp only [List.map_toArray, List.map_cons, List.map_nil]); first | done | rfl | (simp only [List.length_drop, List.length_take]; rfl)) ?_; (with_reducible refine (ZP.metrolabref01_Kept.calls t121 t122 t123 _ A7.out).mono ?_); rintro e w' ⟨rfl, ⟨nd, rfl⟩⟩; refine ⟨_, rfl, ?_⟩))
        go_ret2
        exact ⟨by first | rfl | (simp [errW_none, errW_some] <;> rfl) | (simp [*, errW_none, errW_some] <;> rfl), by repeat (first | (with_reducible first | exact HB.out | apply below_alloc | apply pw_below_drewN | apply below_drew1) | exact HB.out)⟩
end Go.Proofs.YtpkfnclbcmnckaaGreatDoor.ZK
set_option linter.unusedVariables false
namespace Go.Proofs.YtpkfnclbcmnckaaGreatDoor
open Go Go.RowKit Go.Proofs.YtpkfnclbcmnckaaGreatDoor.Dec Go.Proofs.YtpkfnclbcmnckaaGreatDoor.Mem Go.Proofs.YtpkfnclbcmnckaaGreatDoor.Wid Go.Proofs.YtpkfnclbcmnckaaGreatDoorW.PrintWords Go.Proofs.YtpkfnclbcmnckaaGreatDoorW.PrintMore
theorem rpow_loop (a : ByteArray) (ha : chk a = 0) (n : Nat) (hn : n ≤ 4096) : ∀ (d i : Nat), n - i = d → i ≤ n → chk (dec (iv a ^ i)) = 0 →
    Ev (fun k => ZK.metrolabref01_Pow.l0 k a (n : Int) (dec (iv a ^ i)) (i : Int)) (lim (iv a ^ n))
  | 0, i, hd, hi, hc => by
    obtain rfl : i = n := by omega
    refine Ev.after 1 fun k => ?_
    rw [ZK.metrolabref01_Pow.l0, if_neg (by omega), lim_fit hc]
  | d + 1, i, hd, hi, hc => by
    have c1 : (i : Int) < (n : Int) := by omega
    have hw : -9223372036854775808 ≤ (i : Int) + 1 ∧ (i : Int) + 1 ≤ 9223372036854775807 := by omega
    have ht := rtimes_is (iv a ^ i) (iv a) (Nat.le_trans (lg_fit hc) (by decide)) (Nat.le_trans (lg_of ha) (by decide))
    rw [canon_of ha, ← Int.pow_succ] at ht
    refine Ev.step (f := fun k => (ZM.metrolabref01_Times.f k (dec (iv a ^ i)) a).bind fun t189 => ((ZP.metrolabref01_Kept.f t189).bind fun bt190 => (if bt190.2 = 0 then (ZK.metrolabref01_Pow.l0 k a (n : Int) bt190.1 ((i + 1 : Nat) : Int)) else (some ((⟨#[]⟩ : ByteArray), bt190.2))))) (fun k => ?_) ?_
    · rw [ZK.metrolabref01_Pow.l0, if_pos c1, IntWalk.wrap64_in _ hw]
      rfl
    · refine Ev.bind ht ?_
      rw [rkept_is]
      simp only [Option.bind_some]
      rcases chk_dec_or (iv a ^ (i + 1)) with h | h
      · rw [lim_fit h]
        exact Ev.pos rfl (rpow_loop a ha n hn d (i + 1) (by omega) (by omega) h)
      · rw [lim_over h, lim_over (pow_over (by omega) h)]
        exact Ev.neg (by decide) (Ev.now _)
theorem rpow_is (a : ByteArray) (n : Int) (ha : a.size ≤ 9223372036854775807) : Ev (fun k => ZK.metrolabref01_Pow.f k a n) (powS a n) := by
  unfold ZK.metrolabref01_Pow.f powS
  refine Ev.bind (rcheck_is a ha) ?_
  by_cases hc : chk a = 0
  · refine Ev.pos hc ?_
    rw [if_pos hc]
    by_cases h1 : n < 0
    · rw [if_pos (.inl h1)]
      exact Ev.pos h1 (Ev.after 1 fun k => rfl)
    · refine Ev.neg h1 ?_
      by_cases h2 : 4096 < n
      · rw [if_pos (.inr h2), decide_eq_true (show n > 4096 from h2)]
        exact Ev.after 1 fun k => rfl
      · rw [if_neg (by omega), decide_eq_false (show ¬ n > 4096 from h2)]
        obtain ⟨m, rfl⟩ : ∃ m : Nat, n = (m : Int) := ⟨n.toNat, by omega⟩
        rw [Int.toNat_natCast]
        have e1 : (⟨#[49]⟩ : ByteArray) = dec (iv a ^ 0) := by rw [Int.pow_zero]; exact (dec_of (by decide) (by decide)).symm
        refine Ev.step (f := fun k => ZK.metrolabref01_Pow.l0 k a (m : Int) (dec (iv a ^ 0)) ((0 : Nat) : Int)) (fun k => ?_) (rpow_loop a hc m (by omega) m 0 (by omega) (by omega) (by rw [Int.pow_zero]; exact ten_pow_lt (n := 1) (by decide) (by decide)))
        rw [ZK.metrolabref01_Pow.j0, if_neg (show ¬ (false = true) by decide), e1]
        rfl
  · refine Ev.neg hc ?_
    rw [if_neg hc]
    exact Ev.now _
theorem ch_two : ∀ (n k : Nat), ch n k ≤ 2 ^ n
  | n, 0 => by rw [ch_zero]; exact Nat.one_le_pow _ _ (by decide)
  | 0, k + 1 => Nat.zero_le _
  | n + 1, k + 1 => by
    rw [ch_succ, Nat.pow_succ]
    have := ch_two n k
    have := ch_two n (k + 1)
    omega
theorem ch_self (n : Nat) : ch n n = 1 := by rw [ch_sym n n (Nat.le_refl _), Nat.sub_self, ch_zero]
theorem ch_lg (n k : Nat) (hn : n ≤ 60) : lg ((ch n k : Nat) : Int).natAbs ≤ 90000 := by
  rw [abs_nat]
  have h : ch n k < 10 ^ 20 := Nat.lt_of_le_of_lt (Nat.le_trans (ch_two n k) (Nat.pow_le_pow_right (by decide) hn)) (by decide)
  exact Nat.le_trans (lg_le (by decide) h) (by decide)
/-- A part of a row of the triangle. -/
def prow (m j : Nat) : List ByteArray := (List.range j).map fun t => dec ((ch m t : Nat) : Int)
theorem prow_len (m j : Nat) : (prow m j).length = j := by unfold prow; simp
theorem prow_at (m j t : Nat) (h : t < j) : rdOf ByteArray.empty (prow m j) (t : Int) = dec ((ch m t : Nat) : Int) := by
  unfold rdOf prow
  rw [Int.toNat_natCast, List.getD_eq_getElem?_getD, List.getElem?_map, List.getElem?_range h]
  rfl
theorem prow_snoc (m j : Nat) : prow m j ++ [dec ((ch m j : Nat) : Int)] = prow m (j + 1) := by
  unfold prow
  rw [List.range_succ, List.map_append]
  rfl
theorem one_dec : (⟨#[49]⟩ : ByteArray) = dec 1 := (dec_of (by decide) (by decide)).symm
theorem prow_one (m : Nat) : [(⟨#[49]⟩ : ByteArray)] = prow m 1 := by
  show _ = [dec ((ch m 0 : Nat) : Int)]
  rw [ch_zero, one_dec]
  rfl
theorem rch_inner (n x1 : Int) (r : ByteArray) (i : Nat) (hi1 : i + 1 ≤ 60) (hnext : Ev (fun k => ZK.metrolabref01_Chosen.l0 k n x1 (prow (i + 1) (i + 2)) ((i + 2 : Nat) : Int)) r) :
    ∀ (d j : Nat), i + 1 - j = d → 1 ≤ j → j ≤ i + 1 → Ev (fun k => ZK.metrolabref01_Chosen.l1 k n x1 (prow i (i + 1)) ((i + 1 : Nat) : Int) (prow (i + 1) j) (j : Int)) r
  | 0, j, hd, h1, hj => by
    obtain rfl : j = i + 1 := by omega
    have hw : -9223372036854775808 ≤ ((i + 1 : Nat) : Int) + 1 ∧ ((i + 1 : Nat) : Int) + 1 ≤ 9223372036854775807 := by omega
    have c1 : ¬ (((i + 1 : Nat) : Int) < ((i + 1 : Nat) : Int)) := by omega
    have c2 : (prow (i + 1) (i + 1)).length < 8796093022208 := by rw [prow_len]; omega
    have e : prow (i + 1) (i + 1) ++ [(⟨#[49]⟩ : ByteArray)] = prow (i + 1) (i + 2) := by
      rw [← prow_snoc (i + 1) (i + 1), ch_self, one_dec]
      rfl
    refine Ev.step (f := fun k => ZK.metrolabref01_Chosen.l0 k n x1 (prow (i + 1) (i + 2)) ((i + 2 : Nat) : Int)) (fun k => ?_) hnext
    rw [ZK.metrolabref01_Chosen.l1, if_neg c1, if_pos c2, e, IntWalk.wrap64_in _ hw]
    rfl
  | d + 1, j, hd, h1, hj => by
    obtain ⟨t, rfl⟩ : ∃ t, j = t + 1 := ⟨j - 1, by omega⟩
    have hw : -9223372036854775808 ≤ ((t + 1 : Nat) : Int) + 1 ∧ ((t + 1 : Nat) : Int) + 1 ≤ 9223372036854775807 := by omega
    have hw2 : -9223372036854775808 ≤ ((t + 1 : Nat) : Int) - 1 ∧ ((t + 1 : Nat) : Int) - 1 ≤ 9223372036854775807 := by omega
    have e1 : ((t + 1 : Nat) : Int) - 1 = (t : Int) := by omega
    have c1 : ((t + 1 : Nat) : Int) < ((i + 1 : Nat) : Int) := by omega
    have c2 : (t : Int) < ((prow i (i + 1)).length : Int) := by rw [prow_len]; omega
    have c3 : ((t + 1 : Nat) : Int) < ((prow i (i + 1)).length : Int) := by rw [prow_len]; omega
    have c4 : (prow (i + 1) (t + 1)).length < 8796093022208 := by rw [prow_len]; omega
    have hp := rplus_is ((ch i t : Nat) : Int) ((ch i (t + 1) : Nat) : Int) (ch_lg i t (by omega)) (ch_lg i (t + 1) (by omega))
    rw [← Int.natCast_add, ← ch_succ] at hp
    have ih := rch_inner n x1 r i hi1 hnext d (t + 1 + 1) (by omega) (by omega) (by omega)
    rw [← prow_snoc (i + 1) (t + 1)] at ih
    refine Ev.step (f := fun k => (ZP.metrolabref01_Plus.f k (dec ((ch i t : Nat) : Int)) (dec ((ch i (t + 1) : Nat) : Int))).bind fun t201 => (if (prow (i + 1) (t + 1)).length < 8796093022208 then (ZK.metrolabref01_Chosen.l1 k n x1 (prow i (i + 1)) ((i + 1 : Nat) : Int) (prow (i + 1) (t + 1) ++ [t201]) ((t + 1 + 1 : Nat) : Int)) else (none))) (fun k => ?_) (Ev.bind hp (Ev.pos c4 ih))
    rw [ZK.metrolabref01_Chosen.l1, if_pos c1, IntWalk.wrap64_in _ hw2, e1, if_pos (Int.natCast_nonneg t), if_pos c2, if_pos (Int.natCast_nonneg (t + 1)), if_pos c3, prow_at i (i + 1) t (by omega), prow_at i (i + 1) (t + 1) (by omega), IntWalk.wrap64_in _ hw]
    rfl
theorem rch_outer (n x : Nat) (hn : n ≤ 50) (hx : x ≤ n) : ∀ (d i : Nat), n - i = d → i ≤ n →
    Ev (fun k => ZK.metrolabref01_Chosen.l0 k (n : Int) (x : Int) (prow i (i + 1)) ((i + 1 : Nat) : Int)) (dec ((ch n x : Nat) : Int))
  | 0, i, hd, hi => by
    obtain rfl : i = n := by omega
    have c1 : ¬ (((i + 1 : Nat) : Int) ≤ (i : Int)) := by omega
    have c2 : (x : Int) < ((prow i (i + 1)).length : Int) := by rw [prow_len]; omega
    refine Ev.after 1 fun k => ?_
    rw [ZK.metrolabref01_Chosen.l0, if_neg c1, if_pos (Int.natCast_nonneg x), if_pos c2, prow_at i (i + 1) x (by omega)]
  | d + 1, i, hd, hi => by
    have c1 : ((i + 1 : Nat) : Int) ≤ (n : Int) := by omega
    have ih := rch_outer n x hn hx d (i + 1) (by omega) (by omega)
    have h := rch_inner (n : Int) (x : Int) _ i (by omega) ih (i + 1 - 1) 1 rfl (by decide) (by omega)
    refine Ev.step (f := fun k => ZK.metrolabref01_Chosen.l1 k (n : Int) (x : Int) (prow i (i + 1)) ((i + 1 : Nat) : Int) (prow (i + 1) 1) ((1 : Nat) : Int)) (fun k => ?_) h
    rw [ZK.metrolabref01_Chosen.l0, if_pos c1, ← prow_one]
    rfl
theorem rchosen_is (n x : Nat) (hn : n ≤ 50) (hx : x ≤ n) : Ev (fun k => ZK.metrolabref01_Chosen.f k (n : Int) (x : Int)) (dec ((ch n x : Nat) : Int)) := by
  unfold ZK.metrolabref01_Chosen.f
  refine Ev.neg (by omega) ?_
  rw [decide_eq_false (by omega)]
  refine Ev.step (f := fun k => ZK.metrolabref01_Chosen.l0 k (n : Int) (x : Int) (prow 0 1) ((1 : Nat) : Int)) (fun k => ?_) (rch_outer n x hn hx _ 0 rfl (Nat.zero_le _))
  rw [ZK.metrolabref01_Chosen.j0, if_neg (show ¬ (false = true) by decide), ← prow_one]
  rfl
theorem rchosen_out (n x : Int) (h : x < 0 ∨ n < x) : Ev (fun k => ZK.metrolabref01_Chosen.f k n x) (dec 0) := by
  unfold ZK.metrolabref01_Chosen.f
  have e0 : (⟨#[48]⟩ : ByteArray) = dec 0 := (bytes_ext itoa_zero).symm
  by_cases h1 : x < 0
  · exact Ev.pos h1 (Ev.after 1 fun k => by rw [ZK.metrolabref01_Chosen.j0, if_pos (rfl : true = true), e0])
  · refine Ev.neg h1 ?_
    rw [decide_eq_true (show x > n from h.resolve_left h1)]
    exact Ev.after 1 fun k => by rw [ZK.metrolabref01_Chosen.j0, if_pos (rfl : true = true), e0]
theorem rbinomial_is (n x : Int) (h : n ≤ 40 ∨ 4096 < n) : Ev (fun k => ZK.metrolabref01_Binomial.f k n x) (binS n x) := by
  unfold ZK.metrolabref01_Binomial.f binS
  by_cases h1 : n < 0
  · rw [if_pos (.inl h1)]
    exact Ev.pos h1 (Ev.after 1 fun k => rfl)
  · refine Ev.neg h1 ?_
    by_cases h2 : 4096 < n
    · rw [if_pos (.inr h2), decide_eq_true (show n > 4096 from h2)]
      exact Ev.after 1 fun k => rfl
    · rw [if_neg (by omega), decide_eq_false (show ¬ n > 4096 from h2)]
      refine Ev.step (f := fun k => (ZK.metrolabref01_Chosen.f k n x).bind fun t208 => ((ZP.metrolabref01_Kept.f t208).bind fun bt209 => (some (bt209.1, bt209.2)))) (fun k => ?_) ?_
      · rw [ZK.metrolabref01_Binomial.j0, if_neg (show ¬ (false = true) by decide)]
      · by_cases h3 : x < 0 ∨ n < x
        · rw [if_pos h3]
          refine Ev.bind (rchosen_out n x h3) ?_
          rw [rkept_is, lim_fit (ten_pow_lt (n := 1) (by decide) (by decide))]
          simp only [Option.bind_some]
          rw [show dec 0 = ⟨#[48]⟩ from bytes_ext itoa_zero]
          exact Ev.now _
        · rw [if_neg h3]
          obtain ⟨m, rfl⟩ : ∃ m : Nat, n = (m : Int) := ⟨n.toNat, by omega⟩
          obtain ⟨y, rfl⟩ : ∃ y : Nat, x = (y : Int) := ⟨x.toNat, by omega⟩
          rw [Int.toNat_natCast, Int.toNat_natCast]
          refine Ev.bind (rchosen_is m y (by omega) (by omega)) ?_
          rw [rkept_is]
          exact Ev.now _
end Go.Proofs.YtpkfnclbcmnckaaGreatDoor
namespace Go.Proofs.YtpkfnclbcmnckaaGreatDoor.ZLC
open Go.RowKit Go.Proofs.YtpkfnclbcmnckaaGreatDoorW.PrintWords Go.Proofs.YtpkfnclbcmnckaaGreatDoorW.PrintLast Go.Proofs.YtpkfnclbcmnckaaGreatDoorW.PrintMore
attribute [local go_sem] max2_int min2_int max_two min_two max_three min_three max_four min_four   -- for this text's walks alone
set_option linter.unusedVariables false
set_option linter.unusedSimpArgs false
def errW : Option Int → Value
  | none => .nilIface
  | some c => .iface 0 (.int .i64 c)
theorem errW_none : errW none = .nilIface := rfl
theorem errW_some (c : Int) : errW (some c) = .iface 0 (.int .i64 c) := rfl
end Go.Proofs.YtpkfnclbcmnckaaGreatDoor.ZLC
