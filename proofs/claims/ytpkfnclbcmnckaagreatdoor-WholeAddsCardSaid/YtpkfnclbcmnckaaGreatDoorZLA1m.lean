import Derived.Test.YtpkfnclbcmnckaaGreatDoorProg
import Derived.Below
import Derived.Deep.Draws
import Derived.Deep.AppendLies
import Derived.Maps.AppendAt
import Derived.OwnWalk
import Derived.Laws.BytesArg
import Derived.Laws.MakeOwn
import Derived.Laws.OwnMore
import Derived.Deep.OwnRows
import Derived.Tactics
import Derived.Lib.ConvBytes
import Derived.Laws.Slices
import Derived.WalkKit
import Derived.KernelRfl
import Derived.RowKit3
import Derived.Deep.LoopGhost
import Derived.Deep.QuietTactic
import Derived.BigQuiet
import Derived.WideLaws
import Derived.Deep.DeepCutAuto
import Derived.Deep.CutBlock
import Derived.Deep.RegionHeld3
import Derived.Laws.Rows
import Derived.Lib.AppendStr
import Derived.ArgAppend
import Derived.Laws.IdiomCopy
import Derived.OrdersHeld
import Derived.Laws.BitsLemmas
import Derived.RowKit
import Derived.Test.YtpkfnclbcmnckaaGreatDoorA3
import Derived.Test.YtpkfnclbcmnckaaGreatDoorZQ1m
import Derived.Test.YtpkfnclbcmnckaaGreatDoorWWords
import Derived.Test.YtpkfnclbcmnckaaGreatDoorWLast
import Derived.Test.YtpkfnclbcmnckaaGreatDoorWTab
import Derived.Test.YtpkfnclbcmnckaaGreatDoorWFour
import Derived.Test.YtpkfnclbcmnckaaGreatDoorWQPut
import Derived.Test.YtpkfnclbcmnckaaGreatDoorWApart
import Derived.Test.YtpkfnclbcmnckaaGreatDoorWArr
import Derived.Test.YtpkfnclbcmnckaaGreatDoorWZeros
import Derived.Test.YtpkfnclbcmnckaaGreatDoorWFoot
import Derived.Test.YtpkfnclbcmnckaaGreatDoorWKept
import Derived.Test.YtpkfnclbcmnckaaGreatDoorWShare
import Derived.Test.YtpkfnclbcmnckaaGreatDoorWN
import Derived.Test.YtpkfnclbcmnckaaGreatDoorWFootNe
import Derived.Test.YtpkfnclbcmnckaaGreatDoorWAt
import Derived.Test.YtpkfnclbcmnckaaGreatDoorWEqStruct
import Derived.Test.YtpkfnclbcmnckaaGreatDoorWRepsOne
import Derived.Test.YtpkfnclbcmnckaaGreatDoorWInv
import Derived.Test.YtpkfnclbcmnckaaGreatDoorWInvWords
import Derived.Test.YtpkfnclbcmnckaaGreatDoorWGuard
import Derived.Test.YtpkfnclbcmnckaaGreatDoorWNEv
import Derived.Test.YtpkfnclbcmnckaaGreatDoorWMore
-- written by the session's px.py out of the translation; Lean checks it.
namespace Go.Proofs.YtpkfnclbcmnckaaGreatDoor.ZLA
open Go.RowKit Go.Proofs.YtpkfnclbcmnckaaGreatDoorW.PrintWords Go.Proofs.YtpkfnclbcmnckaaGreatDoorW.PrintLast Go.Proofs.YtpkfnclbcmnckaaGreatDoorW.PrintMore
attribute [local go_sem] max2_int min2_int max_two min_two max_three min_three max_four min_four   -- for this text's walks alone
set_option linter.unusedVariables false
set_option linter.unusedSimpArgs false



def errW : Option Int → Value
  | none => .nilIface
  | some c => .iface 0 (.int .i64 c)
theorem errW_none : errW none = .nilIface := rfl
theorem errW_some (c : Int) : errW (some c) = .iface 0 (.int .i64 c) := rfl

-- the values' own types

end Go.Proofs.YtpkfnclbcmnckaaGreatDoor.ZLA
-- written by the session's px.py out of the translation; Lean checks it.
namespace Go.Proofs.YtpkfnclbcmnckaaGreatDoor.ZLA
open Go.RowKit Go.Proofs.YtpkfnclbcmnckaaGreatDoorW.PrintWords Go.Proofs.YtpkfnclbcmnckaaGreatDoorW.PrintLast Go.Proofs.YtpkfnclbcmnckaaGreatDoorW.PrintMore
attribute [local go_sem] max2_int min2_int max_two min_two max_three min_three max_four min_four   -- for this text's walks alone
set_option linter.unusedVariables false
set_option linter.unusedSimpArgs false

/-! ### metrolablaw01_WholeAdds: function 7 -/
mutual
def metrolablaw01_WholeAdds.j0 : Nat → ByteArray → ByteArray → Bool → Option (Bool)
  | 0, _, _, _ => none
  | k + 1, x0, x1, x24 => if x24 = true then ((awake.f).bind fun t101 => (some t101)) else ((whole_Add.f x0 x1).bind fun bt102 => ((ZQ.metrolabref01_Add.f k x0 x1).bind fun bt104 => ((whole_Sub.f x0 x1).bind fun bt106 => ((ZQ.metrolabref01_Sub.f k x0 x1).bind fun bt108 => (if bt102.1.toList = bt104.1.toList then (if bt102.2 = bt104.2 then (if bt106.1.toList = bt108.1.toList then (metrolablaw01_WholeAdds.j1 k x0 x1 (bt106.2 != bt108.2)) else (metrolablaw01_WholeAdds.j1 k x0 x1 true)) else (metrolablaw01_WholeAdds.j1 k x0 x1 true)) else (metrolablaw01_WholeAdds.j1 k x0 x1 true))))))
def metrolablaw01_WholeAdds.j1 : Nat → ByteArray → ByteArray → Bool → Option (Bool)
  | 0, _, _, _ => none
  | k + 1, x0, x1, x67 => if x67 = true then (some false) else ((whole_Neg.f x0).bind fun bt110 => ((ZQ.metrolabref01_Neg.f k x0).bind fun bt112 => ((whole_Compare.f x0 x1).bind fun bt114 => ((ZQ.metrolabref01_Compare.f k x0 x1).bind fun bt116 => (if bt110.1.toList = bt112.1.toList then (if bt110.2 = bt112.2 then (if bt114.1 = bt116.1 then (if bt114.2 = bt116.2 then ((awake.f).bind fun t118 => (some t118)) else (some false)) else (some false)) else (some false)) else (some false))))))
end
def metrolablaw01_WholeAdds.f (k : Nat) (a0 : ByteArray) (a1 : ByteArray) : Option (Bool) := if (a0.size : Int) > 1026 then (metrolablaw01_WholeAdds.j0 k a0 a1 true) else (metrolablaw01_WholeAdds.j0 k a0 a1 (decide ((a1.size : Int) > 1026)))
theorem metrolablaw01_WholeAdds.mono_l : ∀ k, (∀ y0 y1 y2, LeO (metrolablaw01_WholeAdds.j0 k y0 y1 y2) (metrolablaw01_WholeAdds.j0 (k + 1) y0 y1 y2)) ∧ (∀ y0 y1 y2, LeO (metrolablaw01_WholeAdds.j1 k y0 y1 y2) (metrolablaw01_WholeAdds.j1 (k + 1) y0 y1 y2))
  | 0 => ⟨fun _ _ _ r h => by simp [metrolablaw01_WholeAdds.j0] at h, fun _ _ _ r h => by simp [metrolablaw01_WholeAdds.j1] at h⟩
  | k + 1 => by
    obtain ⟨ih0, ih1⟩ := metrolablaw01_WholeAdds.mono_l k
    refine ⟨?_, ?_⟩
    · intro y0 y1 y2
      unfold metrolablaw01_WholeAdds.j0
      repeat' first
      | (with_reducible exact ih0 _ _ _)
      | (with_reducible exact ih1 _ _ _)
      | (with_reducible exact ZQ.metrolabref01_Add.mono _ _ _)
      | (with_reducible exact ZQ.metrolabref01_Compare.mono _ _ _)
      | (with_reducible exact ZQ.metrolabref01_Neg.mono _ _)
      | (with_reducible exact ZQ.metrolabref01_Sub.mono _ _ _)
      | (with_reducible exact LeO.refl _)
      | (with_reducible exact LeO.none _)
      | (with_reducible refine LeO.ite ?_ ?_)
      | (with_reducible refine LeO.bind ?_ (fun _ => ?_))
      | exact ih0 _ _ _
      | exact ih1 _ _ _
      | exact ZQ.metrolabref01_Add.mono _ _ _
      | exact ZQ.metrolabref01_Compare.mono _ _ _
      | exact ZQ.metrolabref01_Neg.mono _ _
      | exact ZQ.metrolabref01_Sub.mono _ _ _
      | exact LeO.none _
      | refine LeO.ite ?_ ?_
      | refine LeO.bind ?_ (fun _ => ?_)
    · intro y0 y1 y2
      unfold metrolablaw01_WholeAdds.j1
      repeat' first
      | (with_reducible exact ih0 _ _ _)
      | (with_reducible exact ih1 _ _ _)
      | (with_reducible exact ZQ.metrolabref01_Add.mono _ _ _)
      | (with_reducible exact ZQ.metrolabref01_Compare.mono _ _ _)
      | (with_reducible exact ZQ.metrolabref01_Neg.mono _ _)
      | (with_reducible exact ZQ.metrolabref01_Sub.mono _ _ _)
      | (with_reducible exact LeO.refl _)
      | (with_reducible exact LeO.none _)
      | (with_reducible refine LeO.ite ?_ ?_)
      | (with_reducible refine LeO.bind ?_ (fun _ => ?_))
      | exact ih0 _ _ _
      | exact ih1 _ _ _
      | exact ZQ.metrolabref01_Add.mono _ _ _
      | exact ZQ.metrolabref01_Compare.mono _ _ _
      | exact ZQ.metrolabref01_Neg.mono _ _
      | exact ZQ.metrolabref01_Sub.mono _ _ _
      | exact LeO.none _
      | refine LeO.ite ?_ ?_
      | refine LeO.bind ?_ (fun _ => ?_)
theorem metrolablaw01_WholeAdds.mono : ∀ a0 a1 k, LeO (metrolablaw01_WholeAdds.f k a0 a1) (metrolablaw01_WholeAdds.f (k + 1) a0 a1) := by
  intro a0 a1 k
  obtain ⟨ih0, ih1⟩ := metrolablaw01_WholeAdds.mono_l k
  unfold metrolablaw01_WholeAdds.f
  repeat' first
      | (with_reducible exact ih0 _ _ _)
      | (with_reducible exact ih1 _ _ _)
      | (with_reducible exact ZQ.metrolabref01_Add.mono _ _ _)
      | (with_reducible exact ZQ.metrolabref01_Compare.mono _ _ _)
      | (with_reducible exact ZQ.metrolabref01_Neg.mono _ _)
      | (with_reducible exact ZQ.metrolabref01_Sub.mono _ _ _)
      | (with_reducible exact LeO.refl _)
      | (with_reducible exact LeO.none _)
      | (with_reducible refine LeO.ite ?_ ?_)
      | (with_reducible refine LeO.bind ?_ (fun _ => ?_))
      | exact ih0 _ _ _
      | exact ih1 _ _ _
      | exact ZQ.metrolabref01_Add.mono _ _ _
      | exact ZQ.metrolabref01_Compare.mono _ _ _
      | exact ZQ.metrolabref01_Neg.mono _ _
      | exact ZQ.metrolabref01_Sub.mono _ _ _
      | exact LeO.none _
      | refine LeO.ite ?_ ?_
      | refine LeO.bind ?_ (fun _ => ?_)
set_option maxHeartbeats 8000000 in
set_option maxRecDepth 100000 in
theorem metrolablaw01_WholeAdds.calls (k : Nat) (a0 : ByteArray) (a1 : ByteArray) (r : Bool) (w : World) (h : metrolablaw01_WholeAdds.f k a0 a1 = some r) (HE_ : Env w) :
    Calls Tryz.prog 7 #[.string a0, .string a1] w fun e w' => e = .returned (.bool r) ∧ Below w.heap.size w w' := by
  have ENV0 := Aside0.mk HE_
  clear HE_
  have HB := Aside0.mk (Below.refl w.heap.size w)
  have H : (if (a0.size : Int) > 1026 then (metrolablaw01_WholeAdds.j0 k a0 a1 true) else (metrolablaw01_WholeAdds.j0 k a0 a1 (decide ((a1.size : Int) > 1026)))) = some r := h
  clear h
  have HC3 := Aside0.mk H
  clear H
  go_enter Tryz.func7, Tryz.ntmps7
  go_upto_region 1 with (fail)
  go_cut [24] (fun v24 wc => ∃ (kq : Nat) (x24_2 : Bool), v24 = .bool x24_2 ∧ Aside0 (metrolablaw01_WholeAdds.j0 kq a0 a1 x24_2 = some r) ∧ Aside0 (kq ≤ k) ∧ Aside0 (Below w.heap.size w wc))
  case first =>
    have H := HC3.out
    clear HC3
    by_cases c4 : (a0.size : Int) > 1026
    · rw [if_pos c4] at H
      have c4b0 : decide (1026 < (a0.size : Int)) = true := decide_eq_true c4
      have c4b1 : decide (1026 < a0.size) = true := decide_eq_true (by omega)
      clear c4
      (first | rw [c4b0] | (simp only [i64_w, i32_w]; rw [c4b0]) | skip)
      have H' := Aside0.mk H
      clear H
      go_wp2
      go_meet
      case rel => exact ⟨_, (true), (by first | rfl | exact congrArg Value.bool (not_empty _) | exact congrArg Value.bool (is_empty _) | (simp; done) | (simp [*]; done)), H', ⟨by first | omega | exact Nat.le_refl _⟩, ⟨by repeat (first | (with_reducible first | exact HB.out | apply below_alloc | apply pw_below_drewN | apply below_drew1) | exact HB.out)⟩⟩
    · rw [if_neg c4] at H
      have c4b0 : decide (1026 < (a0.size : Int)) = false := decide_eq_false c4
      have c4b1 : decide (1026 < a0.size) = false := decide_eq_false (by omega)
      clear c4
      (first | rw [c4b0] | (simp only [i64_w, i32_w]; rw [c4b0]) | skip)
      have H' := Aside0.mk H
      clear H
      go_wp2
      go_meet
      case rel => exact ⟨_, (decide ((a1.size : Int) > 1026)), (by first | rfl | exact congrArg Value.bool (not_empty _) | exact congrArg Value.bool (is_empty _) | (simp; done) | (simp [*]; done)), H', ⟨by first | omega | exact Nat.le_refl _⟩, ⟨by repeat (first | (with_reducible first | exact HB.out | apply below_alloc | apply pw_below_drewN | apply below_drew1) | exact HB.out)⟩⟩
  case rest =>
    clear HC3
    try clear p2
    try clear c4
    try clear c4b0
    try clear c4b1
    obtain ⟨kq, x24_2, rfl, HA, HJ2, HB⟩ := hcut
    cases kq with
    | zero => exact absurd HA.out (by simp [metrolablaw01_WholeAdds.j0])
    | succ kj2 =>
      have H := HA.out
      clear HA
      simp only [metrolablaw01_WholeAdds.j0] at H
      by_cases c5 : x24_2 = true
      · subst c5
        have H1 : ((awake.f).bind fun t101 => (some t101)) = some r := by rw [if_pos rfl] at H; exact H
        clear H
        have H := H1
        clear H1
        replace H := Option.bind_eq_some_iff.mp H
        obtain ⟨t101, A60, H⟩ := H
        replace H : (some t101) = some r := H
        have A6 := Aside0.mk A60
        clear A60
        obtain rfl := Option.some.inj H
        go_wp2_with (first | ((with_reducible refine gate_callee (f := 9) rfl ?_); refine goesL_ (some 25) rfl rfl Tryz.func9 (by kernel_rfl) rfl #[] rfl (by (try simp only [List.map_toArray, List.map_cons, List.map_nil]); first | done | rfl | (simp only [List.length_drop, List.length_take]; rfl)) ?_; (with_reducible refine (awake.calls  t101 _ A6.out (Env.below ENV0.out (by repeat (first | (with_reducible first | exact HB.out | apply below_alloc | apply pw_below_drewN | apply below_drew1) | exact HB.out)))).mono ?_); rintro e w7 ⟨rfl, hb⟩; refine ⟨_, rfl, ?_⟩; have n0_ := Aside0.mk (below_step (by repeat (first | (with_reducible first | exact HB.out | apply below_alloc | apply pw_below_drewN | apply below_drew1) | exact HB.out)) hb); clear HB; have HB := n0_; clear n0_; (try clear hb); (try clear hb2); (try clear hk); (try clear hi)))
        go_ret
        exact ⟨by first | rfl | (simp [errW_none, errW_some] <;> rfl) | (simp [*, errW_none, errW_some] <;> rfl), by repeat (first | (with_reducible first | exact HB.out | apply below_alloc | apply pw_below_drewN | apply below_drew1) | exact HB.out)⟩
      · replace c5 := Bool.eq_false_iff.mpr c5
        subst c5
        have H1 : ((whole_Add.f a0 a1).bind fun bt102 => ((ZQ.metrolabref01_Add.f kj2 a0 a1).bind fun bt104 => ((whole_Sub.f a0 a1).bind fun bt106 => ((ZQ.metrolabref01_Sub.f kj2 a0 a1).bind fun bt108 => (if bt102.1.toList = bt104.1.toList then (if bt102.2 = bt104.2 then (if bt106.1.toList = bt108.1.toList then (metrolablaw01_WholeAdds.j1 kj2 a0 a1 (bt106.2 != bt108.2)) else (metrolablaw01_WholeAdds.j1 kj2 a0 a1 true)) else (metrolablaw01_WholeAdds.j1 kj2 a0 a1 true)) else (metrolablaw01_WholeAdds.j1 kj2 a0 a1 true)))))) = some r := by rw [if_neg (show ¬ (false = true) by decide)] at H; exact H
        clear H
        have H := H1
        clear H1
        replace H := Option.bind_eq_some_iff.mp H
        obtain ⟨⟨t102, t103⟩, A80, H⟩ := H
        replace H : ((ZQ.metrolabref01_Add.f kj2 a0 a1).bind fun bt104 => ((whole_Sub.f a0 a1).bind fun bt106 => ((ZQ.metrolabref01_Sub.f kj2 a0 a1).bind fun bt108 => (if t102.toList = bt104.1.toList then (if t103 = bt104.2 then (if bt106.1.toList = bt108.1.toList then (metrolablaw01_WholeAdds.j1 kj2 a0 a1 (bt106.2 != bt108.2)) else (metrolablaw01_WholeAdds.j1 kj2 a0 a1 true)) else (metrolablaw01_WholeAdds.j1 kj2 a0 a1 true)) else (metrolablaw01_WholeAdds.j1 kj2 a0 a1 true))))) = some r := H
        have A8 := Aside0.mk A80
        clear A80
        replace H := Option.bind_eq_some_iff.mp H
        obtain ⟨⟨t104, t105⟩, A90, H⟩ := H
        replace H : ((whole_Sub.f a0 a1).bind fun bt106 => ((ZQ.metrolabref01_Sub.f kj2 a0 a1).bind fun bt108 => (if t102.toList = t104.toList then (if t103 = t105 then (if bt106.1.toList = bt108.1.toList then (metrolablaw01_WholeAdds.j1 kj2 a0 a1 (bt106.2 != bt108.2)) else (metrolablaw01_WholeAdds.j1 kj2 a0 a1 true)) else (metrolablaw01_WholeAdds.j1 kj2 a0 a1 true)) else (metrolablaw01_WholeAdds.j1 kj2 a0 a1 true)))) = some r := H
        have A9 := Aside0.mk A90
        clear A90
        replace H := Option.bind_eq_some_iff.mp H
        obtain ⟨⟨t106, t107⟩, A100, H⟩ := H
        replace H : ((ZQ.metrolabref01_Sub.f kj2 a0 a1).bind fun bt108 => (if t102.toList = t104.toList then (if t103 = t105 then (if t106.toList = bt108.1.toList then (metrolablaw01_WholeAdds.j1 kj2 a0 a1 (t107 != bt108.2)) else (metrolablaw01_WholeAdds.j1 kj2 a0 a1 true)) else (metrolablaw01_WholeAdds.j1 kj2 a0 a1 true)) else (metrolablaw01_WholeAdds.j1 kj2 a0 a1 true))) = some r := H
        have A10 := Aside0.mk A100
        clear A100
        replace H := Option.bind_eq_some_iff.mp H
        obtain ⟨⟨t108, t109⟩, A110, H⟩ := H
        replace H : (if t102.toList = t104.toList then (if t103 = t105 then (if t106.toList = t108.toList then (metrolablaw01_WholeAdds.j1 kj2 a0 a1 (t107 != t109)) else (metrolablaw01_WholeAdds.j1 kj2 a0 a1 true)) else (metrolablaw01_WholeAdds.j1 kj2 a0 a1 true)) else (metrolablaw01_WholeAdds.j1 kj2 a0 a1 true)) = some r := H
        have A11 := Aside0.mk A110
        clear A110
        have HC12 := Aside0.mk H
        clear H
        go_upto_region 7 with (first | ((with_reducible refine gate_callee (f := 32) rfl ?_); refine goesL_ (some 29) rfl rfl Tryz.func32 (by kernel_rfl) rfl #[.string a0, .string a1] rfl (by (try simp only [List.map_toArray, List.map_cons, List.map_nil]); first | done | rfl | (simp only [List.length_drop, List.length_take]; rfl)) ?_; (with_reducible refine (whole_Add.calls a0 a1 t102 t103 _ A8.out (Env.below ENV0.out (by repeat (first | (with_reducible first | exact HB.out | apply below_alloc | apply pw_below_drewN | apply below_drew1) | exact HB.out)))).mono ?_); rintro e w13 ⟨rfl, hb⟩; refine ⟨_, rfl, ?_⟩; have n0_ := Aside0.mk (below_step (by repeat (first | (with_reducible first | exact HB.out | apply below_alloc | apply pw_below_drewN | apply below_drew1) | exact HB.out)) hb); clear HB; have HB := n0_; clear n0_; (try clear hb); (try clear hb2); (try clear hk); (try clear hi)) | ((with_reducible refine gate_callee (f := 33) rfl ?_); refine goesL_ (some 35) rfl rfl Tryz.func33 (by kernel_rfl) rfl #[.string a0, .string a1] rfl (by (try simp only [List.map_toArray, List.map_cons, List.map_nil]); first | done | rfl | (simp only [List.length_drop, List.length_take]; rfl)) ?_; (with_reducible refine (ZQ.metrolabref01_Add.calls kj2 a0 a1 t104 t105 _ A9.out).mono ?_); rintro e w14 ⟨rfl, hb⟩; refine ⟨_, rfl, ?_⟩; have n0_ := Aside0.mk (below_step (by repeat (first | (with_reducible first | exact HB.out | apply below_alloc | apply pw_below_drewN | apply below_drew1) | exact HB.out)) hb); clear HB; have HB := n0_; clear n0_; (try clear hb); (try clear hb2); (try clear hk); (try clear hi)) | ((with_reducible refine gate_callee (f := 34) rfl ?_); refine goesL_ (some 41) rfl rfl Tryz.func34 (by kernel_rfl) rfl #[.string a0, .string a1] rfl (by (try simp only [List.map_toArray, List.map_cons, List.map_nil]); first | done | rfl | (simp only [List.length_drop, List.length_take]; rfl)) ?_; (with_reducible refine (whole_Sub.calls a0 a1 t106 t107 _ A10.out (Env.below ENV0.out (by repeat (first | (with_reducible first | exact HB.out | apply below_alloc | apply pw_below_drewN | apply below_drew1) | exact HB.out)))).mono ?_); rintro e w15 ⟨rfl, hb⟩; refine ⟨_, rfl, ?_⟩; have n0_ := Aside0.mk (below_step (by repeat (first | (with_reducible first | exact HB.out | apply below_alloc | apply pw_below_drewN | apply below_drew1) | exact HB.out)) hb); clear HB; have HB := n0_; clear n0_; (try clear hb); (try clear hb2); (try clear hk); (try clear hi)) | ((with_reducible refine gate_callee (f := 35) rfl ?_); refine goesL_ (some 47) rfl rfl Tryz.func35 (by kernel_rfl) rfl #[.string a0, .string a1] rfl (by (try simp only [List.map_toArray, List.map_cons, List.map_nil]); first | done | rfl | (simp only [List.length_drop, List.length_take]; rfl)) ?_; (with_reducible refine (ZQ.metrolabref01_Sub.calls kj2 a0 a1 t108 t109 _ A11.out).mono ?_); rintro e w16 ⟨rfl, hb⟩; refine ⟨_, rfl, ?_⟩; have n0_ := Aside0.mk (below_step (by repeat (first | (with_reducible first | exact HB.out | apply below_alloc | apply pw_below_drewN | apply below_drew1) | exact HB.out)) hb); clear HB; have HB := n0_; clear n0_; (try clear hb); (try clear hb2); (try clear hk); (try clear hi)))
        (try simp only [Act.put, List.setIfInBounds_toArray, List.set_cons_zero, List.set_cons_succ])
        go_cut [67] (fun v67 wc => ∃ (kq : Nat) (x67_11 : Bool), v67 = .bool x67_11 ∧ Aside0 (metrolablaw01_WholeAdds.j1 kq a0 a1 x67_11 = some r) ∧ Aside0 (kq ≤ kj2) ∧ Aside0 (Below w.heap.size w wc))
        case first =>
          have H := HC12.out
          clear HC12
          by_cases c17 : t102.toList = t104.toList
          · rw [if_pos c17] at H
            have c17b0 : (t102.toList == t104.toList) = true := beq_iff_eq.mpr c17
            have c17b1 : (t102.toList != t104.toList) = false := bne_eq_false_iff_eq.mpr c17
            clear c17
            (first | rw [c17b0] | (simp only [i64_w, i32_w]; rw [c17b0]) | skip)
            by_cases c18 : t103 = t105
            · rw [if_pos c18] at H
              have c18b0 : (t103 == t105) = true := beq_iff_eq.mpr c18
              have c18b1 : (t103 != t105) = false := bne_eq_false_iff_eq.mpr c18
              clear c18
              by_cases c19 : t106.toList = t108.toList
              · rw [if_pos c19] at H
                have c19b0 : (t106.toList == t108.toList) = true := beq_iff_eq.mpr c19
                have c19b1 : (t106.toList != t108.toList) = false := bne_eq_false_iff_eq.mpr c19
                clear c19
                have H' := Aside0.mk H
                clear H
                go_wp2
                go_meet
                case rel => exact ⟨_, ((t107 != t109)), (by first | rfl | exact congrArg Value.bool (not_empty _) | exact congrArg Value.bool (is_empty _) | (simp; done) | (simp [*]; done)), H', ⟨by have := HJ2.out; first | omega | exact Nat.le_refl _⟩, ⟨by repeat (first | (with_reducible first | exact HB.out | apply below_alloc | apply pw_below_drewN | apply below_drew1) | exact HB.out)⟩⟩
              · rw [if_neg c19] at H
                have c19b0 : (t106.toList == t108.toList) = false := beq_eq_false_iff_ne.mpr c19
                have c19b1 : (t106.toList != t108.toList) = true := bne_iff_ne.mpr c19
                have H' := Aside0.mk H
                clear H
                go_wp2
                go_meet
                case rel => exact ⟨_, (true), (by first | rfl | exact congrArg Value.bool (not_empty _) | exact congrArg Value.bool (is_empty _) | (simp; done) | (simp [*]; done)), H', ⟨by have := HJ2.out; first | omega | exact Nat.le_refl _⟩, ⟨by repeat (first | (with_reducible first | exact HB.out | apply below_alloc | apply pw_below_drewN | apply below_drew1) | exact HB.out)⟩⟩
            · rw [if_neg c18] at H
              have c18b0 : (t103 == t105) = false := beq_eq_false_iff_ne.mpr c18
              have c18b1 : (t103 != t105) = true := bne_iff_ne.mpr c18
              have H' := Aside0.mk H
              clear H
              go_wp2
              go_meet
              case rel => exact ⟨_, (true), (by first | rfl | exact congrArg Value.bool (not_empty _) | exact congrArg Value.bool (is_empty _) | (simp; done) | (simp [*]; done)), H', ⟨by have := HJ2.out; first | omega | exact Nat.le_refl _⟩, ⟨by repeat (first | (with_reducible first | exact HB.out | apply below_alloc | apply pw_below_drewN | apply below_drew1) | exact HB.out)⟩⟩
          · rw [if_neg c17] at H
            have c17b0 : (t102.toList == t104.toList) = false := beq_eq_false_iff_ne.mpr c17
            have c17b1 : (t102.toList != t104.toList) = true := bne_iff_ne.mpr c17
            (first | rw [c17b0] | (simp only [i64_w, i32_w]; rw [c17b0]) | skip)
            have H' := Aside0.mk H
            clear H
            go_wp2
            go_meet
            case rel => exact ⟨_, (true), (by first | rfl | exact congrArg Value.bool (not_empty _) | exact congrArg Value.bool (is_empty _) | (simp; done) | (simp [*]; done)), H', ⟨by have := HJ2.out; first | omega | exact Nat.le_refl _⟩, ⟨by repeat (first | (with_reducible first | exact HB.out | apply below_alloc | apply pw_below_drewN | apply below_drew1) | exact HB.out)⟩⟩
        case rest =>
          clear HC12
          try clear c1
          try clear p2
          try clear c3
          try clear c4
          try clear c4b0
          try clear c4b1
          try clear c5
          try clear c7
          try clear c9
          try clear c17
          try clear c17b0
          try clear c17b1
          try clear c18
          try clear c18b0
          try clear c18b1
          try clear c19
          try clear c19b0
          try clear c19b1
          try clear p2
          obtain ⟨kq, x67_11, rfl, HA, HJ11, HB⟩ := hcut
          cases kq with
          | zero => exact absurd HA.out (by simp [metrolablaw01_WholeAdds.j1])
          | succ kj11 =>
            have H := HA.out
            clear HA
            simp only [metrolablaw01_WholeAdds.j1] at H
            by_cases c20 : x67_11 = true
            · subst c20
              have H1 : (some false) = some r := by rw [if_pos rfl] at H; exact H
              clear H
              have H := H1
              clear H1
              obtain rfl := Option.some.inj H
              go_wp2
              go_ret
              exact ⟨by first | rfl | (simp [errW_none, errW_some] <;> rfl) | (simp [*, errW_none, errW_some] <;> rfl), by repeat (first | (with_reducible first | exact HB.out | apply below_alloc | apply pw_below_drewN | apply below_drew1) | exact HB.out)⟩
            · replace c20 := Bool.eq_false_iff.mpr c20
              subst c20
              have H1 : ((whole_Neg.f a0).bind fun bt110 => ((ZQ.metrolabref01_Neg.f kj11 a0).bind fun bt112 => ((whole_Compare.f a0 a1).bind fun bt114 => ((ZQ.metrolabref01_Compare.f kj11 a0 a1).bind fun bt116 => (if bt110.1.toList = bt112.1.toList then (if bt110.2 = bt112.2 then (if bt114.1 = bt116.1 then (if bt114.2 = bt116.2 then ((awake.f).bind fun t118 => (some t118)) else (some false)) else (some false)) else (some false)) else (some false)))))) = some r := by rw [if_neg (show ¬ (false = true) by decide)] at H; exact H
              clear H
              have H := H1
              clear H1
              replace H := Option.bind_eq_some_iff.mp H
              obtain ⟨⟨t110, t111⟩, A210, H⟩ := H
              replace H : ((ZQ.metrolabref01_Neg.f kj11 a0).bind fun bt112 => ((whole_Compare.f a0 a1).bind fun bt114 => ((ZQ.metrolabref01_Compare.f kj11 a0 a1).bind fun bt116 => (if t110.toList = bt112.1.toList then (if t111 = bt112.2 then (if bt114.1 = bt116.1 then (if bt114.2 = bt116.2 then ((awake.f).bind fun t118 => (some t118)) else (some false)) else (some false)) else (some false)) else (some false))))) = some r := H
              have A21 := Aside0.mk A210
              clear A210
              replace H := Option.bind_eq_some_iff.mp H
              obtain ⟨⟨t112, t113⟩, A220, H⟩ := H
              replace H : ((whole_Compare.f a0 a1).bind fun bt114 => ((ZQ.metrolabref01_Compare.f kj11 a0 a1).bind fun bt116 => (if t110.toList = t112.toList then (if t111 = t113 then (if bt114.1 = bt116.1 then (if bt114.2 = bt116.2 then ((awake.f).bind fun t118 => (some t118)) else (some false)) else (some false)) else (some false)) else (some false)))) = some r := H
              have A22 := Aside0.mk A220
              clear A220
              replace H := Option.bind_eq_some_iff.mp H
              obtain ⟨⟨t114, t115⟩, A230, H⟩ := H
              replace H : ((ZQ.metrolabref01_Compare.f kj11 a0 a1).bind fun bt116 => (if t110.toList = t112.toList then (if t111 = t113 then (if t114 = bt116.1 then (if t115 = bt116.2 then ((awake.f).bind fun t118 => (some t118)) else (some false)) else (some false)) else (some false)) else (some false))) = some r := H
              have A23 := Aside0.mk A230
              clear A230
              replace H := Option.bind_eq_some_iff.mp H
              obtain ⟨⟨t116, t117⟩, A240, H⟩ := H
              replace H : (if t110.toList = t112.toList then (if t111 = t113 then (if t114 = t116 then (if t115 = t117 then ((awake.f).bind fun t118 => (some t118)) else (some false)) else (some false)) else (some false)) else (some false)) = some r := H
              have A24 := Aside0.mk A240
              clear A240
              by_cases c25 : t110.toList = t112.toList
              · rw [if_pos c25] at H
                have c25b0 : (t110.toList == t112.toList) = true := beq_iff_eq.mpr c25
                have c25b1 : (t110.toList != t112.toList) = false := bne_eq_false_iff_eq.mpr c25
                clear c25
                by_cases c26 : t111 = t113
                · rw [if_pos c26] at H
                  have c26b0 : (t111 == t113) = true := beq_iff_eq.mpr c26
                  have c26b1 : (t111 != t113) = false := bne_eq_false_iff_eq.mpr c26
                  clear c26
                  by_cases c27 : t114 = t116
                  · rw [if_pos c27] at H
                    have c27b0 : (t114 == t116) = true := beq_iff_eq.mpr c27
                    have c27b1 : (t114 != t116) = false := bne_eq_false_iff_eq.mpr c27
                    clear c27
                    by_cases c28 : t115 = t117
                    · rw [if_pos c28] at H
                      have c28b0 : (t115 == t117) = true := beq_iff_eq.mpr c28
                      have c28b1 : (t115 != t117) = false := bne_eq_false_iff_eq.mpr c28
                      clear c28
                      replace H := Option.bind_eq_some_iff.mp H
                      obtain ⟨t118, A290, H⟩ := H
                      replace H : (some t118) = some r := H
                      have A29 := Aside0.mk A290
                      clear A290
                      obtain rfl := Option.some.inj H
                      go_wp2_with (first | ((with_reducible refine gate_callee (f := 36) rfl ?_); refine goesL_ (some 70) rfl rfl Tryz.func36 (by kernel_rfl) rfl #[.string a0] rfl (by (try simp only [List.map_toArray, List.map_cons, List.map_nil]); first | done | rfl | (simp only [List.length_drop, List.length_take]; rfl)) ?_; (with_reducible refine (whole_Neg.calls a0 t110 t111 _ A21.out).mono ?_); rintro e w30 ⟨rfl, hb⟩; refine ⟨_, rfl, ?_⟩; have n0_ := Aside0.mk (below_step (by repeat (first | (with_reducible first | exact HB.out | apply below_alloc | apply pw_below_drewN | apply below_drew1) | exact HB.out)) hb); clear HB; have HB := n0_; clear n0_; (try clear hb); (try clear hb2); (try clear hk); (try clear hi)) | ((with_reducible refine gate_callee (f := 37) rfl ?_); refine goesL_ (some 75) rfl rfl Tryz.func37 (by kernel_rfl) rfl #[.string a0] rfl (by (try simp only [List.map_toArray, List.map_cons, List.map_nil]); first | done | rfl | (simp only [List.length_drop, List.length_take]; rfl)) ?_; (with_reducible refine (ZQ.metrolabref01_Neg.calls kj11 a0 t112 t113 _ A22.out).mono ?_); rintro e w' ⟨rfl, ⟨nd, rfl⟩⟩; refine ⟨_, rfl, ?_⟩) | ((with_reducible refine gate_callee (f := 38) rfl ?_); refine goesL_ (some 81) rfl rfl Tryz.func38 (by kernel_rfl) rfl #[.string a0, .string a1] rfl (by (try simp only [List.map_toArray, List.map_cons, List.map_nil]); first | done | rfl | (simp only [List.length_drop, List.length_take]; rfl)) ?_; (with_reducible refine (whole_Compare.calls a0 a1 t114 t115 _ A23.out).mono ?_); rintro e w31 ⟨rfl, hb⟩; refine ⟨_, rfl, ?_⟩; have n0_ := Aside0.mk (below_step (by repeat (first | (with_reducible first | exact HB.out | apply below_alloc | apply pw_below_drewN | apply below_drew1) | exact HB.out)) hb); clear HB; have HB := n0_; clear n0_; (try clear hb); (try clear hb2); (try clear hk); (try clear hi)) | ((with_reducible refine gate_callee (f := 27) rfl ?_); refine goesL_ (some 87) rfl rfl Tryz.func27 (by kernel_rfl) rfl #[.string a0, .string a1] rfl (by (try simp only [List.map_toArray, List.map_cons, List.map_nil]); first | done | rfl | (simp only [List.length_drop, List.length_take]; rfl)) ?_; (with_reducible refine (ZQ.metrolabref01_Compare.calls kj11 a0 a1 t116 t117 _ A24.out).mono ?_); rintro e w32 ⟨rfl, hb⟩; refine ⟨_, rfl, ?_⟩; have n0_ := Aside0.mk (below_step (by repeat (first | (with_reducible first | exact HB.out | apply below_alloc | apply pw_below_drewN | apply below_drew1) | exact HB.out)) hb); clear HB; have HB := n0_; clear n0_; (try clear hb); (try clear hb2); (try clear hk); (try clear hi)) | (go_at_call 9; (with_reducible refine (awake.calls  t118 _ A29.out (Env.below ENV0.out (by repeat (first | (with_reducible first | exact HB.out | apply below_alloc | apply pw_below_drewN | apply below_drew1) | exact HB.out)))).mono ?_); rintro e w33 ⟨rfl, hb⟩; have n0_ := Aside0.mk (below_step (by repeat (first | (with_reducible first | exact HB.out | apply below_alloc | apply pw_below_drewN | apply below_drew1) | exact HB.out)) hb); clear HB; have HB := n0_; clear n0_; (try clear hb); (try clear hb2); (try clear hk); (try clear hi)))
                      go_ret
                      exact ⟨by first | rfl | (simp [errW_none, errW_some] <;> rfl) | (simp [*, errW_none, errW_some] <;> rfl), by repeat (first | (with_reducible first | exact HB.out | apply below_alloc | apply pw_below_drewN | apply below_drew1) | exact HB.out)⟩
                    · rw [if_neg c28] at H
                      have c28b0 : (t115 == t117) = false := beq_eq_false_iff_ne.mpr c28
                      have c28b1 : (t115 != t117) = true := bne_iff_ne.mpr c28
                      obtain rfl := Option.some.inj H
                      go_wp2_with (first | ((with_reducible refine gate_callee (f := 36) rfl ?_); refine goesL_ (some 70) rfl rfl Tryz.func36 (by kernel_rfl) rfl #[.string a0] rfl (by (try simp only [List.map_toArray, List.map_cons, List.map_nil]); first | done | rfl | (simp only [List.length_drop, List.length_take]; rfl)) ?_; (with_reducible refine (whole_Neg.calls a0 t110 t111 _ A21.out).mono ?_); rintro e w34 ⟨rfl, hb⟩; refine ⟨_, rfl, ?_⟩; have n0_ := Aside0.mk (below_step (by repeat (first | (with_reducible first | exact HB.out | apply below_alloc | apply pw_below_drewN | apply below_drew1) | exact HB.out)) hb); clear HB; have HB := n0_; clear n0_; (try clear hb); (try clear hb2); (try clear hk); (try clear hi)) | ((with_reducible refine gate_callee (f := 37) rfl ?_); refine goesL_ (some 75) rfl rfl Tryz.func37 (by kernel_rfl) rfl #[.string a0] rfl (by (try simp only [List.map_toArray, List.map_cons, List.map_nil]); first | done | rfl | (simp only [List.length_drop, List.length_take]; rfl)) ?_; (with_reducible refine (ZQ.metrolabref01_Neg.calls kj11 a0 t112 t113 _ A22.out).mono ?_); rintro e w' ⟨rfl, ⟨nd, rfl⟩⟩; refine ⟨_, rfl, ?_⟩) | ((with_reducible refine gate_callee (f := 38) rfl ?_); refine goesL_ (some 81) rfl rfl Tryz.func38 (by kernel_rfl) rfl #[.string a0, .string a1] rfl (by (try simp only [List.map_toArray, List.map_cons, List.map_nil]); first | done | rfl | (simp only [List.length_drop, List.length_take]; rfl)) ?_; (with_reducible refine (whole_Compare.calls a0 a1 t114 t115 _ A23.out).mono ?_); rintro e w35 ⟨rfl, hb⟩; refine ⟨_, rfl, ?_⟩; have n0_ := Aside0.mk (below_step (by repeat (first | (with_reducible first | exact HB.out | apply below_alloc | apply pw_below_drewN | apply below_drew1) | exact HB.out)) hb); clear HB; have HB := n0_; clear n0_; (try clear hb); (try clear hb2); (try clear hk); (try clear hi)) | ((with_reducible refine gate_callee (f := 27) rfl ?_); refine goesL_ (some 87) rfl rfl Tryz.func27 (by kernel_rfl) rfl #[.string a0, .string a1] rfl (by (try simp only [List.map_toArray, List.map_cons, List.map_nil]); first | done | rfl | (simp only [List.length_drop, List.length_take]; rfl)) ?_; (with_reducible refine (ZQ.metrolabref01_Compare.calls kj11 a0 a1 t116 t117 _ A24.out).mono ?_); rintro e w36 ⟨rfl, hb⟩; refine ⟨_, rfl, ?_⟩; have n0_ := Aside0.mk (below_step (by repeat (first | (with_reducible first | exact HB.out | apply below_alloc | apply pw_below_drewN | apply below_drew1) | exact HB.out)) hb); clear HB; have HB := n0_; clear n0_; (try clear hb); (try clear hb2); (try clear hk); (try clear hi)))
                      go_ret
                      exact ⟨by first | rfl | (simp [errW_none, errW_some] <;> rfl) | (simp [*, errW_none, errW_some] <;> rfl), by repeat (first | (with_reducible first | exact HB.out | apply below_alloc | apply pw_below_drewN | apply below_drew1) | exact HB.out)⟩
                  · rw [if_neg c27] at H
                    have c27b0 : (t114 == t116) = false := beq_eq_false_iff_ne.mpr c27
                    have c27b1 : (t114 != t116) = true := bne_iff_ne.mpr c27
                    obtain rfl := Option.some.inj H
                    go_wp2_with (first | ((with_reducible refine gate_callee (f := 36) rfl ?_); refine goesL_ (some 70) rfl rfl Tryz.func36 (by kernel_rfl) rfl #[.string a0] rfl (by (try simp only [List.map_toArray, List.map_cons, List.map_nil]); first | done | rfl | (simp only [List.length_drop, List.length_take]; rfl)) ?_; (with_reducible refine (whole_Neg.calls a0 t110 t111 _ A21.out).mono ?_); rintro e w37 ⟨rfl, hb⟩; refine ⟨_, rfl, ?_⟩; have n0_ := Aside0.mk (below_step (by repeat (first | (with_reducible first | exact HB.out | apply below_alloc | apply pw_below_drewN | apply below_drew1) | exact HB.out)) hb); clear HB; have HB := n0_; clear n0_; (try clear hb); (try clear hb2); (try clear hk); (try clear hi)) | ((with_reducible refine gate_callee (f := 37) rfl ?_); refine goesL_ (some 75) rfl rfl Tryz.func37 (by kernel_rfl) rfl #[.string a0] rfl (by (try simp only [List.map_toArray, List.map_cons, List.map_nil]); first | done | rfl | (simp only [List.length_drop, List.length_take]; rfl)) ?_; (with_reducible refine (ZQ.metrolabref01_Neg.calls kj11 a0 t112 t113 _ A22.out).mono ?_); rintro e w' ⟨rfl, ⟨nd, rfl⟩⟩; refine ⟨_, rfl, ?_⟩) | ((with_reducible refine gate_callee (f := 38) rfl ?_); refine goesL_ (some 81) rfl rfl Tryz.func38 (by kernel_rfl) rfl #[.string a0, .string a1] rfl (by (try simp only [List.map_toArray, List.map_cons, List.map_nil]); first | done | rfl | (simp only [List.length_drop, List.length_take]; rfl)) ?_; (with_reducible refine (whole_Compare.calls a0 a1 t114 t115 _ A23.out).mono ?_); rintro e w38 ⟨rfl, hb⟩; refine ⟨_, rfl, ?_⟩; have n0_ := Aside0.mk (below_step (by repeat (first | (with_reducible first | exact HB.out | apply below_alloc | apply pw_below_drewN | apply below_drew1) | exact HB.out)) hb); clear HB; have HB := n0_; clear n0_; (try clear hb); (try clear hb2); (try clear hk); (try clear hi)) | ((with_reducible refine gate_callee (f := 27) rfl ?_); refine goesL_ (some 87) rfl rfl Tryz.func27 (by kernel_rfl) rfl #[.string a0, .string a1] rfl (by (try simp only [List.map_toArray, List.map_cons, List.map_nil]); first | done | rfl | (simp only [List.length_drop, List.length_take]; rfl)) ?_; (with_reducible refine (ZQ.metrolabref01_Compare.calls kj11 a0 a1 t116 t117 _ A24.out).mono ?_); rintro e w39 ⟨rfl, hb⟩; refine ⟨_, rfl, ?_⟩; have n0_ := Aside0.mk (below_step (by repeat (first | (with_reducible first | exact HB.out | apply below_alloc | apply pw_below_drewN | apply below_drew1) | exact HB.out)) hb); clear HB; have HB := n0_; clear n0_; (try clear hb); (try clear hb2); (try clear hk); (try clear hi)))
                    go_ret
                    exact ⟨by first | rfl | (simp [errW_none, errW_some] <;> rfl) | (simp [*, errW_none, errW_some] <;> rfl), by repeat (first | (with_reducible first | exact HB.out | apply below_alloc | apply pw_below_drewN | apply below_drew1) | exact HB.out)⟩
                · rw [if_neg c26] at H
                  have c26b0 : (t111 == t113) = false := beq_eq_false_iff_ne.mpr c26
                  have c26b1 : (t111 != t113) = true := bne_iff_ne.mpr c26
                  obtain rfl := Option.some.inj H
                  go_wp2_with (first | ((with_reducible refine gate_callee (f := 36) rfl ?_); refine goesL_ (some 70) rfl rfl Tryz.func36 (by kernel_rfl) rfl #[.string a0] rfl (by (try simp only [List.map_toArray, List.map_cons, List.map_nil]); first | done | rfl | (simp only [List.length_drop, List.length_take]; rfl)) ?_; (with_reducible refine (whole_Neg.calls a0 t110 t111 _ A21.out).mono ?_); rintro e w40 ⟨rfl, hb⟩; refine ⟨_, rfl, ?_⟩; have n0_ := Aside0.mk (below_step (by repeat (first | (with_reducible first | exact HB.out | apply below_alloc | apply pw_below_drewN | apply below_drew1) | exact HB.out)) hb); clear HB; have HB := n0_; clear n0_; (try clear hb); (try clear hb2); (try clear hk); (try clear hi)) | ((with_reducible refine gate_callee (f := 37) rfl ?_); refine goesL_ (some 75) rfl rfl Tryz.func37 (by kernel_rfl) rfl #[.string a0] rfl (by (try simp only [List.map_toArray, List.map_cons, List.map_nil]); first | done | rfl | (simp only [List.length_drop, List.length_take]; rfl)) ?_; (with_reducible refine (ZQ.metrolabref01_Neg.calls kj11 a0 t112 t113 _ A22.out).mono ?_); rintro e w' ⟨rfl, ⟨nd, rfl⟩⟩; refine ⟨_, rfl, ?_⟩) | ((with_reducible refine gate_callee (f := 38) rfl ?_); refine goesL_ (some 81) rfl rfl Tryz.func38 (by kernel_rfl) rfl #[.string a0, .string a1] rfl (by (try simp only [List.map_toArray, List.map_cons, List.map_nil]); first | done | rfl | (simp only [List.length_drop, List.length_take]; rfl)) ?_; (with_reducible refine (whole_Compare.calls a0 a1 t114 t115 _ A23.out).mono ?_); rintro e w41 ⟨rfl, hb⟩; refine ⟨_, rfl, ?_⟩; have n0_ := Aside0.mk (below_step (by repeat (first | (with_reducible first | exact HB.out | apply below_alloc | apply pw_below_drewN | apply below_drew1) | exact HB.out)) hb); clear HB; have HB := n0_; clear n0_; (try clear hb); (try clear hb2); (try clear hk); (try clear hi)) | ((with_reducible refine gate_callee (f := 27) rfl ?_); refine goesL_ (some 87) rfl rfl Tryz.func27 (by kernel_rfl) rfl #[.string a0, .string a1] rfl (by (try simp only [List.map_toArray, List.map_cons, List.map_nil]); first | done | rfl | (simp only [List.length_drop, List.length_take]; rfl)) ?_; (with_reducible refine (ZQ.metrolabref01_Compare.calls kj11 a0 a1 t116 t117 _ A24.out).mono ?_); rintro e w42 ⟨rfl, hb⟩; refine ⟨_, rfl, ?_⟩; have n0_ := Aside0.mk (below_step (by repeat (first | (with_reducible first | exact HB.out | apply below_alloc | apply pw_below_drewN | apply below_drew1) | exact HB.out)) hb); clear HB; have HB := n0_; clear n0_; (try clear hb); (try clear hb2); (try clear hk); (try clear hi)))
                  go_ret
                  exact ⟨by first | rfl | (simp [errW_none, errW_some] <;> rfl) | (simp [*, errW_none, errW_some] <;> rfl), by repeat (first | (with_reducible first | exact HB.out | apply below_alloc | apply pw_below_drewN | apply below_drew1) | exact HB.out)⟩
              · rw [if_neg c25] at H
                have c25b0 : (t110.toList == t112.toList) = false := beq_eq_false_iff_ne.mpr c25
                have c25b1 : (t110.toList != t112.toList) = true := bne_iff_ne.mpr c25
                obtain rfl := Option.some.inj H
                go_wp2_with (first | ((with_reducible refine gate_callee (f := 36) rfl ?_); refine goesL_ (some 70) rfl rfl Tryz.func36 (by kernel_rfl) rfl #[.string a0] rfl (by (try simp only [List.map_toArray, List.map_cons, List.map_nil]); first | done | rfl | (simp only [List.length_drop, List.length_take]; rfl)) ?_; (with_reducible refine (whole_Neg.calls a0 t110 t111 _ A21.out).mono ?_); rintro e w43 ⟨rfl, hb⟩; refine ⟨_, rfl, ?_⟩; have n0_ := Aside0.mk (below_step (by repeat (first | (with_reducible first | exact HB.out | apply below_alloc | apply pw_below_drewN | apply below_drew1) | exact HB.out)) hb); clear HB; have HB := n0_; clear n0_; (try clear hb); (try clear hb2); (try clear hk); (try clear hi)) | ((with_reducible refine gate_callee (f := 37) rfl ?_); refine goesL_ (some 75) rfl rfl Tryz.func37 (by kernel_rfl) rfl #[.string a0] rfl (by (try simp only [List.map_toArray, List.map_cons, List.map_nil]); first | done | rfl | (simp only [List.length_drop, List.length_take]; rfl)) ?_; (with_reducible refine (ZQ.metrolabref01_Neg.calls kj11 a0 t112 t113 _ A22.out).mono ?_); rintro e w' ⟨rfl, ⟨nd, rfl⟩⟩; refine ⟨_, rfl, ?_⟩) | ((with_reducible refine gate_callee (f := 38) rfl ?_); refine goesL_ (some 81) rfl rfl Tryz.func38 (by kernel_rfl) rfl #[.string a0, .string a1] rfl (by (try simp only [List.map_toArray, List.map_cons, List.map_nil]); first | done | rfl | (simp only [List.length_drop, List.length_take]; rfl)) ?_; (with_reducible refine (whole_Compare.calls a0 a1 t114 t115 _ A23.out).mono ?_); rintro e w44 ⟨rfl, hb⟩; refine ⟨_, rfl, ?_⟩; have n0_ := Aside0.mk (below_step (by repeat (first | (with_reducible first | exact HB.out | apply below_alloc | apply pw_below_drewN | apply below_drew1) | exact HB.out)) hb); clear HB; have HB := n0_; clear n0_; (try clear hb); (try clear hb2); (try clear hk); (try clear hi)) | ((with_reducible refine gate_callee (f := 27) rfl ?_); refine goesL_ (some 87) rfl rfl Tryz.func27 (by kernel_rfl) rfl #[.string a0, .string a1] rfl (by (try simp only [List.map_toArray, List.map_cons, List.map_nil]); first | done | rfl | (simp only [List.length_drop, List.length_take]; rfl)) ?_; (with_reducible refine (ZQ.metrolabref01_Compare.calls kj11 a0 a1 t116 t117 _ A24.out).mono ?_); rintro e w45 ⟨rfl, hb⟩; refine ⟨_, rfl, ?_⟩; have n0_ := Aside0.mk (below_step (by repeat (first | (with_reducible first | exact HB.out | apply below_alloc | apply pw_below_drewN | apply below_drew1) | exact HB.out)) hb); clear HB; have HB := n0_; clear n0_; (try clear hb); (try clear hb2); (try clear hk); (try clear hi)))
                go_ret
                exact ⟨by first | rfl | (simp [errW_none, errW_some] <;> rfl) | (simp [*, errW_none, errW_some] <;> rfl), by repeat (first | (with_reducible first | exact HB.out | apply below_alloc | apply pw_below_drewN | apply below_drew1) | exact HB.out)⟩

end Go.Proofs.YtpkfnclbcmnckaaGreatDoor.ZLA
