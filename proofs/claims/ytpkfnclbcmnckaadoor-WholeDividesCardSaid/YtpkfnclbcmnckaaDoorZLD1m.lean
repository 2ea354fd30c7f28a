import Derived.Test.YtpkfnclbcmnckaaDoorProg
import Derived.Below
import Derived.Deep.Draws
import Derived.Deep.AppendLies
import Derived.Maps.AppendAt
import Derived.OwnWalk
import Derived.Laws.BytesArg
import Derived.Laws.MakeOwn
import Derived.Laws.OwnMore
import Derived.Deep.OwnRows
import Derived.Tactics
import Derived.Lib.ConvBytes
import Derived.Laws.Slices
import Derived.WalkKit
import Derived.KernelRfl
import Derived.RowKit3
import Derived.Deep.LoopGhost
import Derived.Deep.QuietTactic
import Derived.BigQuiet
import Derived.WideLaws
import Derived.Deep.DeepCutAuto
import Derived.Deep.CutBlock
import Derived.Deep.RegionHeld3
import Derived.Laws.Rows
import Derived.Lib.AppendStr
import Derived.ArgAppend
import Derived.Laws.IdiomCopy
import Derived.OrdersHeld
import Derived.Laws.BitsLemmas
import Derived.RowKit
import Derived.Test.YtpkfnclbcmnckaaDoorZP1m
import Derived.Test.YtpkfnclbcmnckaaDoorWWords
import Derived.Test.YtpkfnclbcmnckaaDoorWLast
import Derived.Test.YtpkfnclbcmnckaaDoorWTab
import Derived.Test.YtpkfnclbcmnckaaDoorWFour
import Derived.Test.YtpkfnclbcmnckaaDoorWQPut
import Derived.Test.YtpkfnclbcmnckaaDoorWApart
import Derived.Test.YtpkfnclbcmnckaaDoorWArr
import Derived.Test.YtpkfnclbcmnckaaDoorWZeros
import Derived.Test.YtpkfnclbcmnckaaDoorWFoot
import Derived.Test.YtpkfnclbcmnckaaDoorWKept
import Derived.Test.YtpkfnclbcmnckaaDoorWShare
import Derived.Test.YtpkfnclbcmnckaaDoorWN
import Derived.Test.YtpkfnclbcmnckaaDoorWFootNe
import Derived.Test.YtpkfnclbcmnckaaDoorWAt
import Derived.Test.YtpkfnclbcmnckaaDoorWEqStruct
import Derived.Test.YtpkfnclbcmnckaaDoorWRepsOne
import Derived.Test.YtpkfnclbcmnckaaDoorWInv
import Derived.Test.YtpkfnclbcmnckaaDoorWInvWords
import Derived.Test.YtpkfnclbcmnckaaDoorWGuard
import Derived.Test.YtpkfnclbcmnckaaDoorWNEv
import Derived.Test.YtpkfnclbcmnckaaDoorWMore
-- written by the session's px.py out of the translation; Lean checks it.
namespace Go.Proofs.YtpkfnclbcmnckaaDoor.ZLD
open Go.RowKit Go.Proofs.YtpkfnclbcmnckaaDoorW.PrintWords Go.Proofs.YtpkfnclbcmnckaaDoorW.PrintLast Go.Proofs.YtpkfnclbcmnckaaDoorW.PrintMore
attribute [local go_sem] max2_int min2_int max_two min_two max_three min_three max_four min_four   -- for this text's walks alone
set_option linter.unusedVariables false
set_option linter.unusedSimpArgs false



def errW : Option Int → Value
  | none => .nilIface
  | some c => .iface 0 (.int .i64 c)
theorem errW_none : errW none = .nilIface := rfl
theorem errW_some (c : Int) : errW (some c) = .iface 0 (.int .i64 c) := rfl

theorem info22 : (Tryd.prog.info? 22).map (fun i => (i.zero, i.size, i.bytes)) = some (some (.string ⟨#[]⟩), 1, 16) := by kernel_rfl
-- the values' own types

end Go.Proofs.YtpkfnclbcmnckaaDoor.ZLD
-- written by the session's px.py out of the translation; Lean checks it.
namespace Go.Proofs.YtpkfnclbcmnckaaDoor.ZLD
open Go.RowKit Go.Proofs.YtpkfnclbcmnckaaDoorW.PrintWords Go.Proofs.YtpkfnclbcmnckaaDoorW.PrintLast Go.Proofs.YtpkfnclbcmnckaaDoorW.PrintMore
attribute [local go_sem] max2_int min2_int max_two min_two max_three min_three max_four min_four   -- for this text's walks alone
set_option linter.unusedVariables false
set_option linter.unusedSimpArgs false

/-! ### metrolablaw01_WholeDivides: function 5 -/
mutual
def metrolablaw01_WholeDivides.j0 : Nat → ByteArray → ByteArray → Bool → Option (Bool)
  | 0, _, _, _ => none
  | k + 1, x0, x1, x29 => if x29 = true then ((awake.f).bind fun t105 => (some t105)) else ((whole_Mul.f x0 x1).bind fun bt106 => ((whole_Quo.f bt106.1 x1).bind fun bt108 => ((whole_Rem.f bt106.1 x1).bind fun bt110 => ((whole_Quo.f x0 x1).bind fun bt112 => ((whole_Rem.f x0 x1).bind fun bt114 => (if (wrap64 ((wrap64 ((wrap64 ((wrap64 (bt106.2 + bt108.2)) + bt110.2)) + bt112.2)) + bt114.2)) = 0 then (if bt108.1.toList = x0.toList then (metrolablaw01_WholeDivides.j1 k x0 x1 bt112.1 bt114.1 (bt110.1.toList != ([48] : List UInt8))) else (metrolablaw01_WholeDivides.j1 k x0 x1 bt112.1 bt114.1 true)) else (metrolablaw01_WholeDivides.j1 k x0 x1 bt112.1 bt114.1 true)))))))
def metrolablaw01_WholeDivides.j1 : Nat → ByteArray → ByteArray → ByteArray → ByteArray → Bool → Option (Bool)
  | 0, _, _, _, _, _ => none
  | k + 1, x0, x1, x11, x13, x79 => if x79 = true then (some false) else ((whole_Mul.f x11 x1).bind fun bt116 => ((whole_Add.f bt116.1 x13).bind fun bt118 => ((whole_Sign.f x13).bind fun bt120 => ((whole_Sign.f x1).bind fun bt122 => ((whole_Sub.f x1 x13).bind fun bt124 => ((whole_Sign.f bt124.1).bind fun bt126 => (if bt116.2 = 0 then (if (wrap64 ((wrap64 ((wrap64 ((wrap64 (bt118.2 + bt120.2)) + bt122.2)) + bt124.2)) + bt126.2)) = 0 then (if bt118.1.toList = x0.toList then (if bt120.1 = 0 then (if bt126.1 = bt122.1 then ((awake.f).bind fun t128 => (some t128)) else (some false)) else (if bt120.1 = bt122.1 then (if bt126.1 = bt122.1 then ((awake.f).bind fun t129 => (some t129)) else (some false)) else (some false))) else (some false)) else (some false)) else (some false))))))))
end
def metrolablaw01_WholeDivides.f (k : Nat) (a0 : ByteArray) (a1 : ByteArray) : Option (Bool) := (ZP.metrolablaw01_short.f k (([a0, a1] : List ByteArray))).bind fun t104 => (if t104 = true then (metrolablaw01_WholeDivides.j0 k a0 a1 (a1.toList == ([48] : List UInt8))) else (metrolablaw01_WholeDivides.j0 k a0 a1 true))
theorem metrolablaw01_WholeDivides.mono_l : ∀ k, (∀ y0 y1 y2, LeO (metrolablaw01_WholeDivides.j0 k y0 y1 y2) (metrolablaw01_WholeDivides.j0 (k + 1) y0 y1 y2)) ∧ (∀ y0 y1 y2 y3 y4, LeO (metrolablaw01_WholeDivides.j1 k y0 y1 y2 y3 y4) (metrolablaw01_WholeDivides.j1 (k + 1) y0 y1 y2 y3 y4))
  | 0 => ⟨fun _ _ _ r h => by simp [metrolablaw01_WholeDivides.j0] at h, fun _ _ _ _ _ r h => by simp [metrolablaw01_WholeDivides.j1] at h⟩
  | k + 1 => by
    obtain ⟨ih0, ih1⟩ := metrolablaw01_WholeDivides.mono_l k
    refine ⟨?_, ?_⟩
    · intro y0 y1 y2
      unfold metrolablaw01_WholeDivides.j0
      repeat' first
      | (with_reducible exact ih0 _ _ _)
      | (with_reducible exact ih1 _ _ _ _ _)
      | (with_reducible exact ZP.metrolablaw01_short.mono _ _)
      | (with_reducible exact LeO.refl _)
      | (with_reducible exact LeO.none _)
      | (with_reducible refine LeO.ite ?_ ?_)
      | (with_reducible refine LeO.bind ?_ (fun _ => ?_))
      | exact ih0 _ _ _
      | exact ih1 _ _ _ _ _
      | exact ZP.metrolablaw01_short.mono _ _
      | exact LeO.none _
      | refine LeO.ite ?_ ?_
      | refine LeO.bind ?_ (fun _ => ?_)
    · intro y0 y1 y2 y3 y4
      unfold metrolablaw01_WholeDivides.j1
      repeat' first
      | (with_reducible exact ih0 _ _ _)
      | (with_reducible exact ih1 _ _ _ _ _)
      | (with_reducible exact ZP.metrolablaw01_short.mono _ _)
      | (with_reducible exact LeO.refl _)
      | (with_reducible exact LeO.none _)
      | (with_reducible refine LeO.ite ?_ ?_)
      | (with_reducible refine LeO.bind ?_ (fun _ => ?_))
      | exact ih0 _ _ _
      | exact ih1 _ _ _ _ _
      | exact ZP.metrolablaw01_short.mono _ _
      | exact LeO.none _
      | refine LeO.ite ?_ ?_
      | refine LeO.bind ?_ (fun _ => ?_)
theorem metrolablaw01_WholeDivides.mono : ∀ a0 a1 k, LeO (metrolablaw01_WholeDivides.f k a0 a1) (metrolablaw01_WholeDivides.f (k + 1) a0 a1) := by
  intro a0 a1 k
  obtain ⟨ih0, ih1⟩ := metrolablaw01_WholeDivides.mono_l k
  unfold metrolablaw01_WholeDivides.f
  repeat' first
      | (with_reducible exact ih0 _ _ _)
      | (with_reducible exact ih1 _ _ _ _ _)
      | (with_reducible exact ZP.metrolablaw01_short.mono _ _)
      | (with_reducible exact LeO.refl _)
      | (with_reducible exact LeO.none _)
      | (with_reducible refine LeO.ite ?_ ?_)
      | (with_reducible refine LeO.bind ?_ (fun _ => ?_))
      | exact ih0 _ _ _
      | exact ih1 _ _ _ _ _
      | exact ZP.metrolablaw01_short.mono _ _
      | exact LeO.none _
      | refine LeO.ite ?_ ?_
      | refine LeO.bind ?_ (fun _ => ?_)
set_option maxHeartbeats 8000000 in
set_option maxRecDepth 100000 in
theorem metrolablaw01_WholeDivides.calls (k : Nat) (a0 : ByteArray) (a1 : ByteArray) (r : Bool) (w : World) (h : metrolablaw01_WholeDivides.f k a0 a1 = some r) (HE_ : Env w) :
    Calls Tryd.prog 5 #[.string a0, .string a1] w fun e w' => e = .returned (.bool r) ∧ Below w.heap.size w w' := by
  have ENV0 := Aside0.mk HE_
  clear HE_
  have HB := Aside0.mk (Below.refl w.heap.size w)
  have H : ((ZP.metrolablaw01_short.f k (([a0, a1] : List ByteArray))).bind fun t104 => (if t104 = true then (metrolablaw01_WholeDivides.j0 k a0 a1 (a1.toList == ([48] : List UInt8))) else (metrolablaw01_WholeDivides.j0 k a0 a1 true))) = some r := h
  clear h
  have HC3 := Aside0.mk H
  clear H
  go_enter Tryd.func5, Tryd.ntmps5
  go_upto_region 1 with (fail)
  go_cut [29] (fun v29 wc => ∃ (kq : Nat) (x29_2 : Bool), v29 = .bool x29_2 ∧ Aside0 (metrolablaw01_WholeDivides.j0 kq a0 a1 x29_2 = some r) ∧ Aside0 (kq ≤ k) ∧ Aside0 (Below w.heap.size w wc))
  case first =>
    have H := HC3.out
    clear HC3
    obtain ⟨y101, hy101⟩ : ∃ y_ : List ByteArray, y_ = (([a0, a1] : List ByteArray)) := ⟨_, rfl⟩
    replace H : ((ZP.metrolablaw01_short.f k y101).bind fun t104 => (if t104 = true then (metrolablaw01_WholeDivides.j0 k a0 a1 (a1.toList == ([48] : List UInt8))) else (metrolablaw01_WholeDivides.j0 k a0 a1 true))) = some r := by first | (rw [hy101]; with_reducible exact H) | (have H2_ := (Option.bind_some _ _).symm.trans H; rw [hy101]; with_reducible exact H2_) | (have H2_ := (Option.bind_some _ _).symm.trans H; with_reducible exact H2_) | with_reducible exact H | (rw [hy101]; exact H) | exact H
    have Ny101 := Aside0.mk hy101
    clear hy101
    replace H := Option.bind_eq_some_iff.mp H
    obtain ⟨t104, A40, H⟩ := H
    replace H : (if t104 = true then (metrolablaw01_WholeDivides.j0 k a0 a1 (a1.toList == ([48] : List UInt8))) else (metrolablaw01_WholeDivides.j0 k a0 a1 true)) = some r := H
    have A4 := Aside0.mk A40
    clear A40
    by_cases c5 : t104 = true
    · subst c5
      have H1 : (metrolablaw01_WholeDivides.j0 k a0 a1 (a1.toList == ([48] : List UInt8))) = some r := by rw [if_pos rfl] at H; exact H
      clear H
      have H := H1
      clear H1
      have H' := Aside0.mk H
      clear H
      go_wp2_with (first | ((with_reducible refine gate_dst (N := 23) rfl ?_); refine Kd.R_lit Kd.string _ 22 ?hg (N := 23) ?hd (xs := ([a0, a1] : List ByteArray)) (inner := [.string a0, .string a1]) (ok := fun _ => True) (okp := fun _ => True) ?hr ?hp (fun _ hk => hk) trivial (Below.refl _ _) (Nat.le_refl _) (by simp) ?_; (case hd => rfl); (case hg => rfl); (case hr => first | (go_simp; done) | (go_simp; rfl)); (case hp => exact (Reps.one (show Kd.M Kd.string _ _ _ a0 [.string a0] from rfl) (Reps.one (show Kd.M Kd.string _ _ _ a1 [.string a1] from rfl) (Reps.none _ _)))); intro v102 w6 ho7 hb hg_ hnew_; clear hg_ hnew_; (first | rw [← Ny101.out] at ho7 | (simp only [Int.reduceToNat] at ho7; rw [← Ny101.out] at ho7)); have n0_ := Aside0.mk (Kd.R_lower ho7 (below_size (by repeat (first | (with_reducible first | exact HB.out | apply below_alloc | apply pw_below_drewN | apply below_drew1) | exact HB.out)))); have n1_ := Aside0.mk (below_step (by repeat (first | (with_reducible first | exact HB.out | apply below_alloc | apply pw_below_drewN | apply below_drew1) | exact HB.out)) hb); clear HB; have HO103 := n0_; have HB := n1_; clear n0_ n1_; clear hb ho7; obtain ⟨Ao8, co8, eo8⟩ := Kd.R_slice HO103.out; subst eo8) | ((with_reducible refine gate_callee (f := 7) rfl ?_); refine goesL_ (some 24) rfl rfl Tryd.func7 (by kernel_rfl) rfl #[.slice Ao8 y101.length co8] rfl (by (try simp only [List.map_toArray, List.map_cons, List.map_nil]); first | done | rfl | (simp only [List.length_drop, List.length_take]; rfl)) ?_; (with_reducible refine (ZP.metrolablaw01_short.calls k _ _ y101 true _ ?side1 ?side2 A4.out).mono ?_); (case side1 => repeat (first | exact (Kd.R_reads' HO103.out).2.2 | (with_reducible refine Kd.C_alloc ?_ _) | (with_reducible refine Kd.C_drewN ?_ _) | (with_reducible refine Kd.C_drew ?_))); (case side2 => exact (Kd.R_reads' HO103.out).2.1); rintro e w' ⟨rfl, ⟨nd, rfl⟩⟩; refine ⟨_, rfl, ?_⟩))
      go_meet
      case rel => exact ⟨_, ((a1.toList == ([48] : List UInt8))), (by first | rfl | exact congrArg Value.bool (not_empty _) | exact congrArg Value.bool (is_empty _) | (simp; done) | (simp [*]; done)), H', ⟨by first | omega | exact Nat.le_refl _⟩, ⟨by repeat (first | (with_reducible first | exact HB.out | apply below_alloc | apply pw_below_drewN | apply below_drew1) | exact HB.out)⟩⟩
    · replace c5 := Bool.eq_false_iff.mpr c5
      subst c5
      have H1 : (metrolablaw01_WholeDivides.j0 k a0 a1 true) = some r := by rw [if_neg (show ¬ (false = true) by decide)] at H; exact H
      clear H
      have H := H1
      clear H1
      have H' := Aside0.mk H
      clear H
      go_wp2_with (first | ((with_reducible refine gate_dst (N := 23) rfl ?_); refine Kd.R_lit Kd.string _ 22 ?hg (N := 23) ?hd (xs := ([a0, a1] : List ByteArray)) (inner := [.string a0, .string a1]) (ok := fun _ => True) (okp := fun _ => True) ?hr ?hp (fun _ hk => hk) trivial (Below.refl _ _) (Nat.le_refl _) (by simp) ?_; (case hd => rfl); (case hg => rfl); (case hr => first | (go_simp; done) | (go_simp; rfl)); (case hp => exact (Reps.one (show Kd.M Kd.string _ _ _ a0 [.string a0] from rfl) (Reps.one (show Kd.M Kd.string _ _ _ a1 [.string a1] from rfl) (Reps.none _ _)))); intro v102 w9 ho10 hb hg_ hnew_; clear hg_ hnew_; (first | rw [← Ny101.out] at ho10 | (simp only [Int.reduceToNat] at ho10; rw [← Ny101.out] at ho10)); have n0_ := Aside0.mk (Kd.R_lower ho10 (below_size (by repeat (first | (with_reducible first | exact HB.out | apply below_alloc | apply pw_below_drewN | apply below_drew1) | exact HB.out)))); have n1_ := Aside0.mk (below_step (by repeat (first | (with_reducible first | exact HB.out | apply below_alloc | apply pw_below_drewN | apply below_drew1) | exact HB.out)) hb); clear HB; have HO103 := n0_; have HB := n1_; clear n0_ n1_; clear hb ho10; obtain ⟨Ao11, co11, eo11⟩ := Kd.R_slice HO103.out; subst eo11) | ((with_reducible refine gate_callee (f := 7) rfl ?_); refine goesL_ (some 24) rfl rfl Tryd.func7 (by kernel_rfl) rfl #[.slice Ao11 y101.length co11] rfl (by (try simp only [List.map_toArray, List.map_cons, List.map_nil]); first | done | rfl | (simp only [List.length_drop, List.length_take]; rfl)) ?_; (with_reducible refine (ZP.metrolablaw01_short.calls k _ _ y101 false _ ?side1 ?side2 A4.out).mono ?_); (case side1 => repeat (first | exact (Kd.R_reads' HO103.out).2.2 | (with_reducible refine Kd.C_alloc ?_ _) | (with_reducible refine Kd.C_drewN ?_ _) | (with_reducible refine Kd.C_drew ?_))); (case side2 => exact (Kd.R_reads' HO103.out).2.1); rintro e w' ⟨rfl, ⟨nd, rfl⟩⟩; refine ⟨_, rfl, ?_⟩))
      go_meet
      case rel => exact ⟨_, (true), (by first | rfl | exact congrArg Value.bool (not_empty _) | exact congrArg Value.bool (is_empty _) | (simp; done) | (simp [*]; done)), H', ⟨by first | omega | exact Nat.le_refl _⟩, ⟨by repeat (first | (with_reducible first | exact HB.out | apply below_alloc | apply pw_below_drewN | apply below_drew1) | exact HB.out)⟩⟩
  case rest =>
    clear HC3
    try clear p2
    try clear c5
    try clear c7
    obtain ⟨kq, x29_2, rfl, HA, HJ2, HB⟩ := hcut
    cases kq with
    | zero => exact absurd HA.out (by simp [metrolablaw01_WholeDivides.j0])
    | succ kj2 =>
      have H := HA.out
      clear HA
      simp only [metrolablaw01_WholeDivides.j0] at H
      by_cases c12 : x29_2 = true
      · subst c12
        have H1 : ((awake.f).bind fun t105 => (some t105)) = some r := by rw [if_pos rfl] at H; exact H
        clear H
        have H := H1
        clear H1
        replace H := Option.bind_eq_some_iff.mp H
        obtain ⟨t105, A130, H⟩ := H
        replace H : (some t105) = some r := H
        have A13 := Aside0.mk A130
        clear A130
        obtain rfl := Option.some.inj H
        go_wp2_with (first | ((with_reducible refine gate_callee (f := 8) rfl ?_); refine goesL_ (some 30) rfl rfl Tryd.func8 (by kernel_rfl) rfl #[] rfl (by (try simp only [List.map_toArray, List.map_cons, List.map_nil]); first | done | rfl | (simp only [List.length_drop, List.length_take]; rfl)) ?_; (with_reducible refine (awake.calls  t105 _ A13.out (Env.below ENV0.out (by repeat (first | (with_reducible first | exact HB.out | apply below_alloc | apply pw_below_drewN | apply below_drew1) | exact HB.out)))).mono ?_); rintro e w14 ⟨rfl, hb⟩; refine ⟨_, rfl, ?_⟩; have n0_ := Aside0.mk (below_step (by repeat (first | (with_reducible first | exact HB.out | apply below_alloc | apply pw_below_drewN | apply below_drew1) | exact HB.out)) hb); clear HB; have HB := n0_; clear n0_; (try clear hb); (try clear hb2); (try clear hk); (try clear hi)))
        go_ret
        exact ⟨by first | rfl | (simp [errW_none, errW_some] <;> rfl) | (simp [*, errW_none, errW_some] <;> rfl), by repeat (first | (with_reducible first | exact HB.out | apply below_alloc | apply pw_below_drewN | apply below_drew1) | exact HB.out)⟩
      · replace c12 := Bool.eq_false_iff.mpr c12
        subst c12
        have H1 : ((whole_Mul.f a0 a1).bind fun bt106 => ((whole_Quo.f bt106.1 a1).bind fun bt108 => ((whole_Rem.f bt106.1 a1).bind fun bt110 => ((whole_Quo.f a0 a1).bind fun bt112 => ((whole_Rem.f a0 a1).bind fun bt114 => (if (wrap64 ((wrap64 ((wrap64 ((wrap64 (bt106.2 + bt108.2)) + bt110.2)) + bt112.2)) + bt114.2)) = 0 then (if bt108.1.toList = a0.toList then (metrolablaw01_WholeDivides.j1 kj2 a0 a1 bt112.1 bt114.1 (bt110.1.toList != ([48] : List UInt8))) else (metrolablaw01_WholeDivides.j1 kj2 a0 a1 bt112.1 bt114.1 true)) else (metrolablaw01_WholeDivides.j1 kj2 a0 a1 bt112.1 bt114.1 true))))))) = some r := by rw [if_neg (show ¬ (false = true) by decide)] at H; exact H
        clear H
        have H := H1
        clear H1
        replace H := Option.bind_eq_some_iff.mp H
        obtain ⟨⟨t106, t107⟩, A150, H⟩ := H
        replace H : ((whole_Quo.f t106 a1).bind fun bt108 => ((whole_Rem.f t106 a1).bind fun bt110 => ((whole_Quo.f a0 a1).bind fun bt112 => ((whole_Rem.f a0 a1).bind fun bt114 => (if (wrap64 ((wrap64 ((wrap64 ((wrap64 (t107 + bt108.2)) + bt110.2)) + bt112.2)) + bt114.2)) = 0 then (if bt108.1.toList = a0.toList then (metrolablaw01_WholeDivides.j1 kj2 a0 a1 bt112.1 bt114.1 (bt110.1.toList != ([48] : List UInt8))) else (metrolablaw01_WholeDivides.j1 kj2 a0 a1 bt112.1 bt114.1 true)) else (metrolablaw01_WholeDivides.j1 kj2 a0 a1 bt112.1 bt114.1 true)))))) = some r := H
        have A15 := Aside0.mk A150
        clear A150
        replace H := Option.bind_eq_some_iff.mp H
        obtain ⟨⟨t108, t109⟩, A160, H⟩ := H
        replace H : ((whole_Rem.f t106 a1).bind fun bt110 => ((whole_Quo.f a0 a1).bind fun bt112 => ((whole_Rem.f a0 a1).bind fun bt114 => (if (wrap64 ((wrap64 ((wrap64 ((wrap64 (t107 + t109)) + bt110.2)) + bt112.2)) + bt114.2)) = 0 then (if t108.toList = a0.toList then (metrolablaw01_WholeDivides.j1 kj2 a0 a1 bt112.1 bt114.1 (bt110.1.toList != ([48] : List UInt8))) else (metrolablaw01_WholeDivides.j1 kj2 a0 a1 bt112.1 bt114.1 true)) else (metrolablaw01_WholeDivides.j1 kj2 a0 a1 bt112.1 bt114.1 true))))) = some r := H
        have A16 := Aside0.mk A160
        clear A160
        replace H := Option.bind_eq_some_iff.mp H
        obtain ⟨⟨t110, t111⟩, A170, H⟩ := H
        replace H : ((whole_Quo.f a0 a1).bind fun bt112 => ((whole_Rem.f a0 a1).bind fun bt114 => (if (wrap64 ((wrap64 ((wrap64 ((wrap64 (t107 + t109)) + t111)) + bt112.2)) + bt114.2)) = 0 then (if t108.toList = a0.toList then (metrolablaw01_WholeDivides.j1 kj2 a0 a1 bt112.1 bt114.1 (t110.toList != ([48] : List UInt8))) else (metrolablaw01_WholeDivides.j1 kj2 a0 a1 bt112.1 bt114.1 true)) else (metrolablaw01_WholeDivides.j1 kj2 a0 a1 bt112.1 bt114.1 true)))) = some r := H
        have A17 := Aside0.mk A170
        clear A170
        replace H := Option.bind_eq_some_iff.mp H
        obtain ⟨⟨t112, t113⟩, A180, H⟩ := H
        replace H : ((whole_Rem.f a0 a1).bind fun bt114 => (if (wrap64 ((wrap64 ((wrap64 ((wrap64 (t107 + t109)) + t111)) + t113)) + bt114.2)) = 0 then (if t108.toList = a0.toList then (metrolablaw01_WholeDivides.j1 kj2 a0 a1 t112 bt114.1 (t110.toList != ([48] : List UInt8))) else (metrolablaw01_WholeDivides.j1 kj2 a0 a1 t112 bt114.1 true)) else (metrolablaw01_WholeDivides.j1 kj2 a0 a1 t112 bt114.1 true))) = some r := H
        have A18 := Aside0.mk A180
        clear A180
        replace H := Option.bind_eq_some_iff.mp H
        obtain ⟨⟨t114, t115⟩, A190, H⟩ := H
        replace H : (if (wrap64 ((wrap64 ((wrap64 ((wrap64 (t107 + t109)) + t111)) + t113)) + t115)) = 0 then (if t108.toList = a0.toList then (metrolablaw01_WholeDivides.j1 kj2 a0 a1 t112 t114 (t110.toList != ([48] : List UInt8))) else (metrolablaw01_WholeDivides.j1 kj2 a0 a1 t112 t114 true)) else (metrolablaw01_WholeDivides.j1 kj2 a0 a1 t112 t114 true)) = some r := H
        have A19 := Aside0.mk A190
        clear A190
        have HC20 := Aside0.mk H
        clear H
        go_upto_region 8 with (first | ((with_reducible refine gate_callee (f := 13) rfl ?_); refine goesL_ (some 34) rfl rfl Tryd.func13 (by kernel_rfl) rfl #[.string a0, .string a1] rfl (by (try simp only [List.map_toArray, List.map_cons, List.map_nil]); first | done | rfl | (simp only [List.length_drop, List.length_take]; rfl)) ?_; (with_reducible refine (whole_Mul.calls a0 a1 t106 t107 _ A15.out (Env.below ENV0.out (by repeat (first | (with_reducible first | exact HB.out | apply below_alloc | apply pw_below_drewN | apply below_drew1) | exact HB.out)))).mono ?_); rintro e w21 ⟨rfl, hb⟩; refine ⟨_, rfl, ?_⟩; have n0_ := Aside0.mk (below_step (by repeat (first | (with_reducible first | exact HB.out | apply below_alloc | apply pw_below_drewN | apply below_drew1) | exact HB.out)) hb); clear HB; have HB := n0_; clear n0_; (try clear hb); (try clear hb2); (try clear hk); (try clear hi)) | ((with_reducible refine gate_callee (f := 18) rfl ?_); refine goesL_ (some 40) rfl rfl Tryd.func18 (by kernel_rfl) rfl #[.string t106, .string a1] rfl (by (try simp only [List.map_toArray, List.map_cons, List.map_nil]); first | done | rfl | (simp only [List.length_drop, List.length_take]; rfl)) ?_; (with_reducible refine (whole_Quo.calls t106 a1 t108 t109 _ A16.out (Env.below ENV0.out (by repeat (first | (with_reducible first | exact HB.out | apply below_alloc | apply pw_below_drewN | apply below_drew1) | exact HB.out)))).mono ?_); rintro e w22 ⟨rfl, hb⟩; refine ⟨_, rfl, ?_⟩; have n0_ := Aside0.mk (below_step (by repeat (first | (with_reducible first | exact HB.out | apply below_alloc | apply pw_below_drewN | apply below_drew1) | exact HB.out)) hb); clear HB; have HB := n0_; clear n0_; (try clear hb); (try clear hb2); (try clear hk); (try clear hi)) | ((with_reducible refine gate_callee (f := 15) rfl ?_); refine goesL_ (some 46) rfl rfl Tryd.func15 (by kernel_rfl) rfl #[.string t106, .string a1] rfl (by (try simp only [List.map_toArray, List.map_cons, List.map_nil]); first | done | rfl | (simp only [List.length_drop, List.length_take]; rfl)) ?_; (with_reducible refine (whole_Rem.calls t106 a1 t110 t111 _ A17.out (Env.below ENV0.out (by repeat (first | (with_reducible first | exact HB.out | apply below_alloc | apply pw_below_drewN | apply below_drew1) | exact HB.out)))).mono ?_); rintro e w23 ⟨rfl, hb⟩; refine ⟨_, rfl, ?_⟩; have n0_ := Aside0.mk (below_step (by repeat (first | (with_reducible first | exact HB.out | apply below_alloc | apply pw_below_drewN | apply below_drew1) | exact HB.out)) hb); clear HB; have HB := n0_; clear n0_; (try clear hb); (try clear hb2); (try clear hk); (try clear hi)) | ((with_reducible refine gate_callee (f := 18) rfl ?_); refine goesL_ (some 52) rfl rfl Tryd.func18 (by kernel_rfl) rfl #[.string a0, .string a1] rfl (by (try simp only [List.map_toArray, List.map_cons, List.map_nil]); first | done | rfl | (simp only [List.length_drop, List.length_take]; rfl)) ?_; (with_reducible refine (whole_Quo.calls a0 a1 t112 t113 _ A18.out (Env.below ENV0.out (by repeat (first | (with_reducible first | exact HB.out | apply below_alloc | apply pw_below_drewN | apply below_drew1) | exact HB.out)))).mono ?_); rintro e w24 ⟨rfl, hb⟩; refine ⟨_, rfl, ?_⟩; have n0_ := Aside0.mk (below_step (by repeat (first | (with_reducible first | exact HB.out | apply below_alloc | apply pw_below_drewN | apply below_drew1) | exact HB.out)) hb); clear HB; have HB := n0_; clear n0_; (try clear hb); (try clear hb2); (try clear hk); (try clear hi)) | ((with_reducible refine gate_callee (f := 15) rfl ?_); refine goesL_ (some 58) rfl rfl Tryd.func15 (by kernel_rfl) rfl #[.string a0, .string a1] rfl (by (try simp only [List.map_toArray, List.map_cons, List.map_nil]); first | done | rfl | (simp only [List.length_drop, List.length_take]; rfl)) ?_; (with_reducible refine (whole_Rem.calls a0 a1 t114 t115 _ A19.out (Env.below ENV0.out (by repeat (first | (with_reducible first | exact HB.out | apply below_alloc | apply pw_below_drewN | apply below_drew1) | exact HB.out)))).mono ?_); rintro e w25 ⟨rfl, hb⟩; refine ⟨_, rfl, ?_⟩; have n0_ := Aside0.mk (below_step (by repeat (first | (with_reducible first | exact HB.out | apply below_alloc | apply pw_below_drewN | apply below_drew1) | exact HB.out)) hb); clear HB; have HB := n0_; clear n0_; (try clear hb); (try clear hb2); (try clear hk); (try clear hi)))
        (try simp only [Act.put, List.setIfInBounds_toArray, List.set_cons_zero, List.set_cons_succ])
        go_cut [79] (fun v79 wc => ∃ (kq : Nat) (x79_19 : Bool), v79 = .bool x79_19 ∧ Aside0 (metrolablaw01_WholeDivides.j1 kq a0 a1 t112 t114 x79_19 = some r) ∧ Aside0 (kq ≤ kj2) ∧ Aside0 (Below w.heap.size w wc))
        case first =>
          have H := HC20.out
          clear HC20
          by_cases c26 : (wrap64 ((wrap64 ((wrap64 ((wrap64 (t107 + t109)) + t111)) + t113)) + t115)) = 0
          · rw [if_pos c26] at H
            have c26b0 : ((wrap64 ((wrap64 ((wrap64 ((wrap64 (t107 + t109)) + t111)) + t113)) + t115)) == 0) = true := beq_iff_eq.mpr c26
            have c26b1 : ((wrap64 ((wrap64 ((wrap64 ((wrap64 (t107 + t109)) + t111)) + t113)) + t115)) != 0) = false := bne_eq_false_iff_eq.mpr c26
            clear c26
            (first | rw [c26b0] | (simp only [i64_w, i32_w]; rw [c26b0]) | skip)
            by_cases c27 : t108.toList = a0.toList
            · rw [if_pos c27] at H
              have c27b0 : (t108.toList == a0.toList) = true := beq_iff_eq.mpr c27
              have c27b1 : (t108.toList != a0.toList) = false := bne_eq_false_iff_eq.mpr c27
              clear c27
              have H' := Aside0.mk H
              clear H
              go_wp2
              go_meet
              case rel => exact ⟨_, ((t110.toList != ([48] : List UInt8))), (by first | rfl | exact congrArg Value.bool (not_empty _) | exact congrArg Value.bool (is_empty _) | (simp; done) | (simp [*]; done)), H', ⟨by have := HJ2.out; first | omega | exact Nat.le_refl _⟩, ⟨by repeat (first | (with_reducible first | exact HB.out | apply below_alloc | apply pw_below_drewN | apply below_drew1) | exact HB.out)⟩⟩
            · rw [if_neg c27] at H
              have c27b0 : (t108.toList == a0.toList) = false := beq_eq_false_iff_ne.mpr c27
              have c27b1 : (t108.toList != a0.toList) = true := bne_iff_ne.mpr c27
              have H' := Aside0.mk H
              clear H
              go_wp2
              go_meet
              case rel => exact ⟨_, (true), (by first | rfl | exact congrArg Value.bool (not_empty _) | exact congrArg Value.bool (is_empty _) | (simp; done) | (simp [*]; done)), H', ⟨by have := HJ2.out; first | omega | exact Nat.le_refl _⟩, ⟨by repeat (first | (with_reducible first | exact HB.out | apply below_alloc | apply pw_below_drewN | apply below_drew1) | exact HB.out)⟩⟩
          · rw [if_neg c26] at H
            have c26b0 : ((wrap64 ((wrap64 ((wrap64 ((wrap64 (t107 + t109)) + t111)) + t113)) + t115)) == 0) = false := beq_eq_false_iff_ne.mpr c26
            have c26b1 : ((wrap64 ((wrap64 ((wrap64 ((wrap64 (t107 + t109)) + t111)) + t113)) + t115)) != 0) = true := bne_iff_ne.mpr c26
            (first | rw [c26b0] | (simp only [i64_w, i32_w]; rw [c26b0]) | skip)
            have H' := Aside0.mk H
            clear H
            go_wp2
            go_meet
            case rel => exact ⟨_, (true), (by first | rfl | exact congrArg Value.bool (not_empty _) | exact congrArg Value.bool (is_empty _) | (simp; done) | (simp [*]; done)), H', ⟨by have := HJ2.out; first | omega | exact Nat.le_refl _⟩, ⟨by repeat (first | (with_reducible first | exact HB.out | apply below_alloc | apply pw_below_drewN | apply below_drew1) | exact HB.out)⟩⟩
        case rest =>
          clear HC20
          try clear c1
          try clear c2
          try clear p2
          try clear c5
          try clear p6
          try clear c7
          try clear c8
          try clear c12
          try clear c13
          try clear c15
          try clear c18
          try clear c26
          try clear c26b0
          try clear c26b1
          try clear c27
          try clear c27b0
          try clear c27b1
          try clear p2
          obtain ⟨kq, x79_19, rfl, HA, HJ19, HB⟩ := hcut
          cases kq with
          | zero => exact absurd HA.out (by simp [metrolablaw01_WholeDivides.j1])
          | succ kj19 =>
            have H := HA.out
            clear HA
            simp only [metrolablaw01_WholeDivides.j1] at H
            by_cases c28 : x79_19 = true
            · subst c28
              have H1 : (some false) = some r := by rw [if_pos rfl] at H; exact H
              clear H
              have H := H1
              clear H1
              obtain rfl := Option.some.inj H
              go_wp2
              go_ret
              exact ⟨by first | rfl | (simp [errW_none, errW_some] <;> rfl) | (simp [*, errW_none, errW_some] <;> rfl), by repeat (first | (with_reducible first | exact HB.out | apply below_alloc | apply pw_below_drewN | apply below_drew1) | exact HB.out)⟩
            · replace c28 := Bool.eq_false_iff.mpr c28
              subst c28
              have H1 : ((whole_Mul.f t112 a1).bind fun bt116 => ((whole_Add.f bt116.1 t114).bind fun bt118 => ((whole_Sign.f t114).bind fun bt120 => ((whole_Sign.f a1).bind fun bt122 => ((whole_Sub.f a1 t114).bind fun bt124 => ((whole_Sign.f bt124.1).bind fun bt126 => (if bt116.2 = 0 then (if (wrap64 ((wrap64 ((wrap64 ((wrap64 (bt118.2 + bt120.2)) + bt122.2)) + bt124.2)) + bt126.2)) = 0 then (if bt118.1.toList = a0.toList then (if bt120.1 = 0 then (if bt126.1 = bt122.1 then ((awake.f).bind fun t128 => (some t128)) else (some false)) else (if bt120.1 = bt122.1 then (if bt126.1 = bt122.1 then ((awake.f).bind fun t129 => (some t129)) else (some false)) else (some false))) else (some false)) else (some false)) else (some false)))))))) = some r := by rw [if_neg (show ¬ (false = true) by decide)] at H; exact H
              clear H
              have H := H1
              clear H1
              replace H := Option.bind_eq_some_iff.mp H
              obtain ⟨⟨t116, t117⟩, A290, H⟩ := H
              replace H : ((whole_Add.f t116 t114).bind fun bt118 => ((whole_Sign.f t114).bind fun bt120 => ((whole_Sign.f a1).bind fun bt122 => ((whole_Sub.f a1 t114).bind fun bt124 => ((whole_Sign.f bt124.1).bind fun bt126 => (if t117 = 0 then (if (wrap64 ((wrap64 ((wrap64 ((wrap64 (bt118.2 + bt120.2)) + bt122.2)) + bt124.2)) + bt126.2)) = 0 then (if bt118.1.toList = a0.toList then (if bt120.1 = 0 then (if bt126.1 = bt122.1 then ((awake.f).bind fun t128 => (some t128)) else (some false)) else (if bt120.1 = bt122.1 then (if bt126.1 = bt122.1 then ((awake.f).bind fun t129 => (some t129)) else (some false)) else (some false))) else (some false)) else (some false)) else (some false))))))) = some r := H
              have A29 := Aside0.mk A290
              clear A290
              replace H := Option.bind_eq_some_iff.mp H
              obtain ⟨⟨t118, t119⟩, A300, H⟩ := H
              replace H : ((whole_Sign.f t114).bind fun bt120 => ((whole_Sign.f a1).bind fun bt122 => ((whole_Sub.f a1 t114).bind fun bt124 => ((whole_Sign.f bt124.1).bind fun bt126 => (if t117 = 0 then (if (wrap64 ((wrap64 ((wrap64 ((wrap64 (t119 + bt120.2)) + bt122.2)) + bt124.2)) + bt126.2)) = 0 then (if t118.toList = a0.toList then (if bt120.1 = 0 then (if bt126.1 = bt122.1 then ((awake.f).bind fun t128 => (some t128)) else (some false)) else (if bt120.1 = bt122.1 then (if bt126.1 = bt122.1 then ((awake.f).bind fun t129 => (some t129)) else (some false)) else (some false))) else (some false)) else (some false)) else (some false)))))) = some r := H
              have A30 := Aside0.mk A300
              clear A300
              replace H := Option.bind_eq_some_iff.mp H
              obtain ⟨⟨t120, t121⟩, A310, H⟩ := H
              replace H : ((whole_Sign.f a1).bind fun bt122 => ((whole_Sub.f a1 t114).bind fun bt124 => ((whole_Sign.f bt124.1).bind fun bt126 => (if t117 = 0 then (if (wrap64 ((wrap64 ((wrap64 ((wrap64 (t119 + t121)) + bt122.2)) + bt124.2)) + bt126.2)) = 0 then (if t118.toList = a0.toList then (if t120 = 0 then (if bt126.1 = bt122.1 then ((awake.f).bind fun t128 => (some t128)) else (some false)) else (if t120 = bt122.1 then (if bt126.1 = bt122.1 then ((awake.f).bind fun t129 => (some t129)) else (some false)) else (some false))) else (some false)) else (some false)) else (some false))))) = some r := H
              have A31 := Aside0.mk A310
              clear A310
              replace H := Option.bind_eq_some_iff.mp H
              obtain ⟨⟨t122, t123⟩, A320, H⟩ := H
              replace H : ((whole_Sub.f a1 t114).bind fun bt124 => ((whole_Sign.f bt124.1).bind fun bt126 => (if t117 = 0 then (if (wrap64 ((wrap64 ((wrap64 ((wrap64 (t119 + t121)) + t123)) + bt124.2)) + bt126.2)) = 0 then (if t118.toList = a0.toList then (if t120 = 0 then (if bt126.1 = t122 then ((awake.f).bind fun t128 => (some t128)) else (some false)) else (if t120 = t122 then (if bt126.1 = t122 then ((awake.f).bind fun t129 => (some t129)) else (some false)) else (some false))) else (some false)) else (some false)) else (some false)))) = some r := H
              have A32 := Aside0.mk A320
              clear A320
              replace H := Option.bind_eq_some_iff.mp H
              obtain ⟨⟨t124, t125⟩, A330, H⟩ := H
              replace H : ((whole_Sign.f t124).bind fun bt126 => (if t117 = 0 then (if (wrap64 ((wrap64 ((wrap64 ((wrap64 (t119 + t121)) + t123)) + t125)) + bt126.2)) = 0 then (if t118.toList = a0.toList then (if t120 = 0 then (if bt126.1 = t122 then ((awake.f).bind fun t128 => (some t128)) else (some false)) else (if t120 = t122 then (if bt126.1 = t122 then ((awake.f).bind fun t129 => (some t129)) else (some false)) else (some false))) else (some false)) else (some false)) else (some false))) = some r := H
              have A33 := Aside0.mk A330
              clear A330
              replace H := Option.bind_eq_some_iff.mp H
              obtain ⟨⟨t126, t127⟩, A340, H⟩ := H
              replace H : (if t117 = 0 then (if (wrap64 ((wrap64 ((wrap64 ((wrap64 (t119 + t121)) + t123)) + t125)) + t127)) = 0 then (if t118.toList = a0.toList then (if t120 = 0 then (if t126 = t122 then ((awake.f).bind fun t128 => (some t128)) else (some false)) else (if t120 = t122 then (if t126 = t122 then ((awake.f).bind fun t129 => (some t129)) else (some false)) else (some false))) else (some false)) else (some false)) else (some false)) = some r := H
              have A34 := Aside0.mk A340
              clear A340
              by_cases c35 : t117 = 0
              · rw [if_pos c35] at H
                have c35b0 : (t117 == 0) = true := beq_iff_eq.mpr c35
                have c35b1 : (t117 != 0) = false := bne_eq_false_iff_eq.mpr c35
                clear c35
                by_cases c36 : (wrap64 ((wrap64 ((wrap64 ((wrap64 (t119 + t121)) + t123)) + t125)) + t127)) = 0
                · rw [if_pos c36] at H
                  have c36b0 : ((wrap64 ((wrap64 ((wrap64 ((wrap64 (t119 + t121)) + t123)) + t125)) + t127)) == 0) = true := beq_iff_eq.mpr c36
                  have c36b1 : ((wrap64 ((wrap64 ((wrap64 ((wrap64 (t119 + t121)) + t123)) + t125)) + t127)) != 0) = false := bne_eq_false_iff_eq.mpr c36
                  clear c36
                  by_cases c37 : t118.toList = a0.toList
                  · rw [if_pos c37] at H
                    have c37b0 : (t118.toList == a0.toList) = true := beq_iff_eq.mpr c37
                    have c37b1 : (t118.toList != a0.toList) = false := bne_eq_false_iff_eq.mpr c37
                    clear c37
                    by_cases c38 : t120 = 0
                    · rw [if_pos c38] at H
                      have c38b0 : (t120 == 0) = true := beq_iff_eq.mpr c38
                      have c38b1 : (t120 != 0) = false := bne_eq_false_iff_eq.mpr c38
                      clear c38
                      by_cases c39 : t126 = t122
                      · rw [if_pos c39] at H
                        have c39b0 : (t126 == t122) = true := beq_iff_eq.mpr c39
                        have c39b1 : (t126 != t122) = false := bne_eq_false_iff_eq.mpr c39
                        clear c39
                        replace H := Option.bind_eq_some_iff.mp H
                        obtain ⟨t128, A400, H⟩ := H
                        replace H : (some t128) = some r := H
                        have A40 := Aside0.mk A400
                        clear A400
                        obtain rfl := Option.some.inj H
                        go_wp2_with (first | ((with_reducible refine gate_callee (f := 13) rfl ?_); refine goesL_ (some 83) rfl rfl Tryd.func13 (by kernel_rfl) rfl #[.string t112, .string a1] rfl (by (try simp only [List.map_toArray, List.map_cons, List.map_nil]); first | done | rfl | (simp only [List.length_drop, List.length_take]; rfl)) ?_; (with_reducible refine (whole_Mul.calls t112 a1 t116 t117 _ A29.out (Env.below ENV0.out (by repeat (first | (with_reducible first | exact HB.out | apply below_alloc | apply pw_below_drewN | apply below_drew1) | exact HB.out)))).mono ?_); rintro e w41 ⟨rfl, hb⟩; refine ⟨_, rfl, ?_⟩; have n0_ := Aside0.mk (below_step (by repeat (first | (with_reducible first | exact HB.out | apply below_alloc | apply pw_below_drewN | apply below_drew1) | exact HB.out)) hb); clear HB; have HB := n0_; clear n0_; (try clear hb); (try clear hb2); (try clear hk); (try clear hi)) | ((with_reducible refine gate_callee (f := 12) rfl ?_); refine goesL_ (some 89) rfl rfl Tryd.func12 (by kernel_rfl) rfl #[.string t116, .string t114] rfl (by (try simp only [List.map_toArray, List.map_cons, List.map_nil]); first | done | rfl | (simp only [List.length_drop, List.length_take]; rfl)) ?_; (with_reducible refine (whole_Add.calls t116 t114 t118 t119 _ A30.out (Env.below ENV0.out (by repeat (first | (with_reducible first | exact HB.out | apply below_alloc | apply pw_below_drewN | apply below_drew1) | exact HB.out)))).mono ?_); rintro e w42 ⟨rfl, hb⟩; refine ⟨_, rfl, ?_⟩; have n0_ := Aside0.mk (below_step (by repeat (first | (with_reducible first | exact HB.out | apply below_alloc | apply pw_below_drewN | apply below_drew1) | exact HB.out)) hb); clear HB; have HB := n0_; clear n0_; (try clear hb); (try clear hb2); (try clear hk); (try clear hi)) | ((with_reducible refine gate_callee (f := 16) rfl ?_); refine goesL_ (some 94) rfl rfl Tryd.func16 (by kernel_rfl) rfl #[.string t114] rfl (by (try simp only [List.map_toArray, List.map_cons, List.map_nil]); first | done | rfl | (simp only [List.length_drop, List.length_take]; rfl)) ?_; (with_reducible refine (whole_Sign.calls t114 t120 t121 _ A31.out).mono ?_); rintro e w43 ⟨rfl, hb⟩; refine ⟨_, rfl, ?_⟩; have n0_ := Aside0.mk (below_step (by repeat (first | (with_reducible first | exact HB.out | apply below_alloc | apply pw_below_drewN | apply below_drew1) | exact HB.out)) hb); clear HB; have HB := n0_; clear n0_; (try clear hb); (try clear hb2); (try clear hk); (try clear hi)) | ((with_reducible refine gate_callee (f := 16) rfl ?_); refine goesL_ (some 99) rfl rfl Tryd.func16 (by kernel_rfl) rfl #[.string a1] rfl (by (try simp only [List.map_toArray, List.map_cons, List.map_nil]); first | done | rfl | (simp only [List.length_drop, List.length_take]; rfl)) ?_; (with_reducible refine (whole_Sign.calls a1 t122 t123 _ A32.out).mono ?_); rintro e w44 ⟨rfl, hb⟩; refine ⟨_, rfl, ?_⟩; have n0_ := Aside0.mk (below_step (by repeat (first | (with_reducible first | exact HB.out | apply below_alloc | apply pw_below_drewN | apply below_drew1) | exact HB.out)) hb); clear HB; have HB := n0_; clear n0_; (try clear hb); (try clear hb2); (try clear hk); (try clear hi)) | ((with_reducible refine gate_callee (f := 19) rfl ?_); refine goesL_ (some 105) rfl rfl Tryd.func19 (by kernel_rfl) rfl #[.string a1, .string t114] rfl (by (try simp only [List.map_toArray, List.map_cons, List.map_nil]); first | done | rfl | (simp only [List.length_drop, List.length_take]; rfl)) ?_; (with_reducible refine (whole_Sub.calls a1 t114 t124 t125 _ A33.out (Env.below ENV0.out (by repeat (first | (with_reducible first | exact HB.out | apply below_alloc | apply pw_below_drewN | apply below_drew1) | exact HB.out)))).mono ?_); rintro e w45 ⟨rfl, hb⟩; refine ⟨_, rfl, ?_⟩; have n0_ := Aside0.mk (below_step (by repeat (first | (with_reducible first | exact HB.out | apply below_alloc | apply pw_below_drewN | apply below_drew1) | exact HB.out)) hb); clear HB; have HB := n0_; clear n0_; (try clear hb); (try clear hb2); (try clear hk); (try clear hi)) | ((with_reducible refine gate_callee (f := 16) rfl ?_); refine goesL_ (some 110) rfl rfl Tryd.func16 (by kernel_rfl) rfl #[.string t124] rfl (by (try simp only [List.map_toArray, List.map_cons, List.map_nil]); first | done | rfl | (simp only [List.length_drop, List.length_take]; rfl)) ?_; (with_reducible refine (whole_Sign.calls t124 t126 t127 _ A34.out).mono ?_); rintro e w46 ⟨rfl, hb⟩; refine ⟨_, rfl, ?_⟩; have n0_ := Aside0.mk (below_step (by repeat (first | (with_reducible first | exact HB.out | apply below_alloc | apply pw_below_drewN | apply below_drew1) | exact HB.out)) hb); clear HB; have HB := n0_; clear n0_; (try clear hb); (try clear hb2); (try clear hk); (try clear hi)) | (go_at_call 8; (with_reducible refine (awake.calls  t128 _ A40.out (Env.below ENV0.out (by repeat (first | (with_reducible first | exact HB.out | apply below_alloc | apply pw_below_drewN | apply below_drew1) | exact HB.out)))).mono ?_); rintro e w47 ⟨rfl, hb⟩; have n0_ := Aside0.mk (below_step (by repeat (first | (with_reducible first | exact HB.out | apply below_alloc | apply pw_below_drewN | apply below_drew1) | exact HB.out)) hb); clear HB; have HB := n0_; clear n0_; (try clear hb); (try clear hb2); (try clear hk); (try clear hi)))
                        go_ret
                        exact ⟨by first | rfl | (simp [errW_none, errW_some] <;> rfl) | (simp [*, errW_none, errW_some] <;> rfl), by repeat (first | (with_reducible first | exact HB.out | apply below_alloc | apply pw_below_drewN | apply below_drew1) | exact HB.out)⟩
                      · rw [if_neg c39] at H
                        have c39b0 : (t126 == t122) = false := beq_eq_false_iff_ne.mpr c39
                        have c39b1 : (t126 != t122) = true := bne_iff_ne.mpr c39
                        obtain rfl := Option.some.inj H
                        go_wp2_with (first | ((with_reducible refine gate_callee (f := 13) rfl ?_); refine goesL_ (some 83) rfl rfl Tryd.func13 (by kernel_rfl) rfl #[.string t112, .string a1] rfl (by (try simp only [List.map_toArray, List.map_cons, List.map_nil]); first | done | rfl | (simp only [List.length_drop, List.length_take]; rfl)) ?_; (with_reducible refine (whole_Mul.calls t112 a1 t116 t117 _ A29.out (Env.below ENV0.out (by repeat (first | (with_reducible first | exact HB.out | apply below_alloc | apply pw_below_drewN | apply below_drew1) | exact HB.out)))).mono ?_); rintro e w48 ⟨rfl, hb⟩; refine ⟨_, rfl, ?_⟩; have n0_ := Aside0.mk (below_step (by repeat (first | (with_reducible first | exact HB.out | apply below_alloc | apply pw_below_drewN | apply below_drew1) | exact HB.out)) hb); clear HB; have HB := n0_; clear n0_; (try clear hb); (try clear hb2); (try clear hk); (try clear hi)) | ((with_reducible refine gate_callee (f := 12) rfl ?_); refine goesL_ (some 89) rfl rfl Tryd.func12 (by kernel_rfl) rfl #[.string t116, .string t114] rfl (by (try simp only [List.map_toArray, List.map_cons, List.map_nil]); first | done | rfl | (simp only [List.length_drop, List.length_take]; rfl)) ?_; (with_reducible refine (whole_Add.calls t116 t114 t118 t119 _ A30.out (Env.below ENV0.out (by repeat (first | (with_reducible first | exact HB.out | apply below_alloc | apply pw_below_drewN | apply below_drew1) | exact HB.out)))).mono ?_); rintro e w49 ⟨rfl, hb⟩; refine ⟨_, rfl, ?_⟩; have n0_ := Aside0.mk (below_step (by repeat (first | (with_reducible first | exact HB.out | apply below_alloc | apply pw_below_drewN | apply below_drew1) | exact HB.out)) hb); clear HB; have HB := n0_; clear n0_; (try clear hb); (try clear hb2); (try clear hk); (try clear hi)) | ((with_reducible refine gate_callee (f := 16) rfl ?_); refine goesL_ (some 94) rfl rfl Tryd.func16 (by kernel_rfl) rfl #[.string t114] rfl (by (try simp only [List.map_toArray, List.map_cons, List.map_nil]); first | done | rfl | (simp only [List.length_drop, List.length_take]; rfl)) ?_; (with_reducible refine (whole_Sign.calls t114 t120 t121 _ A31.out).mono ?_); rintro e w50 ⟨rfl, hb⟩; refine ⟨_, rfl, ?_⟩; have n0_ := Aside0.mk (below_step (by repeat (first | (with_reducible first | exact HB.out | apply below_alloc | apply pw_below_drewN | apply below_drew1) | exact HB.out)) hb); clear HB; have HB := n0_; clear n0_; (try clear hb); (try clear hb2); (try clear hk); (try clear hi)) | ((with_reducible refine gate_callee (f := 16) rfl ?_); refine goesL_ (some 99) rfl rfl Tryd.func16 (by kernel_rfl) rfl #[.string a1] rfl (by (try simp only [List.map_toArray, List.map_cons, List.map_nil]); first | done | rfl | (simp only [List.length_drop, List.length_take]; rfl)) ?_; (with_reducible refine (whole_Sign.calls a1 t122 t123 _ A32.out).mono ?_); rintro e w51 ⟨rfl, hb⟩; refine ⟨_, rfl, ?_⟩; have n0_ := Aside0.mk (below_step (by repeat (first | (with_reducible first | exact HB.out | apply below_alloc | apply pw_below_drewN | apply below_drew1) | exact HB.out)) hb); clear HB; have HB := n0_; clear n0_; (try clear hb); (try clear hb2); (try clear hk); (try clear hi)) | ((with_reducible refine gate_callee (f := 19) rfl ?_); refine goesL_ (some 105) rfl rfl Tryd.func19 (by kernel_rfl) rfl #[.string a1, .string t114] rfl (by (try simp only [List.map_toArray, List.map_cons, List.map_nil]); first | done | rfl | (simp only [List.length_drop, List.length_take]; rfl)) ?_; (with_reducible refine (whole_Sub.calls a1 t114 t124 t125 _ A33.out (Env.below ENV0.out (by repeat (first | (with_reducible first | exact HB.out | apply below_alloc | apply pw_below_drewN | apply below_drew1) | exact HB.out)))).mono ?_); rintro e w52 ⟨rfl, hb⟩; refine ⟨_, rfl, ?_⟩; have n0_ := Aside0.mk (below_step (by repeat (first | (with_reducible first | exact HB.out | apply below_alloc | apply pw_below_drewN | apply below_drew1) | exact HB.out)) hb); clear HB; have HB := n0_; clear n0_; (try clear hb); (try clear hb2); (try clear hk); (try clear hi)) | ((with_reducible refine gate_callee (f := 16) rfl ?_); refine goesL_ (some 110) rfl rfl Tryd.func16 (by kernel_rfl) rfl #[.string t124] rfl (by (try simp only [List.map_toArray, List.map_cons, List.map_nil]); first | done | rfl | (simp only [List.length_drop, List.length_take]; rfl)) ?_; (with_reducible refine (whole_Sign.calls t124 t126 t127 _ A34.out).mono ?_); rintro e w53 ⟨rfl, hb⟩; refine ⟨_, rfl, ?_⟩; have n0_ := Aside0.mk (below_step (by repeat (first | (with_reducible first | exact HB.out | apply below_alloc | apply pw_below_drewN | apply below_drew1) | exact HB.out)) hb); clear HB; have HB := n0_; clear n0_; (try clear hb); (try clear hb2); (try clear hk); (try clear hi)))
                        go_ret
                        exact ⟨by first | rfl | (simp [errW_none, errW_some] <;> rfl) | (simp [*, errW_none, errW_some] <;> rfl), by repeat (first | (with_reducible first | exact HB.out | apply below_alloc | apply pw_below_drewN | apply below_drew1) | exact HB.out)⟩
                    · rw [if_neg c38] at H
                      have c38b0 : (t120 == 0) = false := beq_eq_false_iff_ne.mpr c38
                      have c38b1 : (t120 != 0) = true := bne_iff_ne.mpr c38
                      by_cases c54 : t120 = t122
                      · rw [if_pos c54] at H
                        have c54b0 : (t120 == t122) = true := beq_iff_eq.mpr c54
                        have c54b1 : (t120 != t122) = false := bne_eq_false_iff_eq.mpr c54
                        clear c54
                        by_cases c55 : t126 = t122
                        · rw [if_pos c55] at H
                          have c55b0 : (t126 == t122) = true := beq_iff_eq.mpr c55
                          have c55b1 : (t126 != t122) = false := bne_eq_false_iff_eq.mpr c55
                          clear c55
                          replace H := Option.bind_eq_some_iff.mp H
                          obtain ⟨t129, A560, H⟩ := H
                          replace H : (some t129) = some r := H
                          have A56 := Aside0.mk A560
                          clear A560
                          obtain rfl := Option.some.inj H
                          go_wp2_with (first | ((with_reducible refine gate_callee (f := 13) rfl ?_); refine goesL_ (some 83) rfl rfl Tryd.func13 (by kernel_rfl) rfl #[.string t112, .string a1] rfl (by (try simp only [List.map_toArray, List.map_cons, List.map_nil]); first | done | rfl | (simp only [List.length_drop, List.length_take]; rfl)) ?_; (with_reducible refine (whole_Mul.calls t112 a1 t116 t117 _ A29.out (Env.below ENV0.out (by repeat (first | (with_reducible first | exact HB.out | apply below_alloc | apply pw_below_drewN | apply below_drew1) | exact HB.out)))).mono ?_); rintro e w57 ⟨rfl, hb⟩; refine ⟨_, rfl, ?_⟩; have n0_ := Aside0.mk (below_step (by repeat (first | (with_reducible first | exact HB.out | apply below_alloc | apply pw_below_drewN | apply below_drew1) | exact HB.out)) hb); clear HB; have HB := n0_; clear n0_; (try clear hb); (try clear hb2); (try clear hk); (try clear hi)) | ((with_reducible refine gate_callee (f := 12) rfl ?_); refine goesL_ (some 89) rfl rfl Tryd.func12 (by kernel_rfl) rfl #[.string t116, .string t114] rfl (by (try simp only [List.map_toArray, List.map_cons, List.map_nil]); first | done | rfl | (simp only [List.length_drop, List.length_take]; rfl)) ?_; (with_reducible refine (whole_Add.calls t116 t114 t118 t119 _ A30.out (Env.below ENV0.out (by repeat (first | (with_reducible first | exact HB.out | apply below_alloc | apply pw_below_drewN | apply below_drew1) | exact HB.out)))).mono ?_); rintro e w58 ⟨rfl, hb⟩; refine ⟨_, rfl, ?_⟩; have n0_ := Aside0.mk (below_step (by repeat (first | (with_reducible first | exact HB.out | apply below_alloc | apply pw_below_drewN | apply below_drew1) | exact HB.out)) hb); clear HB; have HB := n0_; clear n0_; (try clear hb); (try clear hb2); (try clear hk); (try clear hi)) | ((with_reducible refine gate_callee (f := 16) rfl ?_); refine goesL_ (some 94) rfl rfl Tryd.func16 (by kernel_rfl) rfl #[.string t114] rfl (by (try simp only [List.map_toArray, List.map_cons, List.map_nil]); first | done | rfl | (simp only [List.length_drop, List.length_take]; rfl)) ?_; (with_reducible refine (whole_Sign.calls t114 t120 t121 _ A31.out).mono ?_); rintro e w59 ⟨rfl, hb⟩; refine ⟨_, rfl, ?_⟩; have n0_ := Aside0.mk (below_step (by repeat (first | (with_reducible first | exact HB.out | apply below_alloc | apply pw_below_drewN | apply below_drew1) | exact HB.out)) hb); clear HB; have HB := n0_; clear n0_; (try clear hb); (try clear hb2); (try clear hk); (try clear hi)) | ((with_reducible refine gate_callee (f := 16) rfl ?_); refine goesL_ (some 99) rfl rfl Tryd.func16 (by kernel_rfl) rfl #[.string a1] rfl (by (try simp only [List.map_toArray, List.map_cons, List.map_nil]); first | done | rfl | (simp only [List.length_drop, List.length_take]; rfl)) ?_; (with_reducible refine (whole_Sign.calls a1 t122 t123 _ A32.out).mono ?_); rintro e w60 ⟨rfl, hb⟩; refine ⟨_, rfl, ?_⟩; have n0_ := Aside0.mk (below_step (by repeat (first | (with_reducible first | exact HB.out | apply below_alloc | apply pw_below_drewN | apply below_drew1) | exact HB.out)) hb); clear HB; have HB := n0_; clear n0_; (try clear hb); (try clear hb2); (try clear hk); (try clear hi)) | ((with_reducible refine gate_callee (f := 19) rfl ?_); refine goesL_ (some 105) rfl rfl Tryd.func19 (by kernel_rfl) rfl #[.string a1, .string t114] rfl (by (try simp only [List.map_toArray, List.map_cons, List.map_nil]); first | done | rfl | (simp only [List.length_drop, List.length_take]; rfl)) ?_; (with_reducible refine (whole_Sub.calls a1 t114 t124 t125 _ A33.out (Env.below ENV0.out (by repeat (first | (with_reducible first | exact HB.out | apply below_alloc | apply pw_below_drewN | apply below_drew1) | exact HB.out)))).mono ?_); rintro e w61 ⟨rfl, hb⟩; refine ⟨_, rfl, ?_⟩; have n0_ := Aside0.mk (below_step (by repeat (first | (with_reducible first | exact HB.out | apply below_alloc | apply pw_below_drewN | apply below_drew1) | exact HB.out)) hb); clear HB; have HB := n0_; clear n0_; (try clear hb); (try clear hb2); (try clear hk); (try clear hi)) | ((with_reducible refine gate_callee (f := 16) rfl ?_); refine goesL_ (some 110) rfl rfl Tryd.func16 (by kernel_rfl) rfl #[.string t124] rfl (by (try simp only [List.map_toArray, List.map_cons, List.map_nil]); first | done | rfl | (simp only [List.length_drop, List.length_take]; rfl)) ?_; (with_reducible refine (whole_Sign.calls t124 t126 t127 _ A34.out).mono ?_); rintro e w62 ⟨rfl, hb⟩; refine ⟨_, rfl, ?_⟩; have n0_ := Aside0.mk (below_step (by repeat (first | (with_reducible first | exact HB.out | apply below_alloc | apply pw_below_drewN | apply below_drew1) | exact HB.out)) hb); clear HB; have HB := n0_; clear n0_; (try clear hb); (try clear hb2); (try clear hk); (try clear hi)) | (go_at_call 8; (with_reducible refine (awake.calls  t129 _ A56.out (Env.below ENV0.out (by repeat (first | (with_reducible first | exact HB.out | apply below_alloc | apply pw_below_drewN | apply below_drew1) | exact HB.out)))).mono ?_); rintro e w63 ⟨rfl, hb⟩; have n0_ := Aside0.mk (below_step (by repeat (first | (with_reducible first | exact HB.out | apply below_alloc | apply pw_below_drewN | apply below_drew1) | exact HB.out)) hb); clear HB; have HB := n0_; clear n0_; (try clear hb); (try clear hb2); (try clear hk); (try clear hi)))
                          go_ret
                          exact ⟨by first | rfl | (simp [errW_none, errW_some] <;> rfl) | (simp [*, errW_none, errW_some] <;> rfl), by repeat (first | (with_reducible first | exact HB.out | apply below_alloc | apply pw_below_drewN | apply below_drew1) | exact HB.out)⟩
                        · rw [if_neg c55] at H
                          have c55b0 : (t126 == t122) = false := beq_eq_false_iff_ne.mpr c55
                          have c55b1 : (t126 != t122) = true := bne_iff_ne.mpr c55
                          obtain rfl := Option.some.inj H
                          go_wp2_with (first | ((with_reducible refine gate_callee (f := 13) rfl ?_); refine goesL_ (some 83) rfl rfl Tryd.func13 (by kernel_rfl) rfl #[.string t112, .string a1] rfl (by (try simp only [List.map_toArray, List.map_cons, List.map_nil]); first | done | rfl | (simp only [List.length_drop, List.length_take]; rfl)) ?_; (with_reducible refine (whole_Mul.calls t112 a1 t116 t117 _ A29.out (Env.below ENV0.out (by repeat (first | (with_reducible first | exact HB.out | apply below_alloc | apply pw_below_drewN | apply below_drew1) | exact HB.out)))).mono ?_); rintro e w64 ⟨rfl, hb⟩; refine ⟨_, rfl, ?_⟩; have n0_ := Aside0.mk (below_step (by repeat (first | (with_reducible first | exact HB.out | apply below_alloc | apply pw_below_drewN | apply below_drew1) | exact HB.out)) hb); clear HB; have HB := n0_; clear n0_; (try clear hb); (try clear hb2); (try clear hk); (try clear hi)) | ((with_reducible refine gate_callee (f := 12) rfl ?_); refine goesL_ (some 89) rfl rfl Tryd.func12 (by kernel_rfl) rfl #[.string t116, .string t114] rfl (by (try simp only [List.map_toArray, List.map_cons, List.map_nil]); first | done | rfl | (simp only [List.length_drop, List.length_take]; rfl)) ?_; (with_reducible refine (whole_Add.calls t116 t114 t118 t119 _ A30.out (Env.below ENV0.out (by repeat (first | (with_reducible first | exact HB.out | apply below_alloc | apply pw_below_drewN | apply below_drew1) | exact HB.out)))).mono ?_); rintro e w65 ⟨rfl, hb⟩; refine ⟨_, rfl, ?_⟩; have n0_ := Aside0.mk (below_step (by repeat (first | (with_reducible first | exact HB.out | apply below_alloc | apply pw_below_drewN | apply below_drew1) | exact HB.out)) hb); clear HB; have HB := n0_; clear n0_; (try clear hb); (try clear hb2); (try clear hk); (try clear hi)) | ((with_reducible refine gate_callee (f := 16) rfl ?_); refine goesL_ (some 94) rfl rfl Tryd.func16 (by kernel_rfl) rfl #[.string t114] rfl (by (try simp only [List.map_toArray, List.map_cons, List.map_nil]); first | done | rfl | (simp only [List.length_drop, List.length_take]; rfl)) ?_; (with_reducible refine (whole_Sign.calls t114 t120 t121 _ A31.out).mono ?_); rintro e w66 ⟨rfl, hb⟩; refine ⟨_, rfl, ?_⟩; have n0_ := Aside0.mk (below_step (by repeat (first | (with_reducible first | exact HB.out | apply below_alloc | apply pw_below_drewN | apply below_drew1) | exact HB.out)) hb); clear HB; have HB := n0_; clear n0_; (try clear hb); (try clear hb2); (try clear hk); (try clear hi)) | ((with_reducible refine gate_callee (f := 16) rfl ?_); refine goesL_ (some 99) rfl rfl Tryd.func16 (by kernel_rfl) rfl #[.string a1] rfl (by (try simp only [List.map_toArray, List.map_cons, List.map_nil]); first | done | rfl | (simp only [List.length_drop, List.length_take]; rfl)) ?_; (with_reducible refine (whole_Sign.calls a1 t122 t123 _ A32.out).mono ?_); rintro e w67 ⟨rfl, hb⟩; refine ⟨_, rfl, ?_⟩; have n0_ := Aside0.mk (below_step (by repeat (first | (with_reducible first | exact HB.out | apply below_alloc | apply pw_below_drewN | apply below_drew1) | exact HB.out)) hb); clear HB; have HB := n0_; clear n0_; (try clear hb); (try clear hb2); (try clear hk); (try clear hi)) | ((with_reducible refine gate_callee (f := 19) rfl ?_); refine goesL_ (some 105) rfl rfl Tryd.func19 (by kernel_rfl) rfl #[.string a1, .string t114] rfl (by (try simp only [List.map_toArray, List.map_cons, List.map_nil]); first | done | rfl | (simp only [List.length_drop, List.length_take]; rfl)) ?_; (with_reducible refine (whole_Sub.calls a1 t114 t124 t125 _ A33.out (Env.below ENV0.out (by repeat (first | (with_reducible first | exact HB.out | apply below_alloc | apply pw_below_drewN | apply below_drew1) | exact HB.out)))).mono ?_); rintro e w68 ⟨rfl, hb⟩; refine ⟨_, rfl, ?_⟩; have n0_ := Aside0.mk (below_step (by repeat (first | (with_reducible first | exact HB.out | apply below_alloc | apply pw_below_drewN | apply below_drew1) | exact HB.out)) hb); clear HB; have HB := n0_; clear n0_; (try clear hb); (try clear hb2); (try clear hk); (try clear hi)) | ((with_reducible refine gate_callee (f := 16) rfl ?_); refine goesL_ (some 110) rfl rfl Tryd.func16 (by kernel_rfl) rfl #[.string t124] rfl (by (try simp only [List.map_toArray, List.map_cons, List.map_nil]); first | done | rfl | (simp only [List.length_drop, List.length_take]; rfl)) ?_; (with_reducible refine (whole_Sign.calls t124 t126 t127 _ A34.out).mono ?_); rintro e w69 ⟨rfl, hb⟩; refine ⟨_, rfl, ?_⟩; have n0_ := Aside0.mk (below_step (by repeat (first | (with_reducible first | exact HB.out | apply below_alloc | apply pw_below_drewN | apply below_drew1) | exact HB.out)) hb); clear HB; have HB := n0_; clear n0_; (try clear hb); (try clear hb2); (try clear hk); (try clear hi)))
                          go_ret
                          exact ⟨by first | rfl | (simp [errW_none, errW_some] <;> rfl) | (simp [*, errW_none, errW_some] <;> rfl), by repeat (first | (with_reducible first | exact HB.out | apply below_alloc | apply pw_below_drewN | apply below_drew1) | exact HB.out)⟩
                      · rw [if_neg c54] at H
                        have c54b0 : (t120 == t122) = false := beq_eq_false_iff_ne.mpr c54
                        have c54b1 : (t120 != t122) = true := bne_iff_ne.mpr c54
                        obtain rfl := Option.some.inj H
                        go_wp2_with (first | ((with_reducible refine gate_callee (f := 13) rfl ?_); refine goesL_ (some 83) rfl rfl Tryd.func13 (by kernel_rfl) rfl #[.string t112, .string a1] rfl (by (try simp only [List.map_toArray, List.map_cons, List.map_nil]); first | done | rfl | (simp only [List.length_drop, List.length_take]; rfl)) ?_; (with_reducible refine (whole_Mul.calls t112 a1 t116 t117 _ A29.out (Env.below ENV0.out (by repeat (first | (with_reducible first | exact HB.out | apply below_alloc | apply pw_below_drewN | apply below_drew1) | exact HB.out)))).mono ?_); rintro e w70 ⟨rfl, hb⟩; refine ⟨_, rfl, ?_⟩; have n0_ := Aside0.mk (below_step (by repeat (first | (with_reducible first | exact HB.out | apply below_alloc | apply pw_below_drewN | apply below_drew1) | exact HB.out)) hb); clear HB; have HB := n0_; clear n0_; (try clear hb); (try clear hb2); (try clear hk); (try clear hi)) | ((with_reducible refine gate_callee (f := 12) rfl ?_); refine goesL_ (some 89) rfl rfl Tryd.func12 (by kernel_rfl) rfl #[.string t116, .string t114] rfl (by (try simp only [List.map_toArray, List.map_cons, List.map_nil]); first | done | rfl | (simp only [List.length_drop, List.length_take]; rfl)) ?_; (with_reducible refine (whole_Add.calls t116 t114 t118 t119 _ A30.out (Env.below ENV0.out (by repeat (first | (with_reducible first | exact HB.out | apply below_alloc | apply pw_below_drewN | apply below_drew1) | exact HB.out)))).mono ?_); rintro e w71 ⟨rfl, hb⟩; refine ⟨_, rfl, ?_⟩; have n0_ := Aside0.mk (below_step (by repeat (first | (with_reducible first | exact HB.out | apply below_alloc | apply pw_below_drewN | apply below_drew1) | exact HB.out)) hb); clear HB; have HB := n0_; clear n0_; (try clear hb); (try clear hb2); (try clear hk); (try clear hi)) | ((with_reducible refine gate_callee (f := 16) rfl ?_); refine goesL_ (some 94) rfl rfl Tryd.func16 (by kernel_rfl) rfl #[.string t114] rfl (by (try simp only [List.map_toArray, List.map_cons, List.map_nil]); first | done | rfl | (simp only [List.length_drop, List.length_take]; rfl)) ?_; (with_reducible refine (whole_Sign.calls t114 t120 t121 _ A31.out).mono ?_); rintro e w72 ⟨rfl, hb⟩; refine ⟨_, rfl, ?_⟩; have n0_ := Aside0.mk (below_step (by repeat (first | (with_reducible first | exact HB.out | apply below_alloc | apply pw_below_drewN | apply below_drew1) | exact HB.out)) hb); clear HB; have HB := n0_; clear n0_; (try clear hb); (try clear hb2); (try clear hk); (try clear hi)) | ((with_reducible refine gate_callee (f := 16) rfl ?_); refine goesL_ (some 99) rfl rfl Tryd.func16 (by kernel_rfl) rfl #[.string a1] rfl (by (try simp only [List.map_toArray, List.map_cons, List.map_nil]); first | done | rfl | (simp only [List.length_drop, List.length_take]; rfl)) ?_; (with_reducible refine (whole_Sign.calls a1 t122 t123 _ A32.out).mono ?_); rintro e w73 ⟨rfl, hb⟩; refine ⟨_, rfl, ?_⟩; have n0_ := Aside0.mk (below_step (by repeat (first | (with_reducible first | exact HB.out | apply below_alloc | apply pw_below_drewN | apply below_drew1) | exact HB.out)) hb); clear HB; have HB := n0_; clear n0_; (try clear hb); (try clear hb2); (try clear hk); (try clear hi)) | ((with_reducible refine gate_callee (f := 19) rfl ?_); refine goesL_ (some 105) rfl rfl Tryd.func19 (by kernel_rfl) rfl #[.string a1, .string t114] rfl (by (try simp only [List.map_toArray, List.map_cons, List.map_nil]); first | done | rfl | (simp only [List.length_drop, List.length_take]; rfl)) ?_; (with_reducible refine (whole_Sub.calls a1 t114 t124 t125 _ A33.out (Env.below ENV0.out (by repeat (first | (with_reducible first | exact HB.out | apply below_alloc | apply pw_below_drewN | apply below_drew1) | exact HB.out)))).mono ?_); rintro e w74 ⟨rfl, hb⟩; refine ⟨_, rfl, ?_⟩; have n0_ := Aside0.mk (below_step (by repeat (first | (with_reducible first | exact HB.out | apply below_alloc | apply pw_below_drewN | apply below_drew1) | exact HB.out)) hb); clear HB; have HB := n0_; clear n0_; (try clear hb); (try clear hb2); (try clear hk); (try clear hi)) | ((with_reducible refine gate_callee (f := 16) rfl ?_); refine goesL_ (some 110) rfl rfl Tryd.func16 (by kernel_rfl) rfl #[.string t124] rfl (by (try simp only [List.map_toArray, List.map_cons, List.map_nil]); first | done | rfl | (simp only [List.length_drop, List.length_take]; rfl)) ?_; (with_reducible refine (whole_Sign.calls t124 t126 t127 _ A34.out).mono ?_); rintro e w75 ⟨rfl, hb⟩; refine ⟨_, rfl, ?_⟩; have n0_ := Aside0.mk (below_step (by repeat (first | (with_reducible first | exact HB.out | apply below_alloc | apply pw_below_drewN | apply below_drew1) | exact HB.out)) hb); clear HB; have HB := n0_; clear n0_; (try clear hb); (try clear hb2); (try clear hk); (try clear hi)))
                        go_ret
                        exact ⟨by first | rfl | (simp [errW_none, errW_some] <;> rfl) | (simp [*, errW_none, errW_some] <;> rfl), by repeat (first | (with_reducible first | exact HB.out | apply below_alloc | apply pw_below_drewN | apply below_drew1) | exact HB.out)⟩
                  · rw [if_neg c37] at H
                    have c37b0 : (t118.toList == a0.toList) = false := beq_eq_false_iff_ne.mpr c37
                    have c37b1 : (t118.toList != a0.toList) = true := bne_iff_ne.mpr c37
                    obtain rfl := Option.some.inj H
                    go_wp2_with (first | ((with_reducible refine gate_callee (f := 13) rfl ?_); refine goesL_ (some 83) rfl rfl Tryd.func13 (by kernel_rfl) rfl #[.string t112, .string a1] rfl (by (try simp only [List.map_toArray, List.map_cons, List.map_nil]); first | done | rfl | (simp only [List.length_drop, List.length_take]; rfl)) ?_; (with_reducible refine (whole_Mul.calls t112 a1 t116 t117 _ A29.out (Env.below ENV0.out (by repeat (first | (with_reducible first | exact HB.out | apply below_alloc | apply pw_below_drewN | apply below_drew1) | exact HB.out)))).mono ?_); rintro e w76 ⟨rfl, hb⟩; refine ⟨_, rfl, ?_⟩; have n0_ := Aside0.mk (below_step (by repeat (first | (with_reducible first | exact HB.out | apply below_alloc | apply pw_below_drewN | apply below_drew1) | exact HB.out)) hb); clear HB; have HB := n0_; clear n0_; (try clear hb); (try clear hb2); (try clear hk); (try clear hi)) | ((with_reducible refine gate_callee (f := 12) rfl ?_); refine goesL_ (some 89) rfl rfl Tryd.func12 (by kernel_rfl) rfl #[.string t116, .string t114] rfl (by (try simp only [List.map_toArray, List.map_cons, List.map_nil]); first | done | rfl | (simp only [List.length_drop, List.length_take]; rfl)) ?_; (with_reducible refine (whole_Add.calls t116 t114 t118 t119 _ A30.out (Env.below ENV0.out (by repeat (first | (with_reducible first | exact HB.out | apply below_alloc | apply pw_below_drewN | apply below_drew1) | exact HB.out)))).mono ?_); rintro e w77 ⟨rfl, hb⟩; refine ⟨_, rfl, ?_⟩; have n0_ := Aside0.mk (below_step (by repeat (first | (with_reducible first | exact HB.out | apply below_alloc | apply pw_below_drewN | apply below_drew1) | exact HB.out)) hb); clear HB; have HB := n0_; clear n0_; (try clear hb); (try clear hb2); (try clear hk); (try clear hi)) | ((with_reducible refine gate_callee (f := 16) rfl ?_); refine goesL_ (some 94) rfl rfl Tryd.func16 (by kernel_rfl) rfl #[.string t114] rfl (by (try simp only [List.map_toArray, List.map_cons, List.map_nil]); first | done | rfl | (simp only [List.length_drop, List.length_take]; rfl)) ?_; (with_reducible refine (whole_Sign.calls t114 t120 t121 _ A31.out).mono ?_); rintro e w78 ⟨rfl, hb⟩; refine ⟨_, rfl, ?_⟩; have n0_ := Aside0.mk (below_step (by repeat (first | (with_reducible first | exact HB.out | apply below_alloc | apply pw_below_drewN | apply below_drew1) | exact HB.out)) hb); clear HB; have HB := n0_; clear n0_; (try clear hb); (try clear hb2); (try clear hk); (try clear hi)) | ((with_reducible refine gate_callee (f := 16) rfl ?_); refine goesL_ (some 99) rfl rfl Tryd.func16 (by kernel_rfl) rfl #[.string a1] rfl (by (try simp only [List.map_toArray, List.map_cons, List.map_nil]); first | done | rfl | (simp only [List.length_drop, List.length_take]; rfl)) ?_; (with_reducible refine (whole_Sign.calls a1 t122 t123 _ A32.out).mono ?_); rintro e w79 ⟨rfl, hb⟩; refine ⟨_, rfl, ?_⟩; have n0_ := Aside0.mk (below_step (by repeat (first | (with_reducible first | exact HB.out | apply below_alloc | apply pw_below_drewN | apply below_drew1) | exact HB.out)) hb); clear HB; have HB := n0_; clear n0_; (try clear hb); (try clear hb2); (try clear hk); (try clear hi)) | ((with_reducible refine gate_callee (f := 19) rfl ?_); refine goesL_ (some 105) rfl rfl Tryd.func19 (by kernel_rfl) rfl #[.string a1, .string t114] rfl (by (try simp only [List.map_toArray, List.map_cons, List.map_nil]); first | done | rfl | (simp only [List.length_drop, List.length_take]; rfl)) ?_; (with_reducible refine (whole_Sub.calls a1 t114 t124 t125 _ A33.out (Env.below ENV0.out (by repeat (first | (with_reducible first | exact HB.out | apply below_alloc | apply pw_below_drewN | apply below_drew1) | exact HB.out)))).mono ?_); rintro e w80 ⟨rfl, hb⟩; refine ⟨_, rfl, ?_⟩; have n0_ := Aside0.mk (below_step (by repeat (first | (with_reducible first | exact HB.out | apply below_alloc | apply pw_below_drewN | apply below_drew1) | exact HB.out)) hb); clear HB; have HB := n0_; clear n0_; (try clear hb); (try clear hb2); (try clear hk); (try clear hi)) | ((with_reducible refine gate_callee (f := 16) rfl ?_); refine goesL_ (some 110) rfl rfl Tryd.func16 (by kernel_rfl) rfl #[.string t124] rfl (by (try simp only [List.map_toArray, List.map_cons, List.map_nil]); first | done | rfl | (simp only [List.length_drop, List.length_take]; rfl)) ?_; (with_reducible refine (whole_Sign.calls t124 t126 t127 _ A34.out).mono ?_); rintro e w81 ⟨rfl, hb⟩; refine ⟨_, rfl, ?_⟩; have n0_ := Aside0.mk (below_step (by repeat (first | (with_reducible first | exact HB.out | apply below_alloc | apply pw_below_drewN | apply below_drew1) | exact HB.out)) hb); clear HB; have HB := n0_; clear n0_; (try clear hb); (try clear hb2); (try clear hk); (try clear hi)))
                    go_ret
                    exact ⟨by first | rfl | (simp [errW_none, errW_some] <;> rfl) | (simp [*, errW_none, errW_some] <;> rfl), by repeat (first | (with_reducible first | exact HB.out | apply below_alloc | apply pw_below_drewN | apply below_drew1) | exact HB.out)⟩
                · rw [if_neg c36] at H
                  have c36b0 : ((wrap64 ((wrap64 ((wrap64 ((wrap64 (t119 + t121)) + t123)) + t125)) + t127)) == 0) = false := beq_eq_false_iff_ne.mpr c36
                  have c36b1 : ((wrap64 ((wrap64 ((wrap64 ((wrap64 (t119 + t121)) + t123)) + t125)) + t127)) != 0) = true := bne_iff_ne.mpr c36
                  obtain rfl := Option.some.inj H
                  go_wp2_with (first | ((with_reducible refine gate_callee (f := 13) rfl ?_); refine goesL_ (some 83) rfl rfl Tryd.func13 (by kernel_rfl) rfl #[.string t112, .string a1] rfl (by (try simp only [List.map_toArray, List.map_cons, List.map_nil]); first | done | rfl | (simp only [List.length_drop, List.length_take]; rfl)) ?_; (with_reducible refine (whole_Mul.calls t112 a1 t116 t117 _ A29.out (Env.below ENV0.out (by repeat (first | (with_reducible first | exact HB.out | apply below_alloc | apply pw_below_drewN | apply below_drew1) | exact HB.out)))).mono ?_); rintro e w82 ⟨rfl, hb⟩; refine ⟨_, rfl, ?_⟩; have n0_ := Aside0.mk (below_step (by repeat (first | (with_reducible first | exact HB.out | apply below_alloc | apply pw_below_drewN | apply below_drew1) | exact HB.out)) hb); clear HB; have HB := n0_; clear n0_; (try clear hb); (try clear hb2); (try clear hk); (try clear hi)) | ((with_reducible refine gate_callee (f := 12) rfl ?_); refine goesL_ (some 89) rfl rfl Tryd.func12 (by kernel_rfl) rfl #[.string t116, .string t114] rfl (by (try simp only [List.map_toArray, List.map_cons, List.map_nil]); first | done | rfl | (simp only [List.length_drop, List.length_take]; rfl)) ?_; (with_reducible refine (whole_Add.calls t116 t114 t118 t119 _ A30.out (Env.below ENV0.out (by repeat (first | (with_reducible first | exact HB.out | apply below_alloc | apply pw_below_drewN | apply below_drew1) | exact HB.out)))).mono ?_); rintro e w83 ⟨rfl, hb⟩; refine ⟨_, rfl, ?_⟩; have n0_ := Aside0.mk (below_step (by repeat (first | (with_reducible first | exact HB.out | apply below_alloc | apply pw_below_drewN | apply below_drew1) | exact HB.out)) hb); clear HB; have HB := n0_; clear n0_; (try clear hb); (try clear hb2); (try clear hk); (try clear hi)) | ((with_reducible refine gate_callee (f := 16) rfl ?_); refine goesL_ (some 94) rfl rfl Tryd.func16 (by kernel_rfl) rfl #[.string t114] rfl (by (try simp only [List.map_toArray, List.map_cons, List.map_nil]); first | done | rfl | (simp only [List.length_drop, List.length_take]; rfl)) ?_; (with_reducible refine (whole_Sign.calls t114 t120 t121 _ A31.out).mono ?_); rintro e w84 ⟨rfl, hb⟩; refine ⟨_, rfl, ?_⟩; have n0_ := Aside0.mk (below_step (by repeat (first | (with_reducible first | exact HB.out | apply below_alloc | apply pw_below_drewN | apply below_drew1) | exact HB.out)) hb); clear HB; have HB := n0_; clear n0_; (try clear hb); (try clear hb2); (try clear hk); (try clear hi)) | ((with_reducible refine gate_callee (f := 16) rfl ?_); refine goesL_ (some 99) rfl rfl Tryd.func16 (by kernel_rfl) rfl #[.string a1] rfl (by (try simp only [List.map_toArray, List.map_cons, List.map_nil]); first | done | rfl | (simp only [List.length_drop, List.length_take]; rfl)) ?_; (with_reducible refine (whole_Sign.calls a1 t122 t123 _ A32.out).mono ?_); rintro e w85 ⟨rfl, hb⟩; refine ⟨_, rfl, ?_⟩; have n0_ := Aside0.mk (below_step (by repeat (first | (with_reducible first | exact HB.out | apply below_alloc | apply pw_below_drewN | apply below_drew1) | exact HB.out)) hb); clear HB; have HB := n0_; clear n0_; (try clear hb); (try clear hb2); (try clear hk); (try clear hi)) | ((with_reducible refine gate_callee (f := 19) rfl ?_); refine goesL_ (some 105) rfl rfl Tryd.func19 (by kernel_rfl) rfl #[.string a1, .string t114] rfl (by (try simp only [List.map_toArray, List.map_cons, List.map_nil]); first | done | rfl | (simp only [List.length_drop, List.length_take]; rfl)) ?_; (with_reducible refine (whole_Sub.calls a1 t114 t124 t125 _ A33.out (Env.below ENV0.out (by repeat (first | (with_reducible first | exact HB.out | apply below_alloc | apply pw_below_drewN | apply below_drew1) | exact HB.out)))).mono ?_); rintro e w86 ⟨rfl, hb⟩; refine ⟨_, rfl, ?_⟩; have n0_ := Aside0.mk (below_step (by repeat (first | (with_reducible first | exact HB.out | apply below_alloc | apply pw_below_drewN | apply below_drew1) | exact HB.out)) hb); clear HB; have HB := n0_; clear n0_; (try clear hb); (try clear hb2); (try clear hk); (try clear hi)) | ((with_reducible refine gate_callee (f := 16) rfl ?_); refine goesL_ (some 110) rfl rfl Tryd.func16 (by kernel_rfl) rfl #[.string t124] rfl (by (try simp only [List.map_toArray, List.map_cons, List.map_nil]); first | done | rfl | (simp only [List.length_drop, List.length_take]; rfl)) ?_; (with_reducible refine (whole_Sign.calls t124 t126 t127 _ A34.out).mono ?_); rintro e w87 ⟨rfl, hb⟩; refine ⟨_, rfl, ?_⟩; have n0_ := Aside0.mk (below_step (by repeat (first | (with_reducible first | exact HB.out | apply below_alloc | apply pw_below_drewN | apply below_drew1) | exact HB.out)) hb); clear HB; have HB := n0_; clear n0_; (try clear hb); (try clear hb2); (try clear hk); (try clear hi)))
                  go_ret
                  exact ⟨by first | rfl | (simp [errW_none, errW_some] <;> rfl) | (simp [*, errW_none, errW_some] <;> rfl), by repeat (first | (with_reducible first | exact HB.out | apply below_alloc | apply pw_below_drewN | apply below_drew1) | exact HB.out)⟩
              · rw [if_neg c35] at H
                have c35b0 : (t117 == 0) = false := beq_eq_false_iff_ne.mpr c35
                have c35b1 : (t117 != 0) = true := bne_iff_ne.mpr c35
                obtain rfl := Option.some.inj H
                go_wp2_with (first | ((with_reducible refine gate_callee (f := 13) rfl ?_); refine goesL_ (some 83) rfl rfl Tryd.func13 (by kernel_rfl) rfl #[.string t112, .string a1] rfl (by (try simp only [List.map_toArray, List.map_cons, List.map_nil]); first | done | rfl | (simp only [List.length_drop, List.length_take]; rfl)) ?_; (with_reducible refine (whole_Mul.calls t112 a1 t116 t117 _ A29.out (Env.below ENV0.out (by repeat (first | (with_reducible first | exact HB.out | apply below_alloc | apply pw_below_drewN | apply below_drew1) | exact HB.out)))).mono ?_); rintro e w88 ⟨rfl, hb⟩; refine ⟨_, rfl, ?_⟩; have n0_ := Aside0.mk (below_step (by repeat (first | (with_reducible first | exact HB.out | apply below_alloc | apply pw_below_drewN | apply below_drew1) | exact HB.out)) hb); clear HB; have HB := n0_; clear n0_; (try clear hb); (try clear hb2); (try clear hk); (try clear hi)) | ((with_reducible refine gate_callee (f := 12) rfl ?_); refine goesL_ (some 89) rfl rfl Tryd.func12 (by kernel_rfl) rfl #[.string t116, .string t114] rfl (by (try simp only [List.map_toArray, List.map_cons, List.map_nil]); first | done | rfl | (simp only [List.length_drop, List.length_take]; rfl)) ?_; (with_reducible refine (whole_Add.calls t116 t114 t118 t119 _ A30.out (Env.below ENV0.out (by repeat (first | (with_reducible first | exact HB.out | apply below_alloc | apply pw_below_drewN | apply below_drew1) | exact HB.out)))).mono ?_); rintro e w89 ⟨rfl, hb⟩; refine ⟨_, rfl, ?_⟩; have n0_ := Aside0.mk (below_step (by repeat (first | (with_reducible first | exact HB.out | apply below_alloc | apply pw_below_drewN | apply below_drew1) | exact HB.out)) hb); clear HB; have HB := n0_; clear n0_; (try clear hb); (try clear hb2); (try clear hk); (try clear hi)) | ((with_reducible refine gate_callee (f := 16) rfl ?_); refine goesL_ (some 94) rfl rfl Tryd.func16 (by kernel_rfl) rfl #[.string t114] rfl (by (try simp only [List.map_toArray, List.map_cons, List.map_nil]); first | done | rfl | (simp only [List.length_drop, List.length_take]; rfl)) ?_; (with_reducible refine (whole_Sign.calls t114 t120 t121 _ A31.out).mono ?_); rintro e w90 ⟨rfl, hb⟩; refine ⟨_, rfl, ?_⟩; have n0_ := Aside0.mk (below_step (by repeat (first | (with_reducible first | exact HB.out | apply below_alloc | apply pw_below_drewN | apply below_drew1) | exact HB.out)) hb); clear HB; have HB := n0_; clear n0_; (try clear hb); (try clear hb2); (try clear hk); (try clear hi)) | ((with_reducible refine gate_callee (f := 16) rfl ?_); refine goesL_ (some 99) rfl rfl Tryd.func16 (by kernel_rfl) rfl #[.string a1] rfl (by (try simp only [List.map_toArray, List.map_cons, List.map_nil]); first | done | rfl | (simp only [List.length_drop, List.length_take]; rfl)) ?_; (with_reducible refine (whole_Sign.calls a1 t122 t123 _ A32.out).mono ?_); rintro e w91 ⟨rfl, hb⟩; refine ⟨_, rfl, ?_⟩; have n0_ := Aside0.mk (below_step (by repeat (first | (with_reducible first | exact HB.out | apply below_alloc | apply pw_below_drewN | apply below_drew1) | exact HB.out)) hb); clear HB; have HB := n0_; clear n0_; (try clear hb); (try clear hb2); (try clear hk); (try clear hi)) | ((with_reducible refine gate_callee (f := 19) rfl ?_); refine goesL_ (some 105) rfl rfl Tryd.func19 (by kernel_rfl) rfl #[.string a1, .string t114] rfl (by (try simp only [List.map_toArray, List.map_cons, List.map_nil]); first | done | rfl | (simp only [List.length_drop, List.length_take]; rfl)) ?_; (with_reducible refine (whole_Sub.calls a1 t114 t124 t125 _ A33.out (Env.below ENV0.out (by repeat (first | (with_reducible first | exact HB.out | apply below_alloc | apply pw_below_drewN | apply below_drew1) | exact HB.out)))).mono ?_); rintro e w92 ⟨rfl, hb⟩; refine ⟨_, rfl, ?_⟩; have n0_ := Aside0.mk (below_step (by repeat (first | (with_reducible first | exact HB.out | apply below_alloc | apply pw_below_drewN | apply below_drew1) | exact HB.out)) hb); clear HB; have HB := n0_; clear n0_; (try clear hb); (try clear hb2); (try clear hk); (try clear hi)) | ((with_reducible refine gate_callee (f := 16) rfl ?_); refine goesL_ (some 110) rfl rfl Tryd.func16 (by kernel_rfl) rfl #[.string t124] rfl (by (try simp only [List.map_toArray, List.map_cons, List.map_nil]); first | done | rfl | (simp only [List.length_drop, List.length_take]; rfl)) ?_; (with_reducible refine (whole_Sign.calls t124 t126 t127 _ A34.out).mono ?_); rintro e w93 ⟨rfl, hb⟩; refine ⟨_, rfl, ?_⟩; have n0_ := Aside0.mk (below_step (by repeat (first | (with_reducible first | exact HB.out | apply below_alloc | apply pw_below_drewN | apply below_drew1) | exact HB.out)) hb); clear HB; have HB := n0_; clear n0_; (try clear hb); (try clear hb2); (try clear hk); (try clear hi)))
                go_ret
                exact ⟨by first | rfl | (simp [errW_none, errW_some] <;> rfl) | (simp [*, errW_none, errW_some] <;> rfl), by repeat (first | (with_reducible first | exact HB.out | apply below_alloc | apply pw_below_drewN | apply below_drew1) | exact HB.out)⟩

end Go.Proofs.YtpkfnclbcmnckaaDoor.ZLD
