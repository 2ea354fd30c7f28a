import Derived.Test.YtpkfnclbcmnckaaDoorProg
import Derived.Below
import Derived.Deep.Draws
import Derived.Deep.AppendLies
import Derived.Maps.AppendAt
import Derived.OwnWalk
import Derived.Laws.BytesArg
import Derived.Laws.MakeOwn
import Derived.Laws.OwnMore
import Derived.Deep.OwnRows
import Derived.Tactics
import Derived.Lib.ConvBytes
import Derived.Laws.Slices
import Derived.WalkKit
import Derived.KernelRfl
import Derived.RowKit3
import Derived.Deep.LoopGhost
import Derived.Deep.QuietTactic
import Derived.BigQuiet
import Derived.WideLaws
import Derived.Deep.DeepCutAuto
import Derived.Deep.CutBlock
import Derived.Deep.RegionHeld3
import Derived.Laws.Rows
import Derived.Lib.AppendStr
import Derived.ArgAppend
import Derived.Laws.IdiomCopy
import Derived.OrdersHeld
import Derived.Laws.BitsLemmas
import Derived.RowKit
import Derived.Test.YtpkfnclbcmnckaaDoorZP1m
import Derived.Test.YtpkfnclbcmnckaaDoorWWords
import Derived.Test.YtpkfnclbcmnckaaDoorWLast
import Derived.Test.YtpkfnclbcmnckaaDoorWTab
import Derived.Test.YtpkfnclbcmnckaaDoorWFour
import Derived.Test.YtpkfnclbcmnckaaDoorWQPut
import Derived.Test.YtpkfnclbcmnckaaDoorWApart
import Derived.Test.YtpkfnclbcmnckaaDoorWArr
import Derived.Test.YtpkfnclbcmnckaaDoorWZeros
import Derived.Test.YtpkfnclbcmnckaaDoorWFoot
import Derived.Test.YtpkfnclbcmnckaaDoorWKept
import Derived.Test.YtpkfnclbcmnckaaDoorWShare
import Derived.Test.YtpkfnclbcmnckaaDoorWN
import Derived.Test.YtpkfnclbcmnckaaDoorWFootNe
import Derived.Test.YtpkfnclbcmnckaaDoorWAt
import Derived.Test.YtpkfnclbcmnckaaDoorWEqStruct
import Derived.Test.YtpkfnclbcmnckaaDoorWRepsOne
import Derived.Test.YtpkfnclbcmnckaaDoorWInv
import Derived.Test.YtpkfnclbcmnckaaDoorWInvWords
import Derived.Test.YtpkfnclbcmnckaaDoorWGuard
import Derived.Test.YtpkfnclbcmnckaaDoorWNEv
import Derived.Test.YtpkfnclbcmnckaaDoorWMore
-- written by the session's px.py out of the translation; Lean checks it.
namespace Go.Proofs.YtpkfnclbcmnckaaDoor.ZLO
open Go.RowKit Go.Proofs.YtpkfnclbcmnckaaDoorW.PrintWords Go.Proofs.YtpkfnclbcmnckaaDoorW.PrintLast Go.Proofs.YtpkfnclbcmnckaaDoorW.PrintMore
attribute [local go_sem] max2_int min2_int max_two min_two max_three min_three max_four min_four   -- for this text's walks alone
set_option linter.unusedVariables false
set_option linter.unusedSimpArgs false



def errW : Option Int → Value
  | none => .nilIface
  | some c => .iface 0 (.int .i64 c)
theorem errW_none : errW none = .nilIface := rfl
theorem errW_some (c : Int) : errW (some c) = .iface 0 (.int .i64 c) := rfl

theorem info22 : (Tryd.prog.info? 22).map (fun i => (i.zero, i.size, i.bytes)) = some (some (.string ⟨#[]⟩), 1, 16) := by kernel_rfl
-- the values' own types

end Go.Proofs.YtpkfnclbcmnckaaDoor.ZLO
-- written by the session's px.py out of the translation; Lean checks it.
namespace Go.Proofs.YtpkfnclbcmnckaaDoor.ZLO
open Go.RowKit Go.Proofs.YtpkfnclbcmnckaaDoorW.PrintWords Go.Proofs.YtpkfnclbcmnckaaDoorW.PrintLast Go.Proofs.YtpkfnclbcmnckaaDoorW.PrintMore
attribute [local go_sem] max2_int min2_int max_two min_two max_three min_three max_four min_four   -- for this text's walks alone
set_option linter.unusedVariables false
set_option linter.unusedSimpArgs false

/-! ### metrolablaw01_WholeObeys: function 6 -/
def metrolablaw01_WholeObeys.j0 : Nat → ByteArray → ByteArray → ByteArray → Bool → Option (Bool)
  | 0, _, _, _, _ => none
  | k + 1, x0, x1, x7, x110 => if x110 = true then (some false) else ((whole_Compare.f x0 x1).bind fun bt122 => ((whole_Sub.f x0 x1).bind fun bt124 => ((whole_Sign.f bt124.1).bind fun bt126 => ((whole_Mul.f x1 x0).bind fun bt128 => (if (wrap64 ((wrap64 ((wrap64 (bt122.2 + bt124.2)) + bt126.2)) + bt128.2)) = 0 then (if bt122.1 = bt126.1 then (if bt128.1.toList = x7.toList then ((awake.f).bind fun t130 => (some t130)) else (some false)) else (some false)) else (some false))))))
def metrolablaw01_WholeObeys.f (k : Nat) (a0 : ByteArray) (a1 : ByteArray) (a2 : ByteArray) : Option (Bool) := (ZP.metrolablaw01_short.f k (([a0, a1, a2] : List ByteArray))).bind fun t104 => (if t104 = true then ((whole_Mul.f a0 a1).bind fun bt106 => ((whole_Mul.f a0 a2).bind fun bt108 => ((whole_Add.f a1 a2).bind fun bt110 => ((whole_Mul.f bt110.1 a0).bind fun bt112 => ((whole_Add.f bt108.1 bt106.1).bind fun bt114 => ((whole_Sub.f bt110.1 a2).bind fun bt116 => ((whole_Neg.f a0).bind fun bt118 => ((whole_Add.f bt118.1 a0).bind fun bt120 => (if (wrap64 ((wrap64 ((wrap64 ((wrap64 ((wrap64 ((wrap64 ((wrap64 (bt106.2 + bt108.2)) + bt110.2)) + bt112.2)) + bt114.2)) + bt116.2)) + bt118.2)) + bt120.2)) = 0 then (if bt112.1.toList = bt114.1.toList then (if bt116.1.toList = a1.toList then (metrolablaw01_WholeObeys.j0 k a0 a1 bt106.1 (bt120.1.toList != ([48] : List UInt8))) else (metrolablaw01_WholeObeys.j0 k a0 a1 bt106.1 true)) else (metrolablaw01_WholeObeys.j0 k a0 a1 bt106.1 true)) else (metrolablaw01_WholeObeys.j0 k a0 a1 bt106.1 true)))))))))) else ((awake.f).bind fun t105 => (some t105)))
theorem metrolablaw01_WholeObeys.mono_l : ∀ k, (∀ y0 y1 y2 y3, LeO (metrolablaw01_WholeObeys.j0 k y0 y1 y2 y3) (metrolablaw01_WholeObeys.j0 (k + 1) y0 y1 y2 y3))
  | 0 => fun _ _ _ _ r h => by simp [metrolablaw01_WholeObeys.j0] at h
  | k + 1 => by
    have ih0 := metrolablaw01_WholeObeys.mono_l k
    · intro y0 y1 y2 y3
      unfold metrolablaw01_WholeObeys.j0
      repeat' first
      | (with_reducible exact ih0 _ _ _ _)
      | (with_reducible exact ZP.metrolablaw01_short.mono _ _)
      | (with_reducible exact LeO.refl _)
      | (with_reducible exact LeO.none _)
      | (with_reducible refine LeO.ite ?_ ?_)
      | (with_reducible refine LeO.bind ?_ (fun _ => ?_))
      | exact ih0 _ _ _ _
      | exact ZP.metrolablaw01_short.mono _ _
      | exact LeO.none _
      | refine LeO.ite ?_ ?_
      | refine LeO.bind ?_ (fun _ => ?_)
theorem metrolablaw01_WholeObeys.mono : ∀ a0 a1 a2 k, LeO (metrolablaw01_WholeObeys.f k a0 a1 a2) (metrolablaw01_WholeObeys.f (k + 1) a0 a1 a2) := by
  intro a0 a1 a2 k
  have ih0 := metrolablaw01_WholeObeys.mono_l k
  unfold metrolablaw01_WholeObeys.f
  repeat' first
      | (with_reducible exact ih0 _ _ _ _)
      | (with_reducible exact ZP.metrolablaw01_short.mono _ _)
      | (with_reducible exact LeO.refl _)
      | (with_reducible exact LeO.none _)
      | (with_reducible refine LeO.ite ?_ ?_)
      | (with_reducible refine LeO.bind ?_ (fun _ => ?_))
      | exact ih0 _ _ _ _
      | exact ZP.metrolablaw01_short.mono _ _
      | exact LeO.none _
      | refine LeO.ite ?_ ?_
      | refine LeO.bind ?_ (fun _ => ?_)
set_option maxHeartbeats 8000000 in
set_option maxRecDepth 100000 in
theorem metrolablaw01_WholeObeys.calls (k : Nat) (a0 : ByteArray) (a1 : ByteArray) (a2 : ByteArray) (r : Bool) (w : World) (h : metrolablaw01_WholeObeys.f k a0 a1 a2 = some r) (HE_ : Env w) :
    Calls Tryd.prog 6 #[.string a0, .string a1, .string a2] w fun e w' => e = .returned (.bool r) ∧ Below w.heap.size w w' := by
  have ENV0 := Aside0.mk HE_
  clear HE_
  have HB := Aside0.mk (Below.refl w.heap.size w)
  have H : ((ZP.metrolablaw01_short.f k (([a0, a1, a2] : List ByteArray))).bind fun t104 => (if t104 = true then ((whole_Mul.f a0 a1).bind fun bt106 => ((whole_Mul.f a0 a2).bind fun bt108 => ((whole_Add.f a1 a2).bind fun bt110 => ((whole_Mul.f bt110.1 a0).bind fun bt112 => ((whole_Add.f bt108.1 bt106.1).bind fun bt114 => ((whole_Sub.f bt110.1 a2).bind fun bt116 => ((whole_Neg.f a0).bind fun bt118 => ((whole_Add.f bt118.1 a0).bind fun bt120 => (if (wrap64 ((wrap64 ((wrap64 ((wrap64 ((wrap64 ((wrap64 ((wrap64 (bt106.2 + bt108.2)) + bt110.2)) + bt112.2)) + bt114.2)) + bt116.2)) + bt118.2)) + bt120.2)) = 0 then (if bt112.1.toList = bt114.1.toList then (if bt116.1.toList = a1.toList then (metrolablaw01_WholeObeys.j0 k a0 a1 bt106.1 (bt120.1.toList != ([48] : List UInt8))) else (metrolablaw01_WholeObeys.j0 k a0 a1 bt106.1 true)) else (metrolablaw01_WholeObeys.j0 k a0 a1 bt106.1 true)) else (metrolablaw01_WholeObeys.j0 k a0 a1 bt106.1 true)))))))))) else ((awake.f).bind fun t105 => (some t105)))) = some r := h
  clear h
  obtain ⟨y101, hy101⟩ : ∃ y_ : List ByteArray, y_ = (([a0, a1, a2] : List ByteArray)) := ⟨_, rfl⟩
  replace H : ((ZP.metrolablaw01_short.f k y101).bind fun t104 => (if t104 = true then ((whole_Mul.f a0 a1).bind fun bt106 => ((whole_Mul.f a0 a2).bind fun bt108 => ((whole_Add.f a1 a2).bind fun bt110 => ((whole_Mul.f bt110.1 a0).bind fun bt112 => ((whole_Add.f bt108.1 bt106.1).bind fun bt114 => ((whole_Sub.f bt110.1 a2).bind fun bt116 => ((whole_Neg.f a0).bind fun bt118 => ((whole_Add.f bt118.1 a0).bind fun bt120 => (if (wrap64 ((wrap64 ((wrap64 ((wrap64 ((wrap64 ((wrap64 ((wrap64 (bt106.2 + bt108.2)) + bt110.2)) + bt112.2)) + bt114.2)) + bt116.2)) + bt118.2)) + bt120.2)) = 0 then (if bt112.1.toList = bt114.1.toList then (if bt116.1.toList = a1.toList then (metrolablaw01_WholeObeys.j0 k a0 a1 bt106.1 (bt120.1.toList != ([48] : List UInt8))) else (metrolablaw01_WholeObeys.j0 k a0 a1 bt106.1 true)) else (metrolablaw01_WholeObeys.j0 k a0 a1 bt106.1 true)) else (metrolablaw01_WholeObeys.j0 k a0 a1 bt106.1 true)))))))))) else ((awake.f).bind fun t105 => (some t105)))) = some r := by first | (rw [hy101]; with_reducible exact H) | (have H2_ := (Option.bind_some _ _).symm.trans H; rw [hy101]; with_reducible exact H2_) | (have H2_ := (Option.bind_some _ _).symm.trans H; with_reducible exact H2_) | with_reducible exact H | (rw [hy101]; exact H) | exact H
  have Ny101 := Aside0.mk hy101
  clear hy101
  replace H := Option.bind_eq_some_iff.mp H
  obtain ⟨t104, A40, H⟩ := H
  replace H : (if t104 = true then ((whole_Mul.f a0 a1).bind fun bt106 => ((whole_Mul.f a0 a2).bind fun bt108 => ((whole_Add.f a1 a2).bind fun bt110 => ((whole_Mul.f bt110.1 a0).bind fun bt112 => ((whole_Add.f bt108.1 bt106.1).bind fun bt114 => ((whole_Sub.f bt110.1 a2).bind fun bt116 => ((whole_Neg.f a0).bind fun bt118 => ((whole_Add.f bt118.1 a0).bind fun bt120 => (if (wrap64 ((wrap64 ((wrap64 ((wrap64 ((wrap64 ((wrap64 ((wrap64 (bt106.2 + bt108.2)) + bt110.2)) + bt112.2)) + bt114.2)) + bt116.2)) + bt118.2)) + bt120.2)) = 0 then (if bt112.1.toList = bt114.1.toList then (if bt116.1.toList = a1.toList then (metrolablaw01_WholeObeys.j0 k a0 a1 bt106.1 (bt120.1.toList != ([48] : List UInt8))) else (metrolablaw01_WholeObeys.j0 k a0 a1 bt106.1 true)) else (metrolablaw01_WholeObeys.j0 k a0 a1 bt106.1 true)) else (metrolablaw01_WholeObeys.j0 k a0 a1 bt106.1 true)))))))))) else ((awake.f).bind fun t105 => (some t105))) = some r := H
  have A4 := Aside0.mk A40
  clear A40
  by_cases c5 : t104 = true
  · subst c5
    have H1 : ((whole_Mul.f a0 a1).bind fun bt106 => ((whole_Mul.f a0 a2).bind fun bt108 => ((whole_Add.f a1 a2).bind fun bt110 => ((whole_Mul.f bt110.1 a0).bind fun bt112 => ((whole_Add.f bt108.1 bt106.1).bind fun bt114 => ((whole_Sub.f bt110.1 a2).bind fun bt116 => ((whole_Neg.f a0).bind fun bt118 => ((whole_Add.f bt118.1 a0).bind fun bt120 => (if (wrap64 ((wrap64 ((wrap64 ((wrap64 ((wrap64 ((wrap64 ((wrap64 (bt106.2 + bt108.2)) + bt110.2)) + bt112.2)) + bt114.2)) + bt116.2)) + bt118.2)) + bt120.2)) = 0 then (if bt112.1.toList = bt114.1.toList then (if bt116.1.toList = a1.toList then (metrolablaw01_WholeObeys.j0 k a0 a1 bt106.1 (bt120.1.toList != ([48] : List UInt8))) else (metrolablaw01_WholeObeys.j0 k a0 a1 bt106.1 true)) else (metrolablaw01_WholeObeys.j0 k a0 a1 bt106.1 true)) else (metrolablaw01_WholeObeys.j0 k a0 a1 bt106.1 true)))))))))) = some r := by rw [if_pos rfl] at H; exact H
    clear H
    have H := H1
    clear H1
    replace H := Option.bind_eq_some_iff.mp H
    obtain ⟨⟨t106, t107⟩, A60, H⟩ := H
    replace H : ((whole_Mul.f a0 a2).bind fun bt108 => ((whole_Add.f a1 a2).bind fun bt110 => ((whole_Mul.f bt110.1 a0).bind fun bt112 => ((whole_Add.f bt108.1 t106).bind fun bt114 => ((whole_Sub.f bt110.1 a2).bind fun bt116 => ((whole_Neg.f a0).bind fun bt118 => ((whole_Add.f bt118.1 a0).bind fun bt120 => (if (wrap64 ((wrap64 ((wrap64 ((wrap64 ((wrap64 ((wrap64 ((wrap64 (t107 + bt108.2)) + bt110.2)) + bt112.2)) + bt114.2)) + bt116.2)) + bt118.2)) + bt120.2)) = 0 then (if bt112.1.toList = bt114.1.toList then (if bt116.1.toList = a1.toList then (metrolablaw01_WholeObeys.j0 k a0 a1 t106 (bt120.1.toList != ([48] : List UInt8))) else (metrolablaw01_WholeObeys.j0 k a0 a1 t106 true)) else (metrolablaw01_WholeObeys.j0 k a0 a1 t106 true)) else (metrolablaw01_WholeObeys.j0 k a0 a1 t106 true))))))))) = some r := H
    have A6 := Aside0.mk A60
    clear A60
    replace H := Option.bind_eq_some_iff.mp H
    obtain ⟨⟨t108, t109⟩, A70, H⟩ := H
    replace H : ((whole_Add.f a1 a2).bind fun bt110 => ((whole_Mul.f bt110.1 a0).bind fun bt112 => ((whole_Add.f t108 t106).bind fun bt114 => ((whole_Sub.f bt110.1 a2).bind fun bt116 => ((whole_Neg.f a0).bind fun bt118 => ((whole_Add.f bt118.1 a0).bind fun bt120 => (if (wrap64 ((wrap64 ((wrap64 ((wrap64 ((wrap64 ((wrap64 ((wrap64 (t107 + t109)) + bt110.2)) + bt112.2)) + bt114.2)) + bt116.2)) + bt118.2)) + bt120.2)) = 0 then (if bt112.1.toList = bt114.1.toList then (if bt116.1.toList = a1.toList then (metrolablaw01_WholeObeys.j0 k a0 a1 t106 (bt120.1.toList != ([48] : List UInt8))) else (metrolablaw01_WholeObeys.j0 k a0 a1 t106 true)) else (metrolablaw01_WholeObeys.j0 k a0 a1 t106 true)) else (metrolablaw01_WholeObeys.j0 k a0 a1 t106 true)))))))) = some r := H
    have A7 := Aside0.mk A70
    clear A70
    replace H := Option.bind_eq_some_iff.mp H
    obtain ⟨⟨t110, t111⟩, A80, H⟩ := H
    replace H : ((whole_Mul.f t110 a0).bind fun bt112 => ((whole_Add.f t108 t106).bind fun bt114 => ((whole_Sub.f t110 a2).bind fun bt116 => ((whole_Neg.f a0).bind fun bt118 => ((whole_Add.f bt118.1 a0).bind fun bt120 => (if (wrap64 ((wrap64 ((wrap64 ((wrap64 ((wrap64 ((wrap64 ((wrap64 (t107 + t109)) + t111)) + bt112.2)) + bt114.2)) + bt116.2)) + bt118.2)) + bt120.2)) = 0 then (if bt112.1.toList = bt114.1.toList then (if bt116.1.toList = a1.toList then (metrolablaw01_WholeObeys.j0 k a0 a1 t106 (bt120.1.toList != ([48] : List UInt8))) else (metrolablaw01_WholeObeys.j0 k a0 a1 t106 true)) else (metrolablaw01_WholeObeys.j0 k a0 a1 t106 true)) else (metrolablaw01_WholeObeys.j0 k a0 a1 t106 true))))))) = some r := H
    have A8 := Aside0.mk A80
    clear A80
    replace H := Option.bind_eq_some_iff.mp H
    obtain ⟨⟨t112, t113⟩, A90, H⟩ := H
    replace H : ((whole_Add.f t108 t106).bind fun bt114 => ((whole_Sub.f t110 a2).bind fun bt116 => ((whole_Neg.f a0).bind fun bt118 => ((whole_Add.f bt118.1 a0).bind fun bt120 => (if (wrap64 ((wrap64 ((wrap64 ((wrap64 ((wrap64 ((wrap64 ((wrap64 (t107 + t109)) + t111)) + t113)) + bt114.2)) + bt116.2)) + bt118.2)) + bt120.2)) = 0 then (if t112.toList = bt114.1.toList then (if bt116.1.toList = a1.toList then (metrolablaw01_WholeObeys.j0 k a0 a1 t106 (bt120.1.toList != ([48] : List UInt8))) else (metrolablaw01_WholeObeys.j0 k a0 a1 t106 true)) else (metrolablaw01_WholeObeys.j0 k a0 a1 t106 true)) else (metrolablaw01_WholeObeys.j0 k a0 a1 t106 true)))))) = some r := H
    have A9 := Aside0.mk A90
    clear A90
    replace H := Option.bind_eq_some_iff.mp H
    obtain ⟨⟨t114, t115⟩, A100, H⟩ := H
    replace H : ((whole_Sub.f t110 a2).bind fun bt116 => ((whole_Neg.f a0).bind fun bt118 => ((whole_Add.f bt118.1 a0).bind fun bt120 => (if (wrap64 ((wrap64 ((wrap64 ((wrap64 ((wrap64 ((wrap64 ((wrap64 (t107 + t109)) + t111)) + t113)) + t115)) + bt116.2)) + bt118.2)) + bt120.2)) = 0 then (if t112.toList = t114.toList then (if bt116.1.toList = a1.toList then (metrolablaw01_WholeObeys.j0 k a0 a1 t106 (bt120.1.toList != ([48] : List UInt8))) else (metrolablaw01_WholeObeys.j0 k a0 a1 t106 true)) else (metrolablaw01_WholeObeys.j0 k a0 a1 t106 true)) else (metrolablaw01_WholeObeys.j0 k a0 a1 t106 true))))) = some r := H
    have A10 := Aside0.mk A100
    clear A100
    replace H := Option.bind_eq_some_iff.mp H
    obtain ⟨⟨t116, t117⟩, A110, H⟩ := H
    replace H : ((whole_Neg.f a0).bind fun bt118 => ((whole_Add.f bt118.1 a0).bind fun bt120 => (if (wrap64 ((wrap64 ((wrap64 ((wrap64 ((wrap64 ((wrap64 ((wrap64 (t107 + t109)) + t111)) + t113)) + t115)) + t117)) + bt118.2)) + bt120.2)) = 0 then (if t112.toList = t114.toList then (if t116.toList = a1.toList then (metrolablaw01_WholeObeys.j0 k a0 a1 t106 (bt120.1.toList != ([48] : List UInt8))) else (metrolablaw01_WholeObeys.j0 k a0 a1 t106 true)) else (metrolablaw01_WholeObeys.j0 k a0 a1 t106 true)) else (metrolablaw01_WholeObeys.j0 k a0 a1 t106 true)))) = some r := H
    have A11 := Aside0.mk A110
    clear A110
    replace H := Option.bind_eq_some_iff.mp H
    obtain ⟨⟨t118, t119⟩, A120, H⟩ := H
    replace H : ((whole_Add.f t118 a0).bind fun bt120 => (if (wrap64 ((wrap64 ((wrap64 ((wrap64 ((wrap64 ((wrap64 ((wrap64 (t107 + t109)) + t111)) + t113)) + t115)) + t117)) + t119)) + bt120.2)) = 0 then (if t112.toList = t114.toList then (if t116.toList = a1.toList then (metrolablaw01_WholeObeys.j0 k a0 a1 t106 (bt120.1.toList != ([48] : List UInt8))) else (metrolablaw01_WholeObeys.j0 k a0 a1 t106 true)) else (metrolablaw01_WholeObeys.j0 k a0 a1 t106 true)) else (metrolablaw01_WholeObeys.j0 k a0 a1 t106 true))) = some r := H
    have A12 := Aside0.mk A120
    clear A120
    replace H := Option.bind_eq_some_iff.mp H
    obtain ⟨⟨t120, t121⟩, A130, H⟩ := H
    replace H : (if (wrap64 ((wrap64 ((wrap64 ((wrap64 ((wrap64 ((wrap64 ((wrap64 (t107 + t109)) + t111)) + t113)) + t115)) + t117)) + t119)) + t121)) = 0 then (if t112.toList = t114.toList then (if t116.toList = a1.toList then (metrolablaw01_WholeObeys.j0 k a0 a1 t106 (t120.toList != ([48] : List UInt8))) else (metrolablaw01_WholeObeys.j0 k a0 a1 t106 true)) else (metrolablaw01_WholeObeys.j0 k a0 a1 t106 true)) else (metrolablaw01_WholeObeys.j0 k a0 a1 t106 true)) = some r := H
    have A13 := Aside0.mk A130
    clear A130
    have HC14 := Aside0.mk H
    clear H
    go_enter Tryd.func6, Tryd.ntmps6
    go_upto_region 11 with (first | ((with_reducible refine gate_dst (N := 30) rfl ?_); refine Kd.R_lit Kd.string _ 22 ?hg (N := 30) ?hd (xs := ([a0, a1, a2] : List ByteArray)) (inner := [.string a0, .string a1, .string a2]) (ok := fun _ => True) (okp := fun _ => True) ?hr ?hp (fun _ hk => hk) trivial (Below.refl _ _) (Nat.le_refl _) (by simp) ?_; (case hd => rfl); (case hg => rfl); (case hr => first | (go_simp; done) | (go_simp; rfl)); (case hp => exact (Reps.one (show Kd.M Kd.string _ _ _ a0 [.string a0] from rfl) (Reps.one (show Kd.M Kd.string _ _ _ a1 [.string a1] from rfl) (Reps.one (show Kd.M Kd.string _ _ _ a2 [.string a2] from rfl) (Reps.none _ _))))); intro v102 w15 ho16 hb hg_ hnew_; clear hg_ hnew_; (first | rw [← Ny101.out] at ho16 | (simp only [Int.reduceToNat] at ho16; rw [← Ny101.out] at ho16)); have n0_ := Aside0.mk (Kd.R_lower ho16 (below_size (by repeat (first | (with_reducible first | exact HB.out | apply below_alloc | apply pw_below_drewN | apply below_drew1) | exact HB.out)))); have n1_ := Aside0.mk (below_step (by repeat (first | (with_reducible first | exact HB.out | apply below_alloc | apply pw_below_drewN | apply below_drew1) | exact HB.out)) hb); clear HB; have HO103 := n0_; have HB := n1_; clear n0_ n1_; clear hb ho16; obtain ⟨Ao17, co17, eo17⟩ := Kd.R_slice HO103.out; subst eo17) | ((with_reducible refine gate_callee (f := 7) rfl ?_); refine goesL_ (some 31) rfl rfl Tryd.func7 (by kernel_rfl) rfl #[.slice Ao17 y101.length co17] rfl (by (try simp only [List.map_toArray, List.map_cons, List.map_nil]); first | done | rfl | (simp only [List.length_drop, List.length_take]; rfl)) ?_; (with_reducible refine (ZP.metrolablaw01_short.calls k _ _ y101 true _ ?side1 ?side2 A4.out).mono ?_); (case side1 => repeat (first | exact (Kd.R_reads' HO103.out).2.2 | (with_reducible refine Kd.C_alloc ?_ _) | (with_reducible refine Kd.C_drewN ?_ _) | (with_reducible refine Kd.C_drew ?_))); (case side2 => exact (Kd.R_reads' HO103.out).2.1); rintro e w' ⟨rfl, ⟨nd, rfl⟩⟩; refine ⟨_, rfl, ?_⟩) | ((with_reducible refine gate_callee (f := 13) rfl ?_); refine goesL_ (some 37) rfl rfl Tryd.func13 (by kernel_rfl) rfl #[.string a0, .string a1] rfl (by (try simp only [List.map_toArray, List.map_cons, List.map_nil]); first | done | rfl | (simp only [List.length_drop, List.length_take]; rfl)) ?_; (with_reducible refine (whole_Mul.calls a0 a1 t106 t107 _ A6.out (Env.below ENV0.out (by repeat (first | (with_reducible first | exact HB.out | apply below_alloc | apply pw_below_drewN | apply below_drew1) | exact HB.out)))).mono ?_); rintro e w18 ⟨rfl, hb⟩; refine ⟨_, rfl, ?_⟩; have n0_ := Aside0.mk (Kd.R_below (by (with_reducible repeat (first | apply Kd.R_alloc | apply Kd.R_drewN | apply Kd.R_drew)); exact HO103.out) hb); have n1_ := Aside0.mk (below_step (by repeat (first | (with_reducible first | exact HB.out | apply below_alloc | apply pw_below_drewN | apply below_drew1) | exact HB.out)) hb); clear HO103; clear HB; have HO103 := n0_; have HB := n1_; clear n0_ n1_; (try clear hb); (try clear hb2); (try clear hk); (try clear hi)) | ((with_reducible refine gate_callee (f := 13) rfl ?_); refine goesL_ (some 43) rfl rfl Tryd.func13 (by kernel_rfl) rfl #[.string a0, .string a2] rfl (by (try simp only [List.map_toArray, List.map_cons, List.map_nil]); first | done | rfl | (simp only [List.length_drop, List.length_take]; rfl)) ?_; (with_reducible refine (whole_Mul.calls a0 a2 t108 t109 _ A7.out (Env.below ENV0.out (by repeat (first | (with_reducible first | exact HB.out | apply below_alloc | apply pw_below_drewN | apply below_drew1) | exact HB.out)))).mono ?_); rintro e w19 ⟨rfl, hb⟩; refine ⟨_, rfl, ?_⟩; have n0_ := Aside0.mk (Kd.R_below (by (with_reducible repeat (first | apply Kd.R_alloc | apply Kd.R_drewN | apply Kd.R_drew)); exact HO103.out) hb); have n1_ := Aside0.mk (below_step (by repeat (first | (with_reducible first | exact HB.out | apply below_alloc | apply pw_below_drewN | apply below_drew1) | exact HB.out)) hb); clear HO103; clear HB; have HO103 := n0_; have HB := n1_; clear n0_ n1_; (try clear hb); (try clear hb2); (try clear hk); (try clear hi)) | ((with_reducible refine gate_callee (f := 12) rfl ?_); refine goesL_ (some 49) rfl rfl Tryd.func12 (by kernel_rfl) rfl #[.string a1, .string a2] rfl (by (try simp only [List.map_toArray, List.map_cons, List.map_nil]); first | done | rfl | (simp only [List.length_drop, List.length_take]; rfl)) ?_; (with_reducible refine (whole_Add.calls a1 a2 t110 t111 _ A8.out (Env.below ENV0.out (by repeat (first | (with_reducible first | exact HB.out | apply below_alloc | apply pw_below_drewN | apply below_drew1) | exact HB.out)))).mono ?_); rintro e w20 ⟨rfl, hb⟩; refine ⟨_, rfl, ?_⟩; have n0_ := Aside0.mk (Kd.R_below (by (with_reducible repeat (first | apply Kd.R_alloc | apply Kd.R_drewN | apply Kd.R_drew)); exact HO103.out) hb); have n1_ := Aside0.mk (below_step (by repeat (first | (with_reducible first | exact HB.out | apply below_alloc | apply pw_below_drewN | apply below_drew1) | exact HB.out)) hb); clear HO103; clear HB; have HO103 := n0_; have HB := n1_; clear n0_ n1_; (try clear hb); (try clear hb2); (try clear hk); (try clear hi)) | ((with_reducible refine gate_callee (f := 13) rfl ?_); refine goesL_ (some 55) rfl rfl Tryd.func13 (by kernel_rfl) rfl #[.string t110, .string a0] rfl (by (try simp only [List.map_toArray, List.map_cons, List.map_nil]); first | done | rfl | (simp only [List.length_drop, List.length_take]; rfl)) ?_; (with_reducible refine (whole_Mul.calls t110 a0 t112 t113 _ A9.out (Env.below ENV0.out (by repeat (first | (with_reducible first | exact HB.out | apply below_alloc | apply pw_below_drewN | apply below_drew1) | exact HB.out)))).mono ?_); rintro e w21 ⟨rfl, hb⟩; refine ⟨_, rfl, ?_⟩; have n0_ := Aside0.mk (Kd.R_below (by (with_reducible repeat (first | apply Kd.R_alloc | apply Kd.R_drewN | apply Kd.R_drew)); exact HO103.out) hb); have n1_ := Aside0.mk (below_step (by repeat (first | (with_reducible first | exact HB.out | apply below_alloc | apply pw_below_drewN | apply below_drew1) | exact HB.out)) hb); clear HO103; clear HB; have HO103 := n0_; have HB := n1_; clear n0_ n1_; (try clear hb); (try clear hb2); (try clear hk); (try clear hi)) | ((with_reducible refine gate_callee (f := 12) rfl ?_); refine goesL_ (some 61) rfl rfl Tryd.func12 (by kernel_rfl) rfl #[.string t108, .string t106] rfl (by (try simp only [List.map_toArray, List.map_cons, List.map_nil]); first | done | rfl | (simp only [List.length_drop, List.length_take]; rfl)) ?_; (with_reducible refine (whole_Add.calls t108 t106 t114 t115 _ A10.out (Env.below ENV0.out (by repeat (first | (with_reducible first | exact HB.out | apply below_alloc | apply pw_below_drewN | apply below_drew1) | exact HB.out)))).mono ?_); rintro e w22 ⟨rfl, hb⟩; refine ⟨_, rfl, ?_⟩; have n0_ := Aside0.mk (Kd.R_below (by (with_reducible repeat (first | apply Kd.R_alloc | apply Kd.R_drewN | apply Kd.R_drew)); exact HO103.out) hb); have n1_ := Aside0.mk (below_step (by repeat (first | (with_reducible first | exact HB.out | apply below_alloc | apply pw_below_drewN | apply below_drew1) | exact HB.out)) hb); clear HO103; clear HB; have HO103 := n0_; have HB := n1_; clear n0_ n1_; (try clear hb); (try clear hb2); (try clear hk); (try clear hi)) | ((with_reducible refine gate_callee (f := 19) rfl ?_); refine goesL_ (some 67) rfl rfl Tryd.func19 (by kernel_rfl) rfl #[.string t110, .string a2] rfl (by (try simp only [List.map_toArray, List.map_cons, List.map_nil]); first | done | rfl | (simp only [List.length_drop, List.length_take]; rfl)) ?_; (with_reducible refine (whole_Sub.calls t110 a2 t116 t117 _ A11.out (Env.below ENV0.out (by repeat (first | (with_reducible first | exact HB.out | apply below_alloc | apply pw_below_drewN | apply below_drew1) | exact HB.out)))).mono ?_); rintro e w23 ⟨rfl, hb⟩; refine ⟨_, rfl, ?_⟩; have n0_ := Aside0.mk (Kd.R_below (by (with_reducible repeat (first | apply Kd.R_alloc | apply Kd.R_drewN | apply Kd.R_drew)); exact HO103.out) hb); have n1_ := Aside0.mk (below_step (by repeat (first | (with_reducible first | exact HB.out | apply below_alloc | apply pw_below_drewN | apply below_drew1) | exact HB.out)) hb); clear HO103; clear HB; have HO103 := n0_; have HB := n1_; clear n0_ n1_; (try clear hb); (try clear hb2); (try clear hk); (try clear hi)) | ((with_reducible refine gate_callee (f := 17) rfl ?_); refine goesL_ (some 72) rfl rfl Tryd.func17 (by kernel_rfl) rfl #[.string a0] rfl (by (try simp only [List.map_toArray, List.map_cons, List.map_nil]); first | done | rfl | (simp only [List.length_drop, List.length_take]; rfl)) ?_; (with_reducible refine (whole_Neg.calls a0 t118 t119 _ A12.out).mono ?_); rintro e w24 ⟨rfl, hb⟩; refine ⟨_, rfl, ?_⟩; have n0_ := Aside0.mk (Kd.R_below (by (with_reducible repeat (first | apply Kd.R_alloc | apply Kd.R_drewN | apply Kd.R_drew)); exact HO103.out) hb); have n1_ := Aside0.mk (below_step (by repeat (first | (with_reducible first | exact HB.out | apply below_alloc | apply pw_below_drewN | apply below_drew1) | exact HB.out)) hb); clear HO103; clear HB; have HO103 := n0_; have HB := n1_; clear n0_ n1_; (try clear hb); (try clear hb2); (try clear hk); (try clear hi)) | ((with_reducible refine gate_callee (f := 12) rfl ?_); refine goesL_ (some 78) rfl rfl Tryd.func12 (by kernel_rfl) rfl #[.string t118, .string a0] rfl (by (try simp only [List.map_toArray, List.map_cons, List.map_nil]); first | done | rfl | (simp only [List.length_drop, List.length_take]; rfl)) ?_; (with_reducible refine (whole_Add.calls t118 a0 t120 t121 _ A13.out (Env.below ENV0.out (by repeat (first | (with_reducible first | exact HB.out | apply below_alloc | apply pw_below_drewN | apply below_drew1) | exact HB.out)))).mono ?_); rintro e w25 ⟨rfl, hb⟩; refine ⟨_, rfl, ?_⟩; have n0_ := Aside0.mk (Kd.R_below (by (with_reducible repeat (first | apply Kd.R_alloc | apply Kd.R_drewN | apply Kd.R_drew)); exact HO103.out) hb); have n1_ := Aside0.mk (below_step (by repeat (first | (with_reducible first | exact HB.out | apply below_alloc | apply pw_below_drewN | apply below_drew1) | exact HB.out)) hb); clear HO103; clear HB; have HO103 := n0_; have HB := n1_; clear n0_ n1_; (try clear hb); (try clear hb2); (try clear hk); (try clear hi)))
    (try simp only [Act.put, List.setIfInBounds_toArray, List.set_cons_zero, List.set_cons_succ])
    go_cut [110] (fun v110 wc => ∃ (kq : Nat) (x110_13 : Bool), v110 = .bool x110_13 ∧ Aside0 (metrolablaw01_WholeObeys.j0 kq a0 a1 t106 x110_13 = some r) ∧ Aside0 (kq ≤ k) ∧ Aside0 (Below w.heap.size w wc))
    case first =>
      have H := HC14.out
      clear HC14
      by_cases c26 : (wrap64 ((wrap64 ((wrap64 ((wrap64 ((wrap64 ((wrap64 ((wrap64 (t107 + t109)) + t111)) + t113)) + t115)) + t117)) + t119)) + t121)) = 0
      · rw [if_pos c26] at H
        have c26b0 : ((wrap64 ((wrap64 ((wrap64 ((wrap64 ((wrap64 ((wrap64 ((wrap64 (t107 + t109)) + t111)) + t113)) + t115)) + t117)) + t119)) + t121)) == 0) = true := beq_iff_eq.mpr c26
        have c26b1 : ((wrap64 ((wrap64 ((wrap64 ((wrap64 ((wrap64 ((wrap64 ((wrap64 (t107 + t109)) + t111)) + t113)) + t115)) + t117)) + t119)) + t121)) != 0) = false := bne_eq_false_iff_eq.mpr c26
        clear c26
        (first | rw [c26b0] | (simp only [i64_w, i32_w]; rw [c26b0]) | skip)
        by_cases c27 : t112.toList = t114.toList
        · rw [if_pos c27] at H
          have c27b0 : (t112.toList == t114.toList) = true := beq_iff_eq.mpr c27
          have c27b1 : (t112.toList != t114.toList) = false := bne_eq_false_iff_eq.mpr c27
          clear c27
          by_cases c28 : t116.toList = a1.toList
          · rw [if_pos c28] at H
            have c28b0 : (t116.toList == a1.toList) = true := beq_iff_eq.mpr c28
            have c28b1 : (t116.toList != a1.toList) = false := bne_eq_false_iff_eq.mpr c28
            clear c28
            have H' := Aside0.mk H
            clear H
            go_wp2
            go_meet
            case rel => exact ⟨_, ((t120.toList != ([48] : List UInt8))), (by first | rfl | exact congrArg Value.bool (not_empty _) | exact congrArg Value.bool (is_empty _) | (simp; done) | (simp [*]; done)), H', ⟨by first | omega | exact Nat.le_refl _⟩, ⟨by repeat (first | (with_reducible first | exact HB.out | apply below_alloc | apply pw_below_drewN | apply below_drew1) | exact HB.out)⟩⟩
          · rw [if_neg c28] at H
            have c28b0 : (t116.toList == a1.toList) = false := beq_eq_false_iff_ne.mpr c28
            have c28b1 : (t116.toList != a1.toList) = true := bne_iff_ne.mpr c28
            have H' := Aside0.mk H
            clear H
            go_wp2
            go_meet
            case rel => exact ⟨_, (true), (by first | rfl | exact congrArg Value.bool (not_empty _) | exact congrArg Value.bool (is_empty _) | (simp; done) | (simp [*]; done)), H', ⟨by first | omega | exact Nat.le_refl _⟩, ⟨by repeat (first | (with_reducible first | exact HB.out | apply below_alloc | apply pw_below_drewN | apply below_drew1) | exact HB.out)⟩⟩
        · rw [if_neg c27] at H
          have c27b0 : (t112.toList == t114.toList) = false := beq_eq_false_iff_ne.mpr c27
          have c27b1 : (t112.toList != t114.toList) = true := bne_iff_ne.mpr c27
          have H' := Aside0.mk H
          clear H
          go_wp2
          go_meet
          case rel => exact ⟨_, (true), (by first | rfl | exact congrArg Value.bool (not_empty _) | exact congrArg Value.bool (is_empty _) | (simp; done) | (simp [*]; done)), H', ⟨by first | omega | exact Nat.le_refl _⟩, ⟨by repeat (first | (with_reducible first | exact HB.out | apply below_alloc | apply pw_below_drewN | apply below_drew1) | exact HB.out)⟩⟩
      · rw [if_neg c26] at H
        have c26b0 : ((wrap64 ((wrap64 ((wrap64 ((wrap64 ((wrap64 ((wrap64 ((wrap64 (t107 + t109)) + t111)) + t113)) + t115)) + t117)) + t119)) + t121)) == 0) = false := beq_eq_false_iff_ne.mpr c26
        have c26b1 : ((wrap64 ((wrap64 ((wrap64 ((wrap64 ((wrap64 ((wrap64 ((wrap64 (t107 + t109)) + t111)) + t113)) + t115)) + t117)) + t119)) + t121)) != 0) = true := bne_iff_ne.mpr c26
        (first | rw [c26b0] | (simp only [i64_w, i32_w]; rw [c26b0]) | skip)
        have H' := Aside0.mk H
        clear H
        go_wp2
        go_meet
        case rel => exact ⟨_, (true), (by first | rfl | exact congrArg Value.bool (not_empty _) | exact congrArg Value.bool (is_empty _) | (simp; done) | (simp [*]; done)), H', ⟨by first | omega | exact Nat.le_refl _⟩, ⟨by repeat (first | (with_reducible first | exact HB.out | apply below_alloc | apply pw_below_drewN | apply below_drew1) | exact HB.out)⟩⟩
    case rest =>
      clear HC14
      try clear c1
      try clear c2
      try clear p2
      try clear c5
      try clear c6
      try clear p6
      try clear c7
      try clear c12
      try clear c13
      try clear c17
      try clear c19
      try clear c26
      try clear c26b0
      try clear c26b1
      try clear c27
      try clear c27b0
      try clear c27b1
      try clear c28
      try clear c28b0
      try clear c28b1
      obtain ⟨kq, x110_13, rfl, HA, HJ13, HB⟩ := hcut
      cases kq with
      | zero => exact absurd HA.out (by simp [metrolablaw01_WholeObeys.j0])
      | succ kj13 =>
        have H := HA.out
        clear HA
        simp only [metrolablaw01_WholeObeys.j0] at H
        by_cases c29 : x110_13 = true
        · subst c29
          have H1 : (some false) = some r := by rw [if_pos rfl] at H; exact H
          clear H
          have H := H1
          clear H1
          obtain rfl := Option.some.inj H
          go_wp2
          go_ret
          exact ⟨by first | rfl | (simp [errW_none, errW_some] <;> rfl) | (simp [*, errW_none, errW_some] <;> rfl), by repeat (first | (with_reducible first | exact HB.out | apply below_alloc | apply pw_below_drewN | apply below_drew1) | exact HB.out)⟩
        · replace c29 := Bool.eq_false_iff.mpr c29
          subst c29
          have H1 : ((whole_Compare.f a0 a1).bind fun bt122 => ((whole_Sub.f a0 a1).bind fun bt124 => ((whole_Sign.f bt124.1).bind fun bt126 => ((whole_Mul.f a1 a0).bind fun bt128 => (if (wrap64 ((wrap64 ((wrap64 (bt122.2 + bt124.2)) + bt126.2)) + bt128.2)) = 0 then (if bt122.1 = bt126.1 then (if bt128.1.toList = t106.toList then ((awake.f).bind fun t130 => (some t130)) else (some false)) else (some false)) else (some false)))))) = some r := by rw [if_neg (show ¬ (false = true) by decide)] at H; exact H
          clear H
          have H := H1
          clear H1
          replace H := Option.bind_eq_some_iff.mp H
          obtain ⟨⟨t122, t123⟩, A300, H⟩ := H
          replace H : ((whole_Sub.f a0 a1).bind fun bt124 => ((whole_Sign.f bt124.1).bind fun bt126 => ((whole_Mul.f a1 a0).bind fun bt128 => (if (wrap64 ((wrap64 ((wrap64 (t123 + bt124.2)) + bt126.2)) + bt128.2)) = 0 then (if t122 = bt126.1 then (if bt128.1.toList = t106.toList then ((awake.f).bind fun t130 => (some t130)) else (some false)) else (some false)) else (some false))))) = some r := H
          have A30 := Aside0.mk A300
          clear A300
          replace H := Option.bind_eq_some_iff.mp H
          obtain ⟨⟨t124, t125⟩, A310, H⟩ := H
          replace H : ((whole_Sign.f t124).bind fun bt126 => ((whole_Mul.f a1 a0).bind fun bt128 => (if (wrap64 ((wrap64 ((wrap64 (t123 + t125)) + bt126.2)) + bt128.2)) = 0 then (if t122 = bt126.1 then (if bt128.1.toList = t106.toList then ((awake.f).bind fun t130 => (some t130)) else (some false)) else (some false)) else (some false)))) = some r := H
          have A31 := Aside0.mk A310
          clear A310
          replace H := Option.bind_eq_some_iff.mp H
          obtain ⟨⟨t126, t127⟩, A320, H⟩ := H
          replace H : ((whole_Mul.f a1 a0).bind fun bt128 => (if (wrap64 ((wrap64 ((wrap64 (t123 + t125)) + t127)) + bt128.2)) = 0 then (if t122 = t126 then (if bt128.1.toList = t106.toList then ((awake.f).bind fun t130 => (some t130)) else (some false)) else (some false)) else (some false))) = some r := H
          have A32 := Aside0.mk A320
          clear A320
          replace H := Option.bind_eq_some_iff.mp H
          obtain ⟨⟨t128, t129⟩, A330, H⟩ := H
          replace H : (if (wrap64 ((wrap64 ((wrap64 (t123 + t125)) + t127)) + t129)) = 0 then (if t122 = t126 then (if t128.toList = t106.toList then ((awake.f).bind fun t130 => (some t130)) else (some false)) else (some false)) else (some false)) = some r := H
          have A33 := Aside0.mk A330
          clear A330
          by_cases c34 : (wrap64 ((wrap64 ((wrap64 (t123 + t125)) + t127)) + t129)) = 0
          · rw [if_pos c34] at H
            have c34b0 : ((wrap64 ((wrap64 ((wrap64 (t123 + t125)) + t127)) + t129)) == 0) = true := beq_iff_eq.mpr c34
            have c34b1 : ((wrap64 ((wrap64 ((wrap64 (t123 + t125)) + t127)) + t129)) != 0) = false := bne_eq_false_iff_eq.mpr c34
            clear c34
            by_cases c35 : t122 = t126
            · rw [if_pos c35] at H
              have c35b0 : (t122 == t126) = true := beq_iff_eq.mpr c35
              have c35b1 : (t122 != t126) = false := bne_eq_false_iff_eq.mpr c35
              clear c35
              by_cases c36 : t128.toList = t106.toList
              · rw [if_pos c36] at H
                have c36b0 : (t128.toList == t106.toList) = true := beq_iff_eq.mpr c36
                have c36b1 : (t128.toList != t106.toList) = false := bne_eq_false_iff_eq.mpr c36
                clear c36
                replace H := Option.bind_eq_some_iff.mp H
                obtain ⟨t130, A370, H⟩ := H
                replace H : (some t130) = some r := H
                have A37 := Aside0.mk A370
                clear A370
                obtain rfl := Option.some.inj H
                go_wp2_with (first | ((with_reducible refine gate_callee (f := 20) rfl ?_); refine goesL_ (some 114) rfl rfl Tryd.func20 (by kernel_rfl) rfl #[.string a0, .string a1] rfl (by (try simp only [List.map_toArray, List.map_cons, List.map_nil]); first | done | rfl | (simp only [List.length_drop, List.length_take]; rfl)) ?_; (with_reducible refine (whole_Compare.calls a0 a1 t122 t123 _ A30.out).mono ?_); rintro e w38 ⟨rfl, hb⟩; refine ⟨_, rfl, ?_⟩; have n0_ := Aside0.mk (below_step (by repeat (first | (with_reducible first | exact HB.out | apply below_alloc | apply pw_below_drewN | apply below_drew1) | exact HB.out)) hb); clear HB; have HB := n0_; clear n0_; (try clear hb); (try clear hb2); (try clear hk); (try clear hi)) | ((with_reducible refine gate_callee (f := 19) rfl ?_); refine goesL_ (some 120) rfl rfl Tryd.func19 (by kernel_rfl) rfl #[.string a0, .string a1] rfl (by (try simp only [List.map_toArray, List.map_cons, List.map_nil]); first | done | rfl | (simp only [List.length_drop, List.length_take]; rfl)) ?_; (with_reducible refine (whole_Sub.calls a0 a1 t124 t125 _ A31.out (Env.below ENV0.out (by repeat (first | (with_reducible first | exact HB.out | apply below_alloc | apply pw_below_drewN | apply below_drew1) | exact HB.out)))).mono ?_); rintro e w39 ⟨rfl, hb⟩; refine ⟨_, rfl, ?_⟩; have n0_ := Aside0.mk (below_step (by repeat (first | (with_reducible first | exact HB.out | apply below_alloc | apply pw_below_drewN | apply below_drew1) | exact HB.out)) hb); clear HB; have HB := n0_; clear n0_; (try clear hb); (try clear hb2); (try clear hk); (try clear hi)) | ((with_reducible refine gate_callee (f := 16) rfl ?_); refine goesL_ (some 125) rfl rfl Tryd.func16 (by kernel_rfl) rfl #[.string t124] rfl (by (try simp only [List.map_toArray, List.map_cons, List.map_nil]); first | done | rfl | (simp only [List.length_drop, List.length_take]; rfl)) ?_; (with_reducible refine (whole_Sign.calls t124 t126 t127 _ A32.out).mono ?_); rintro e w40 ⟨rfl, hb⟩; refine ⟨_, rfl, ?_⟩; have n0_ := Aside0.mk (below_step (by repeat (first | (with_reducible first | exact HB.out | apply below_alloc | apply pw_below_drewN | apply below_drew1) | exact HB.out)) hb); clear HB; have HB := n0_; clear n0_; (try clear hb); (try clear hb2); (try clear hk); (try clear hi)) | ((with_reducible refine gate_callee (f := 13) rfl ?_); refine goesL_ (some 131) rfl rfl Tryd.func13 (by kernel_rfl) rfl #[.string a1, .string a0] rfl (by (try simp only [List.map_toArray, List.map_cons, List.map_nil]); first | done | rfl | (simp only [List.length_drop, List.length_take]; rfl)) ?_; (with_reducible refine (whole_Mul.calls a1 a0 t128 t129 _ A33.out (Env.below ENV0.out (by repeat (first | (with_reducible first | exact HB.out | apply below_alloc | apply pw_below_drewN | apply below_drew1) | exact HB.out)))).mono ?_); rintro e w41 ⟨rfl, hb⟩; refine ⟨_, rfl, ?_⟩; have n0_ := Aside0.mk (below_step (by repeat (first | (with_reducible first | exact HB.out | apply below_alloc | apply pw_below_drewN | apply below_drew1) | exact HB.out)) hb); clear HB; have HB := n0_; clear n0_; (try clear hb); (try clear hb2); (try clear hk); (try clear hi)) | (go_at_call 8; (with_reducible refine (awake.calls  t130 _ A37.out (Env.below ENV0.out (by repeat (first | (with_reducible first | exact HB.out | apply below_alloc | apply pw_below_drewN | apply below_drew1) | exact HB.out)))).mono ?_); rintro e w42 ⟨rfl, hb⟩; have n0_ := Aside0.mk (below_step (by repeat (first | (with_reducible first | exact HB.out | apply below_alloc | apply pw_below_drewN | apply below_drew1) | exact HB.out)) hb); clear HB; have HB := n0_; clear n0_; (try clear hb); (try clear hb2); (try clear hk); (try clear hi)))
                go_ret
                exact ⟨by first | rfl | (simp [errW_none, errW_some] <;> rfl) | (simp [*, errW_none, errW_some] <;> rfl), by repeat (first | (with_reducible first | exact HB.out | apply below_alloc | apply pw_below_drewN | apply below_drew1) | exact HB.out)⟩
              · rw [if_neg c36] at H
                have c36b0 : (t128.toList == t106.toList) = false := beq_eq_false_iff_ne.mpr c36
                have c36b1 : (t128.toList != t106.toList) = true := bne_iff_ne.mpr c36
                obtain rfl := Option.some.inj H
                go_wp2_with (first | ((with_reducible refine gate_callee (f := 20) rfl ?_); refine goesL_ (some 114) rfl rfl Tryd.func20 (by kernel_rfl) rfl #[.string a0, .string a1] rfl (by (try simp only [List.map_toArray, List.map_cons, List.map_nil]); first | done | rfl | (simp only [List.length_drop, List.length_take]; rfl)) ?_; (with_reducible refine (whole_Compare.calls a0 a1 t122 t123 _ A30.out).mono ?_); rintro e w43 ⟨rfl, hb⟩; refine ⟨_, rfl, ?_⟩; have n0_ := Aside0.mk (below_step (by repeat (first | (with_reducible first | exact HB.out | apply below_alloc | apply pw_below_drewN | apply below_drew1) | exact HB.out)) hb); clear HB; have HB := n0_; clear n0_; (try clear hb); (try clear hb2); (try clear hk); (try clear hi)) | ((with_reducible refine gate_callee (f := 19) rfl ?_); refine goesL_ (some 120) rfl rfl Tryd.func19 (by kernel_rfl) rfl #[.string a0, .string a1] rfl (by (try simp only [List.map_toArray, List.map_cons, List.map_nil]); first | done | rfl | (simp only [List.length_drop, List.length_take]; rfl)) ?_; (with_reducible refine (whole_Sub.calls a0 a1 t124 t125 _ A31.out (Env.below ENV0.out (by repeat (first | (with_reducible first | exact HB.out | apply below_alloc | apply pw_below_drewN | apply below_drew1) | exact HB.out)))).mono ?_); rintro e w44 ⟨rfl, hb⟩; refine ⟨_, rfl, ?_⟩; have n0_ := Aside0.mk (below_step (by repeat (first | (with_reducible first | exact HB.out | apply below_alloc | apply pw_below_drewN | apply below_drew1) | exact HB.out)) hb); clear HB; have HB := n0_; clear n0_; (try clear hb); (try clear hb2); (try clear hk); (try clear hi)) | ((with_reducible refine gate_callee (f := 16) rfl ?_); refine goesL_ (some 125) rfl rfl Tryd.func16 (by kernel_rfl) rfl #[.string t124] rfl (by (try simp only [List.map_toArray, List.map_cons, List.map_nil]); first | done | rfl | (simp only [List.length_drop, List.length_take]; rfl)) ?_; (with_reducible refine (whole_Sign.calls t124 t126 t127 _ A32.out).mono ?_); rintro e w45 ⟨rfl, hb⟩; refine ⟨_, rfl, ?_⟩; have n0_ := Aside0.mk (below_step (by repeat (first | (with_reducible first | exact HB.out | apply below_alloc | apply pw_below_drewN | apply below_drew1) | exact HB.out)) hb); clear HB; have HB := n0_; clear n0_; (try clear hb); (try clear hb2); (try clear hk); (try clear hi)) | ((with_reducible refine gate_callee (f := 13) rfl ?_); refine goesL_ (some 131) rfl rfl Tryd.func13 (by kernel_rfl) rfl #[.string a1, .string a0] rfl (by (try simp only [List.map_toArray, List.map_cons, List.map_nil]); first | done | rfl | (simp only [List.length_drop, List.length_take]; rfl)) ?_; (with_reducible refine (whole_Mul.calls a1 a0 t128 t129 _ A33.out (Env.below ENV0.out (by repeat (first | (with_reducible first | exact HB.out | apply below_alloc | apply pw_below_drewN | apply below_drew1) | exact HB.out)))).mono ?_); rintro e w46 ⟨rfl, hb⟩; refine ⟨_, rfl, ?_⟩; have n0_ := Aside0.mk (below_step (by repeat (first | (with_reducible first | exact HB.out | apply below_alloc | apply pw_below_drewN | apply below_drew1) | exact HB.out)) hb); clear HB; have HB := n0_; clear n0_; (try clear hb); (try clear hb2); (try clear hk); (try clear hi)))
                go_ret
                exact ⟨by first | rfl | (simp [errW_none, errW_some] <;> rfl) | (simp [*, errW_none, errW_some] <;> rfl), by repeat (first | (with_reducible first | exact HB.out | apply below_alloc | apply pw_below_drewN | apply below_drew1) | exact HB.out)⟩
            · rw [if_neg c35] at H
              have c35b0 : (t122 == t126) = false := beq_eq_false_iff_ne.mpr c35
              have c35b1 : (t122 != t126) = true := bne_iff_ne.mpr c35
              obtain rfl := Option.some.inj H
              go_wp2_with (first | ((with_reducible refine gate_callee (f := 20) rfl ?_); refine goesL_ (some 114) rfl rfl Tryd.func20 (by kernel_rfl) rfl #[.string a0, .string a1] rfl (by (try simp only [List.map_toArray, List.map_cons, List.map_nil]); first | done | rfl | (simp only [List.length_drop, List.length_take]; rfl)) ?_; (with_reducible refine (whole_Compare.calls a0 a1 t122 t123 _ A30.out).mono ?_); rintro e w47 ⟨rfl, hb⟩; refine ⟨_, rfl, ?_⟩; have n0_ := Aside0.mk (below_step (by repeat (first | (with_reducible first | exact HB.out | apply below_alloc | apply pw_below_drewN | apply below_drew1) | exact HB.out)) hb); clear HB; have HB := n0_; clear n0_; (try clear hb); (try clear hb2); (try clear hk); (try clear hi)) | ((with_reducible refine gate_callee (f := 19) rfl ?_); refine goesL_ (some 120) rfl rfl Tryd.func19 (by kernel_rfl) rfl #[.string a0, .string a1] rfl (by (try simp only [List.map_toArray, List.map_cons, List.map_nil]); first | done | rfl | (simp only [List.length_drop, List.length_take]; rfl)) ?_; (with_reducible refine (whole_Sub.calls a0 a1 t124 t125 _ A31.out (Env.below ENV0.out (by repeat (first | (with_reducible first | exact HB.out | apply below_alloc | apply pw_below_drewN | apply below_drew1) | exact HB.out)))).mono ?_); rintro e w48 ⟨rfl, hb⟩; refine ⟨_, rfl, ?_⟩; have n0_ := Aside0.mk (below_step (by repeat (first | (with_reducible first | exact HB.out | apply below_alloc | apply pw_below_drewN | apply below_drew1) | exact HB.out)) hb); clear HB; have HB := n0_; clear n0_; (try clear hb); (try clear hb2); (try clear hk); (try clear hi)) | ((with_reducible refine gate_callee (f := 16) rfl ?_); refine goesL_ (some 125) rfl rfl Tryd.func16 (by kernel_rfl) rfl #[.string t124] rfl (by (try simp only [List.map_toArray, List.map_cons, List.map_nil]); first | done | rfl | (simp only [List.length_drop, List.length_take]; rfl)) ?_; (with_reducible refine (whole_Sign.calls t124 t126 t127 _ A32.out).mono ?_); rintro e w49 ⟨rfl, hb⟩; refine ⟨_, rfl, ?_⟩; have n0_ := Aside0.mk (below_step (by repeat (first | (with_reducible first | exact HB.out | apply below_alloc | apply pw_below_drewN | apply below_drew1) | exact HB.out)) hb); clear HB; have HB := n0_; clear n0_; (try clear hb); (try clear hb2); (try clear hk); (try clear hi)) | ((with_reducible refine gate_callee (f := 13) rfl ?_); refine goesL_ (some 131) rfl rfl Tryd.func13 (by kernel_rfl) rfl #[.string a1, .string a0] rfl (by (try simp only [List.map_toArray, List.map_cons, List.map_nil]); first | done | rfl | (simp only [List.length_drop, List.length_take]; rfl)) ?_; (with_reducible refine (whole_Mul.calls a1 a0 t128 t129 _ A33.out (Env.below ENV0.out (by repeat (first | (with_reducible first | exact HB.out | apply below_alloc | apply pw_below_drewN | apply below_drew1) | exact HB.out)))).mono ?_); rintro e w50 ⟨rfl, hb⟩; refine ⟨_, rfl, ?_⟩; have n0_ := Aside0.mk (below_step (by repeat (first | (with_reducible first | exact HB.out | apply below_alloc | apply pw_below_drewN | apply below_drew1) | exact HB.out)) hb); clear HB; have HB := n0_; clear n0_; (try clear hb); (try clear hb2); (try clear hk); (try clear hi)))
              go_ret
              exact ⟨by first | rfl | (simp [errW_none, errW_some] <;> rfl) | (simp [*, errW_none, errW_some] <;> rfl), by repeat (first | (with_reducible first | exact HB.out | apply below_alloc | apply pw_below_drewN | apply below_drew1) | exact HB.out)⟩
          · rw [if_neg c34] at H
            have c34b0 : ((wrap64 ((wrap64 ((wrap64 (t123 + t125)) + t127)) + t129)) == 0) = false := beq_eq_false_iff_ne.mpr c34
            have c34b1 : ((wrap64 ((wrap64 ((wrap64 (t123 + t125)) + t127)) + t129)) != 0) = true := bne_iff_ne.mpr c34
            obtain rfl := Option.some.inj H
            go_wp2_with (first | ((with_reducible refine gate_callee (f := 20) rfl ?_); refine goesL_ (some 114) rfl rfl Tryd.func20 (by kernel_rfl) rfl #[.string a0, .string a1] rfl (by (try simp only [List.map_toArray, List.map_cons, List.map_nil]); first | done | rfl | (simp only [List.length_drop, List.length_take]; rfl)) ?_; (with_reducible refine (whole_Compare.calls a0 a1 t122 t123 _ A30.out).mono ?_); rintro e w51 ⟨rfl, hb⟩; refine ⟨_, rfl, ?_⟩; have n0_ := Aside0.mk (below_step (by repeat (first | (with_reducible first | exact HB.out | apply below_alloc | apply pw_below_drewN | apply below_drew1) | exact HB.out)) hb); clear HB; have HB := n0_; clear n0_; (try clear hb); (try clear hb2); (try clear hk); (try clear hi)) | ((with_reducible refine gate_callee (f := 19) rfl ?_); refine goesL_ (some 120) rfl rfl Tryd.func19 (by kernel_rfl) rfl #[.string a0, .string a1] rfl (by (try simp only [List.map_toArray, List.map_cons, List.map_nil]); first | done | rfl | (simp only [List.length_drop, List.length_take]; rfl)) ?_; (with_reducible refine (whole_Sub.calls a0 a1 t124 t125 _ A31.out (Env.below ENV0.out (by repeat (first | (with_reducible first | exact HB.out | apply below_alloc | apply pw_below_drewN | apply below_drew1) | exact HB.out)))).mono ?_); rintro e w52 ⟨rfl, hb⟩; refine ⟨_, rfl, ?_⟩; have n0_ := Aside0.mk (below_step (by repeat (first | (with_reducible first | exact HB.out | apply below_alloc | apply pw_below_drewN | apply below_drew1) | exact HB.out)) hb); clear HB; have HB := n0_; clear n0_; (try clear hb); (try clear hb2); (try clear hk); (try clear hi)) | ((with_reducible refine gate_callee (f := 16) rfl ?_); refine goesL_ (some 125) rfl rfl Tryd.func16 (by kernel_rfl) rfl #[.string t124] rfl (by (try simp only [List.map_toArray, List.map_cons, List.map_nil]); first | done | rfl | (simp only [List.length_drop, List.length_take]; rfl)) ?_; (with_reducible refine (whole_Sign.calls t124 t126 t127 _ A32.out).mono ?_); rintro e w53 ⟨rfl, hb⟩; refine ⟨_, rfl, ?_⟩; have n0_ := Aside0.mk (below_step (by repeat (first | (with_reducible first | exact HB.out | apply below_alloc | apply pw_below_drewN | apply below_drew1) | exact HB.out)) hb); clear HB; have HB := n0_; clear n0_; (try clear hb); (try clear hb2); (try clear hk); (try clear hi)) | ((with_reducible refine gate_callee (f := 13) rfl ?_); refine goesL_ (some 131) rfl rfl Tryd.func13 (by kernel_rfl) rfl #[.string a1, .string a0] rfl (by (try simp only [List.map_toArray, List.map_cons, List.map_nil]); first | done | rfl | (simp only [List.length_drop, List.length_take]; rfl)) ?_; (with_reducible refine (whole_Mul.calls a1 a0 t128 t129 _ A33.out (Env.below ENV0.out (by repeat (first | (with_reducible first | exact HB.out | apply below_alloc | apply pw_below_drewN | apply below_drew1) | exact HB.out)))).mono ?_); rintro e w54 ⟨rfl, hb⟩; refine ⟨_, rfl, ?_⟩; have n0_ := Aside0.mk (below_step (by repeat (first | (with_reducible first | exact HB.out | apply below_alloc | apply pw_below_drewN | apply below_drew1) | exact HB.out)) hb); clear HB; have HB := n0_; clear n0_; (try clear hb); (try clear hb2); (try clear hk); (try clear hi)))
            go_ret
            exact ⟨by first | rfl | (simp [errW_none, errW_some] <;> rfl) | (simp [*, errW_none, errW_some] <;> rfl), by repeat (first | (with_reducible first | exact HB.out | apply below_alloc | apply pw_below_drewN | apply below_drew1) | exact HB.out)⟩
  · replace c5 := Bool.eq_false_iff.mpr c5
    subst c5
    have H1 : ((awake.f).bind fun t105 => (some t105)) = some r := by rw [if_neg (show ¬ (false = true) by decide)] at H; exact H
    clear H
    have H := H1
    clear H1
    replace H := Option.bind_eq_some_iff.mp H
    obtain ⟨t105, A550, H⟩ := H
    replace H : (some t105) = some r := H
    have A55 := Aside0.mk A550
    clear A550
    obtain rfl := Option.some.inj H
    go_enter Tryd.func6, Tryd.ntmps6
    go_wp2_with (first | ((with_reducible refine gate_dst (N := 30) rfl ?_); refine Kd.R_lit Kd.string _ 22 ?hg (N := 30) ?hd (xs := ([a0, a1, a2] : List ByteArray)) (inner := [.string a0, .string a1, .string a2]) (ok := fun _ => True) (okp := fun _ => True) ?hr ?hp (fun _ hk => hk) trivial (Below.refl _ _) (Nat.le_refl _) (by simp) ?_; (case hd => rfl); (case hg => rfl); (case hr => first | (go_simp; done) | (go_simp; rfl)); (case hp => exact (Reps.one (show Kd.M Kd.string _ _ _ a0 [.string a0] from rfl) (Reps.one (show Kd.M Kd.string _ _ _ a1 [.string a1] from rfl) (Reps.one (show Kd.M Kd.string _ _ _ a2 [.string a2] from rfl) (Reps.none _ _))))); intro v102 w56 ho57 hb hg_ hnew_; clear hg_ hnew_; (first | rw [← Ny101.out] at ho57 | (simp only [Int.reduceToNat] at ho57; rw [← Ny101.out] at ho57)); have n0_ := Aside0.mk (Kd.R_lower ho57 (below_size (by repeat (first | (with_reducible first | exact HB.out | apply below_alloc | apply pw_below_drewN | apply below_drew1) | exact HB.out)))); have n1_ := Aside0.mk (below_step (by repeat (first | (with_reducible first | exact HB.out | apply below_alloc | apply pw_below_drewN | apply below_drew1) | exact HB.out)) hb); clear HB; have HO103 := n0_; have HB := n1_; clear n0_ n1_; clear hb ho57; obtain ⟨Ao58, co58, eo58⟩ := Kd.R_slice HO103.out; subst eo58) | ((with_reducible refine gate_callee (f := 7) rfl ?_); refine goesL_ (some 31) rfl rfl Tryd.func7 (by kernel_rfl) rfl #[.slice Ao58 y101.length co58] rfl (by (try simp only [List.map_toArray, List.map_cons, List.map_nil]); first | done | rfl | (simp only [List.length_drop, List.length_take]; rfl)) ?_; (with_reducible refine (ZP.metrolablaw01_short.calls k _ _ y101 false _ ?side1 ?side2 A4.out).mono ?_); (case side1 => repeat (first | exact (Kd.R_reads' HO103.out).2.2 | (with_reducible refine Kd.C_alloc ?_ _) | (with_reducible refine Kd.C_drewN ?_ _) | (with_reducible refine Kd.C_drew ?_))); (case side2 => exact (Kd.R_reads' HO103.out).2.1); rintro e w' ⟨rfl, ⟨nd, rfl⟩⟩; refine ⟨_, rfl, ?_⟩) | ((with_reducible refine gate_callee (f := 8) rfl ?_); refine goesL_ (some 33) rfl rfl Tryd.func8 (by kernel_rfl) rfl #[] rfl (by (try simp only [List.map_toArray, List.map_cons, List.map_nil]); first | done | rfl | (simp only [List.length_drop, List.length_take]; rfl)) ?_; (with_reducible refine (awake.calls  t105 _ A55.out (Env.below ENV0.out (by repeat (first | (with_reducible first | exact HB.out | apply below_alloc | apply pw_below_drewN | apply below_drew1) | exact HB.out)))).mono ?_); rintro e w59 ⟨rfl, hb⟩; refine ⟨_, rfl, ?_⟩; have n0_ := Aside0.mk (Kd.R_below (by (with_reducible repeat (first | apply Kd.R_alloc | apply Kd.R_drewN | apply Kd.R_drew)); exact HO103.out) hb); have n1_ := Aside0.mk (below_step (by repeat (first | (with_reducible first | exact HB.out | apply below_alloc | apply pw_below_drewN | apply below_drew1) | exact HB.out)) hb); clear HO103; clear HB; have HO103 := n0_; have HB := n1_; clear n0_ n1_; (try clear hb); (try clear hb2); (try clear hk); (try clear hi)))
    go_ret
    exact ⟨by first | rfl | (simp [errW_none, errW_some] <;> rfl) | (simp [*, errW_none, errW_some] <;> rfl), by repeat (first | (with_reducible first | exact HB.out | apply below_alloc | apply pw_below_drewN | apply below_drew1) | exact HB.out)⟩

end Go.Proofs.YtpkfnclbcmnckaaDoor.ZLO
