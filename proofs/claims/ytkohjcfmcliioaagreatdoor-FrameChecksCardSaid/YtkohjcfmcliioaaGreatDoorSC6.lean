/- FrameChecks: the row, and its tied card. -/
import Derived.Test.YtkohjcfmcliioaaGreatDoorSC5
import Derived.Test.YtkohjcfmcliioaaGreatDoorProg
import Derived.Below
import Derived.Deep.Draws
import Derived.Deep.AppendLies
import Derived.Maps.AppendAt
import Derived.OwnWalk
import Derived.Laws.BytesArg
import Derived.Laws.MakeOwn
import Derived.Laws.OwnMore
import Derived.Deep.OwnRows
import Derived.Tactics
import Derived.Lib.ConvBytes
import Derived.Laws.Slices
import Derived.WalkKit
import Derived.KernelRfl
import Derived.RowKit3
import Derived.Deep.LoopGhost
import Derived.Deep.QuietTactic
import Derived.BigQuiet
import Derived.WideLaws
import Derived.Deep.DeepCutAuto
import Derived.Deep.CutBlock
import Derived.Deep.RegionHeld3
import Derived.Laws.Rows
import Derived.Lib.AppendStr
import Derived.ArgAppend
import Derived.Laws.IdiomCopy
import Derived.OrdersHeld
import Derived.Laws.BitsLemmas
import Derived.RowKit
import Derived.WalkLawsBesides
import Derived.ProofKit
import Derived.ChangeArms
import Derived.Deep.Slices
import Derived.Test.YtkohjcfmcliioaaGreatDoorRows
import Derived.Lib.LaidTab
import Derived.Stop.LaidErr
import Derived.Lay
import Derived.LaidMore
import Derived.HandedShaped
import Derived.Shelf.Vars
import Derived.Test.YtkohjcfmcliioaaGreatDoorCards
import Derived.Test.YtkohjcfmcliioaaGreatDoorTie
import Derived.OpenShut
import Derived.ShutString
import Derived.ChangeOld
import Derived.SizedLaws
import Derived.SevenTiedAt
namespace Go.Proofs.YtkohjcfmcliioaaGreatDoor.ZLC
open Go.Proofs.YtkohjcfmcliioaaGreatDoor.ZA (errW errW_none errW_some S76 z76 k76 k76_open k76_mkM rd_T76 at_T76 S31 z31 k31 k31_open k31_mk rd_T31 at_T31)
open Go.RowKit Go.Proofs.YtkohjcfmcliioaaGreatDoorW.PrintWords Go.Proofs.YtkohjcfmcliioaaGreatDoorW.PrintLast Go.Proofs.YtkohjcfmcliioaaGreatDoorW.PrintMore
attribute [local go_sem] max2_int min2_int max_two min_two max_three min_three max_four min_four   -- for this text's walks alone
set_option linter.unusedVariables false
set_option linter.unusedSimpArgs false
def metrolablaw19_FrameChecks.j0 : Nat → Bool → ByteArray → Int → Int → Int → Int → Int → Int → Int → List (S31) → Int → Bool → Int → Int → List (S76) → Option (Bool)
  | 0, _, _, _, _, _, _, _, _, _, _, _, _, _, _, _ => none
  | k + 1, x12, x102000, x102001, x102002, x102003, x102004, x102005, x102006, x102007, x102008, x103000, x103001, x103002, x103003, x103004 => if x12 = true then ((awake.f).bind fun t105 => (some t105)) else ((awake.f).bind fun t106 => (if t106 = true then ((frame_Check.f x102000 x102001 x102002 x102003 x102004 x102005 x102006 x102007 x102008 x103000 x103001 x103002 x103003 x103004).bind fun t107 => ((ZU.metrolabref19_Check.f k x102000 x102001 x102002 x102003 x102004 x102005 x102006 x102007 x102008 x103000 x103001 x103002 x103003 x103004).bind fun t108 => (if t107 = t108 then ((frame_Plain.f x103000 x103001 x103002 x103003 x103004).bind fun t109 => ((ZA.metrolabref19_Plain.f k x103000 x103001 x103002 x103003 x103004).bind fun t110 => (some (t109 == t110)))) else (some false)))) else (some false)))
def metrolablaw19_FrameChecks.f (k : Nat) (a0_0 : ByteArray) (a0_1 : Int) (a0_2 : Int) (a0_3 : Int) (a0_4 : Int) (a0_5 : Int) (a0_6 : Int) (a0_7 : Int) (l0_8 : List (S31)) (a1_0 : Int) (a1_1 : Bool) (a1_2 : Int) (a1_3 : Int) (l1_4 : List (S76)) : Option (Bool) := (ZA.metrolabref18_Few.f k a0_0 a0_1 a0_2 a0_3 a0_4 a0_5 a0_6 a0_7 l0_8).bind fun t103 => (if t103 = true then ((ref_Few.f k a1_0 a1_1 a1_2 a1_3 l1_4).bind fun t104 => (metrolablaw19_FrameChecks.j0 k (!t104) a0_0 a0_1 a0_2 a0_3 a0_4 a0_5 a0_6 a0_7 l0_8 a1_0 a1_1 a1_2 a1_3 l1_4)) else (metrolablaw19_FrameChecks.j0 k true a0_0 a0_1 a0_2 a0_3 a0_4 a0_5 a0_6 a0_7 l0_8 a1_0 a1_1 a1_2 a1_3 l1_4))
theorem metrolablaw19_FrameChecks.mono_l : ∀ k, (∀ y0 y1 y2 y3 y4 y5 y6 y7 y8 y9 y10 y11 y12 y13 y14, LeO (metrolablaw19_FrameChecks.j0 k y0 y1 y2 y3 y4 y5 y6 y7 y8 y9 y10 y11 y12 y13 y14) (metrolablaw19_FrameChecks.j0 (k + 1) y0 y1 y2 y3 y4 y5 y6 y7 y8 y9 y10 y11 y12 y13 y14))
  | 0 => fun _ _ _ _ _ _ _ _ _ _ _ _ _ _ _ r h => by simp [metrolablaw19_FrameChecks.j0] at h
  | k + 1 => by
    have ih0 := metrolablaw19_FrameChecks.mono_l k
    · intro y0 y1 y2 y3 y4 y5 y6 y7 y8 y9 y10 y11 y12 y13 y14
      unfold metrolablaw19_FrameChecks.j0
      repeat' first
      | (with_reducible exact ih0 _ _ _ _ _ _ _ _ _ _ _ _ _ _ _)
      | (with_reducible exact ZA.metrolabref18_Few.mono _ _ _ _ _ _ _ _ _ _)
      | (with_reducible exact ZA.metrolabref19_Plain.mono _ _ _ _ _ _)
      | (with_reducible exact ZU.metrolabref19_Check.mono _ _ _ _ _ _ _ _ _ _ _ _ _ _ _)
      | (with_reducible exact ref_Few.mono _ _ _ _ _ _)
      | (with_reducible exact LeO.refl _)
      | (with_reducible exact LeO.none _)
      | (with_reducible refine LeO.ite ?_ ?_)
      | (with_reducible refine LeO.bind ?_ (fun _ => ?_))
      | exact ih0 _ _ _ _ _ _ _ _ _ _ _ _ _ _ _
      | exact ZA.metrolabref18_Few.mono _ _ _ _ _ _ _ _ _ _
      | exact ZA.metrolabref19_Plain.mono _ _ _ _ _ _
      | exact ZU.metrolabref19_Check.mono _ _ _ _ _ _ _ _ _ _ _ _ _ _ _
      | exact ref_Few.mono _ _ _ _ _ _
      | exact LeO.none _
      | refine LeO.ite ?_ ?_
      | refine LeO.bind ?_ (fun _ => ?_)
theorem metrolablaw19_FrameChecks.mono : ∀ a0 a1 a2 a3 a4 a5 a6 a7 a8 a9 a10 a11 a12 a13 k, LeO (metrolablaw19_FrameChecks.f k a0 a1 a2 a3 a4 a5 a6 a7 a8 a9 a10 a11 a12 a13) (metrolablaw19_FrameChecks.f (k + 1) a0 a1 a2 a3 a4 a5 a6 a7 a8 a9 a10 a11 a12 a13) := by
  intro a0 a1 a2 a3 a4 a5 a6 a7 a8 a9 a10 a11 a12 a13 k
  have ih0 := metrolablaw19_FrameChecks.mono_l k
  unfold metrolablaw19_FrameChecks.f
  repeat' first
      | (with_reducible exact ih0 _ _ _ _ _ _ _ _ _ _ _ _ _ _ _)
      | (with_reducible exact ZA.metrolabref18_Few.mono _ _ _ _ _ _ _ _ _ _)
      | (with_reducible exact ZA.metrolabref19_Plain.mono _ _ _ _ _ _)
      | (with_reducible exact ZU.metrolabref19_Check.mono _ _ _ _ _ _ _ _ _ _ _ _ _ _ _)
      | (with_reducible exact ref_Few.mono _ _ _ _ _ _)
      | (with_reducible exact LeO.refl _)
      | (with_reducible exact LeO.none _)
      | (with_reducible refine LeO.ite ?_ ?_)
      | (with_reducible refine LeO.bind ?_ (fun _ => ?_))
      | exact ih0 _ _ _ _ _ _ _ _ _ _ _ _ _ _ _
      | exact ZA.metrolabref18_Few.mono _ _ _ _ _ _ _ _ _ _
      | exact ZA.metrolabref19_Plain.mono _ _ _ _ _ _
      | exact ZU.metrolabref19_Check.mono _ _ _ _ _ _ _ _ _ _ _ _ _ _ _
      | exact ref_Few.mono _ _ _ _ _ _
      | exact LeO.none _
      | refine LeO.ite ?_ ?_
      | refine LeO.bind ?_ (fun _ => ?_)
def metrolablaw19_FrameChecks.T3 : Bool × List (List Nat × List Nat) := (true, [([], []), ([0, 0], [0]), ([1], [1]), ([1], [1]), ([2, 3, 1, 1], [1, 2, 3]), ([1], [1]), ([1], [1]), ([5, 6, 4, 1], [1, 5, 6]), ([4, 7, 1], [1, 4, 7]), ([1, 8], [1, 8]), ([9, 7], [9]), ([10], [10]), ([11, 10, 10], [10, 11]), ([10], [10]), ([13, 12, 10], [10, 13]), ([12, 14, 10], [10, 12, 14]), ([10, 15], [10, 15]), ([16, 14, 0, 1, 2, 3, 4, 5, 6, 7, 8, 9, 10, 11, 12, 13, 14, 15, 16], [16])])
def metrolablaw19_FrameChecks.B3 : List Nat := [0, 1, 3, 3, 15, 3, 3, 127, 255, 511, 1023, 2047, 4095, 2047, 16383, 32767, 65535, 131071]
theorem metrolablaw19_FrameChecks.tab3 : rtab .any (opsOf Tryz.f3 3) = metrolablaw19_FrameChecks.T3 := by kernel_rfl
theorem metrolablaw19_FrameChecks.bits3 : waitsOk metrolablaw19_FrameChecks.T3.2 metrolablaw19_FrameChecks.B3 = true := by kernel_rfl
set_option maxHeartbeats 8000000 in
set_option maxRecDepth 100000 in
theorem metrolablaw19_FrameChecks.calls (k : Nat) (a0_0 : ByteArray) (a0_1 : Int) (a0_2 : Int) (a0_3 : Int) (a0_4 : Int) (a0_5 : Int) (a0_6 : Int) (a0_7 : Int) (A0_8 : Option Addr) (c0_8 : Nat) (l0_8 : List (S31)) (a1_0 : Int) (a1_1 : Bool) (a1_2 : Int) (a1_3 : Int) (A1_4 : Option Addr) (c1_4 : Nat) (l1_4 : List (S76)) (r : Bool) (w : World) (hr0_8 : Kd.C k31 w A0_8 l0_8.length l0_8) (hc0_8 : l0_8.length ≤ c0_8) (hr1_4 : Kd.C k76 w A1_4 l1_4.length l1_4) (hc1_4 : l1_4.length ≤ c1_4) (h : metrolablaw19_FrameChecks.f k a0_0 a0_1 a0_2 a0_3 a0_4 a0_5 a0_6 a0_7 l0_8 a1_0 a1_1 a1_2 a1_3 l1_4 = some r) (HE_ : Env w) :
    Calls Tryz.prog 3 #[.agg #[.string a0_0, .int .i64 a0_1, .int .i64 a0_2, .int .i64 a0_3, .int .i64 a0_4, .int .i64 a0_5, .int .i64 a0_6, .int .i64 a0_7, .slice A0_8 l0_8.length c0_8], .agg #[.int .i64 a1_0, .bool a1_1, .int .i64 a1_2, .int .i64 a1_3, .slice A1_4 l1_4.length c1_4]] w fun e w' => e = .returned (.bool r) ∧ Below w.heap.size w w' := by
  have hu28 := Tryz.underlying28
  have hu31 := Tryz.underlying31
  have HR0_8 := Aside0.mk hr0_8
  have HC0_8 := Aside0.mk hc0_8
  clear hr0_8 hc0_8
  have HR1_4 := Aside0.mk hr1_4
  have HC1_4 := Aside0.mk hc1_4
  clear hr1_4 hc1_4
  have ENV0 := Aside0.mk HE_
  clear HE_
  have HB := Aside0.mk (Below.refl w.heap.size w)
  have H : ((ZA.metrolabref18_Few.f k a0_0 a0_1 a0_2 a0_3 a0_4 a0_5 a0_6 a0_7 l0_8).bind fun t103 => (if t103 = true then ((ref_Few.f k a1_0 a1_1 a1_2 a1_3 l1_4).bind fun t104 => (metrolablaw19_FrameChecks.j0 k (!t104) a0_0 a0_1 a0_2 a0_3 a0_4 a0_5 a0_6 a0_7 l0_8 a1_0 a1_1 a1_2 a1_3 l1_4)) else (metrolablaw19_FrameChecks.j0 k true a0_0 a0_1 a0_2 a0_3 a0_4 a0_5 a0_6 a0_7 l0_8 a1_0 a1_1 a1_2 a1_3 l1_4))) = some r := h
  clear h
  have HC3 := Aside0.mk H
  clear H
  go_enter Tryz.func3, Tryz.ntmps3
  go_upto_region 1 with (first | ((with_reducible refine gate_dst (N := 2) rfl ?_); refine box_event ?hg (N := 2) ?hd (cs := #[.string a0_0, .int .i64 a0_1, .int .i64 a0_2, .int .i64 a0_3, .int .i64 a0_4, .int .i64 a0_5, .int .i64 a0_6, .int .i64 a0_7, .slice A0_8 l0_8.length c0_8]) (t := 28) ?hr ?_; (case hd => rfl); (case hg => rfl); (case hr => first | (go_simp; done) | (go_simp; rfl)); intro gb101 hg w4 hbox hb; have n0_ := Aside0.mk (below_step (by repeat (first | (with_reducible first | exact HB.out | apply below_alloc | apply pw_below_drewN | apply below_drew1) | exact HB.out)) hb); have n1_ := Aside0.mk (hbox); have n2_ := Aside0.mk ((by rw [hg]; exact (below_size (by repeat (first | (with_reducible first | exact HB.out | apply below_alloc | apply pw_below_drewN | apply below_drew1) | exact HB.out))) : w.heap.size ≤ gb101)); have n3_ := Aside0.mk ((by rw [hg]; exact (below_size (by repeat (first | (with_reducible first | exact HB.out | apply below_alloc | apply pw_below_drewN | apply below_drew1) | exact HB.out))) : w.heap.size ≤ gb101)); clear HB; have HB := n0_; have BK101 := n1_; have GW101 := n2_; have GE101 := n3_; clear n0_ n1_ n2_ n3_; clear hb hbox hg) | ((with_reducible refine gate_dst (N := 3) rfl ?_); refine box_event ?hg (N := 3) ?hd (cs := #[.int .i64 a1_0, .bool a1_1, .int .i64 a1_2, .int .i64 a1_3, .slice A1_4 l1_4.length c1_4]) (t := 31) ?hr ?_; (case hd => rfl); (case hg => rfl); (case hr => first | (go_simp; done) | (go_simp; rfl)); intro gb102 hg w5 hbox hb; have n0_ := Aside0.mk (blk_below (g := gb101) (o := .cells #[.string a0_0, .int .i64 a0_1, .int .i64 a0_2, .int .i64 a0_3, .int .i64 a0_4, .int .i64 a0_5, .int .i64 a0_6, .int .i64 a0_7, .slice A0_8 l0_8.length c0_8] 28 (0, 0)) (by (with_reducible repeat (first | refine blk_drewN ?_ _ | refine blk_drew ?_ | refine blk_alloc ?_ _)); exact BK101.out) hb); have n1_ := Aside0.mk (below_step (by repeat (first | (with_reducible first | exact HB.out | apply below_alloc | apply pw_below_drewN | apply below_drew1 | refine below_set ?_ GE101.out) | exact HB.out)) hb); have n2_ := Aside0.mk (hbox); have n3_ := Aside0.mk ((by rw [hg]; exact (below_size (by repeat (first | (with_reducible first | exact HB.out | apply below_alloc | apply pw_below_drewN | apply below_drew1 | refine below_set ?_ GE101.out) | exact HB.out))) : w.heap.size ≤ gb102)); have n4_ := Aside0.mk ((by rw [hg]; exact (below_size (by repeat (first | (with_reducible first | exact HB.out | apply below_alloc | apply pw_below_drewN | apply below_drew1 | refine below_set ?_ GE101.out) | exact HB.out))) : w.heap.size ≤ gb102)); have n5_ := Aside0.mk ((by rw [hg]; exact Nat.ne_of_lt (blk_lt (g := gb101) (o := .cells #[.string a0_0, .int .i64 a0_1, .int .i64 a0_2, .int .i64 a0_3, .int .i64 a0_4, .int .i64 a0_5, .int .i64 a0_6, .int .i64 a0_7, .slice A0_8 l0_8.length c0_8] 28 (0, 0)) (by (with_reducible repeat (first | refine blk_drewN ?_ _ | refine blk_drew ?_ | refine blk_alloc ?_ _)); exact BK101.out)) : gb101 ≠ gb102)); have n6_ := Aside0.mk ((by rw [hg]; exact Nat.ne_of_gt (blk_lt (g := gb101) (o := .cells #[.string a0_0, .int .i64 a0_1, .int .i64 a0_2, .int .i64 a0_3, .int .i64 a0_4, .int .i64 a0_5, .int .i64 a0_6, .int .i64 a0_7, .slice A0_8 l0_8.length c0_8] 28 (0, 0)) (by (with_reducible repeat (first | refine blk_drewN ?_ _ | refine blk_drew ?_ | refine blk_alloc ?_ _)); exact BK101.out)) : gb102 ≠ gb101)); clear BK101; clear HB; have BK101 := n0_; have HB := n1_; have BK102 := n2_; have GW102 := n3_; have GE102 := n4_; have NB101_102 := n5_; have NB102_101 := n6_; clear n0_ n1_ n2_ n3_ n4_ n5_ n6_; clear hb hbox hg))
  (try simp only [Act.put, List.setIfInBounds_toArray, List.set_cons_zero, List.set_cons_succ])
  go_cut [12] (fun v12 wc => ∃ (kq : Nat) (x12_2 : Bool), v12 = .bool x12_2 ∧ Aside0 (metrolablaw19_FrameChecks.j0 kq x12_2 a0_0 a0_1 a0_2 a0_3 a0_4 a0_5 a0_6 a0_7 l0_8 a1_0 a1_1 a1_2 a1_3 l1_4 = some r) ∧ Aside0 (kq ≤ k) ∧ Aside0 (wc.heap[gb101]? = some (.cells #[.string a0_0, .int .i64 a0_1, .int .i64 a0_2, .int .i64 a0_3, .int .i64 a0_4, .int .i64 a0_5, .int .i64 a0_6, .int .i64 a0_7, (.slice A0_8 l0_8.length c0_8)] 28 (0, 0))) ∧ Aside0 (wc.heap[gb102]? = some (.cells #[.int .i64 a1_0, .bool a1_1, .int .i64 a1_2, .int .i64 a1_3, (.slice A1_4 l1_4.length c1_4)] 31 (0, 0))) ∧ Aside0 (Below w.heap.size w wc))
  case first =>
    have H := HC3.out
    clear HC3
    replace H := Option.bind_eq_some_iff.mp H
    obtain ⟨t103, A60, H⟩ := H
    replace H : (if t103 = true then ((ref_Few.f k a1_0 a1_1 a1_2 a1_3 l1_4).bind fun t104 => (metrolablaw19_FrameChecks.j0 k (!t104) a0_0 a0_1 a0_2 a0_3 a0_4 a0_5 a0_6 a0_7 l0_8 a1_0 a1_1 a1_2 a1_3 l1_4)) else (metrolablaw19_FrameChecks.j0 k true a0_0 a0_1 a0_2 a0_3 a0_4 a0_5 a0_6 a0_7 l0_8 a1_0 a1_1 a1_2 a1_3 l1_4)) = some r := H
    have A6 := Aside0.mk A60
    clear A60
    by_cases c7 : t103 = true
    · subst c7
      have H1 : ((ref_Few.f k a1_0 a1_1 a1_2 a1_3 l1_4).bind fun t104 => (metrolablaw19_FrameChecks.j0 k (!t104) a0_0 a0_1 a0_2 a0_3 a0_4 a0_5 a0_6 a0_7 l0_8 a1_0 a1_1 a1_2 a1_3 l1_4)) = some r := by rw [if_pos rfl] at H; exact H
      clear H
      have H := H1
      clear H1
      replace H := Option.bind_eq_some_iff.mp H
      obtain ⟨t104, A80, H⟩ := H
      replace H : (metrolablaw19_FrameChecks.j0 k (!t104) a0_0 a0_1 a0_2 a0_3 a0_4 a0_5 a0_6 a0_7 l0_8 a1_0 a1_1 a1_2 a1_3 l1_4) = some r := H
      have A8 := Aside0.mk A80
      clear A80
      have H' := Aside0.mk H
      clear H
      have hnb9 := NB101_102.out
      have hnc9 := NB102_101.out
      have hcz10_0 : w5.cell? ⟨gb101, 0, none⟩ = some (.string a0_0) := (blk_cell BK101.out 0).trans rfl
      have hcz10_1 : w5.cell? ⟨gb101, 1, none⟩ = some (.int .i64 a0_1) := (blk_cell BK101.out 1).trans rfl
      have hcz10_2 : w5.cell? ⟨gb101, 2, none⟩ = some (.int .i64 a0_2) := (blk_cell BK101.out 2).trans rfl
      have hcz10_3 : w5.cell? ⟨gb101, 3, none⟩ = some (.int .i64 a0_3) := (blk_cell BK101.out 3).trans rfl
      have hcz10_4 : w5.cell? ⟨gb101, 4, none⟩ = some (.int .i64 a0_4) := (blk_cell BK101.out 4).trans rfl
      have hcz10_5 : w5.cell? ⟨gb101, 5, none⟩ = some (.int .i64 a0_5) := (blk_cell BK101.out 5).trans rfl
      have hcz10_6 : w5.cell? ⟨gb101, 6, none⟩ = some (.int .i64 a0_6) := (blk_cell BK101.out 6).trans rfl
      have hcz10_7 : w5.cell? ⟨gb101, 7, none⟩ = some (.int .i64 a0_7) := (blk_cell BK101.out 7).trans rfl
      have hcz10_8 : w5.cell? ⟨gb101, 8, none⟩ = some (.slice A0_8 l0_8.length c0_8) := (blk_cell BK101.out 8).trans rfl
      have hfz10_0 := blk_frozen BK101.out 0
      have hfz10_1 := blk_frozen BK101.out 1
      have hfz10_2 := blk_frozen BK101.out 2
      have hfz10_3 := blk_frozen BK101.out 3
      have hfz10_4 := blk_frozen BK101.out 4
      have hfz10_5 := blk_frozen BK101.out 5
      have hfz10_6 := blk_frozen BK101.out 6
      have hfz10_7 := blk_frozen BK101.out 7
      have hfz10_8 := blk_frozen BK101.out 8
      go_wp2_with (first | ((with_reducible refine gate_callee (f := 10) rfl ?_); refine goesL_ (some 6) rfl rfl Tryz.func10 (by kernel_rfl) rfl #[.agg #[.string a0_0, .int .i64 a0_1, .int .i64 a0_2, .int .i64 a0_3, .int .i64 a0_4, .int .i64 a0_5, .int .i64 a0_6, .int .i64 a0_7, .slice A0_8 l0_8.length c0_8]] rfl (by (try simp only [List.map_toArray, List.map_cons, List.map_nil]); first | done | rfl | (simp only [List.length_drop, List.length_take]; rfl)) ?_; (with_reducible refine (ZA.metrolabref18_Few.calls k a0_0 a0_1 a0_2 a0_3 a0_4 a0_5 a0_6 a0_7 _ _ l0_8 true _ ?side1 ?side2 A6.out).mono ?_); (case side1 => repeat (first | exact (Kd.C_below HR0_8.out HB.out) | (with_reducible refine Kd.C_alloc ?_ _) | (with_reducible refine Kd.C_drewN ?_ _) | (with_reducible refine Kd.C_drew ?_))); (case side2 => exact HC0_8.out); rintro e w11 ⟨rfl, hb⟩; refine ⟨_, rfl, ?_⟩; have n0_ := Aside0.mk (blk_below (g := gb101) (o := .cells #[.string a0_0, .int .i64 a0_1, .int .i64 a0_2, .int .i64 a0_3, .int .i64 a0_4, .int .i64 a0_5, .int .i64 a0_6, .int .i64 a0_7, .slice A0_8 l0_8.length c0_8] 28 (0, 0)) (by (with_reducible repeat (first | refine blk_drewN ?_ _ | refine blk_drew ?_ | refine blk_alloc ?_ _)); exact BK101.out) hb); have n1_ := Aside0.mk (blk_below (g := gb102) (o := .cells #[.int .i64 a1_0, .bool a1_1, .int .i64 a1_2, .int .i64 a1_3, .slice A1_4 l1_4.length c1_4] 31 (0, 0)) (by (with_reducible repeat (first | refine blk_drewN ?_ _ | refine blk_drew ?_ | refine blk_alloc ?_ _)); exact BK102.out) hb); have n2_ := Aside0.mk (below_step (by repeat (first | (with_reducible first | exact HB.out | apply below_alloc | apply pw_below_drewN | apply below_drew1 | refine below_set ?_ GE101.out | refine below_set ?_ GE102.out) | exact HB.out)) hb); clear BK101; clear BK102; clear HB; have BK101 := n0_; have BK102 := n1_; have HB := n2_; clear n0_ n1_ n2_; (try clear hb); (try clear hb2); (try clear hk); (try clear hi); have hcz12_0 : w11.cell? ⟨gb102, 0, none⟩ = some (.int .i64 a1_0) := (blk_cell BK102.out 0).trans rfl; have hcz12_1 : w11.cell? ⟨gb102, 1, none⟩ = some (.bool a1_1) := (blk_cell BK102.out 1).trans rfl; have hcz12_2 : w11.cell? ⟨gb102, 2, none⟩ = some (.int .i64 a1_2) := (blk_cell BK102.out 2).trans rfl; have hcz12_3 : w11.cell? ⟨gb102, 3, none⟩ = some (.int .i64 a1_3) := (blk_cell BK102.out 3).trans rfl; have hcz12_4 : w11.cell? ⟨gb102, 4, none⟩ = some (.slice A1_4 l1_4.length c1_4) := (blk_cell BK102.out 4).trans rfl; have hfz12_0 := blk_frozen BK102.out 0; have hfz12_1 := blk_frozen BK102.out 1; have hfz12_2 := blk_frozen BK102.out 2; have hfz12_3 := blk_frozen BK102.out 3; have hfz12_4 := blk_frozen BK102.out 4) | (go_at_call 11; (with_reducible refine (ref_Few.calls k a1_0 a1_1 a1_2 a1_3 _ _ l1_4 t104 _ ?side1 ?side2 A8.out).mono ?_); (case side1 => repeat (first | exact (Kd.C_below HR1_4.out HB.out) | (with_reducible refine Kd.C_alloc ?_ _) | (with_reducible refine Kd.C_drewN ?_ _) | (with_reducible refine Kd.C_drew ?_))); (case side2 => exact HC1_4.out); rintro e w13 ⟨rfl, hb⟩; have n0_ := Aside0.mk (blk_below (g := gb101) (o := .cells #[.string a0_0, .int .i64 a0_1, .int .i64 a0_2, .int .i64 a0_3, .int .i64 a0_4, .int .i64 a0_5, .int .i64 a0_6, .int .i64 a0_7, .slice A0_8 l0_8.length c0_8] 28 (0, 0)) (by (with_reducible repeat (first | refine blk_drewN ?_ _ | refine blk_drew ?_ | refine blk_alloc ?_ _)); exact BK101.out) hb); have n1_ := Aside0.mk (blk_below (g := gb102) (o := .cells #[.int .i64 a1_0, .bool a1_1, .int .i64 a1_2, .int .i64 a1_3, .slice A1_4 l1_4.length c1_4] 31 (0, 0)) (by (with_reducible repeat (first | refine blk_drewN ?_ _ | refine blk_drew ?_ | refine blk_alloc ?_ _)); exact BK102.out) hb); have n2_ := Aside0.mk (below_step (by repeat (first | (with_reducible first | exact HB.out | apply below_alloc | apply pw_below_drewN | apply below_drew1 | refine below_set ?_ GE101.out | refine below_set ?_ GE102.out) | exact HB.out)) hb); clear BK101; clear BK102; clear HB; have BK101 := n0_; have BK102 := n1_; have HB := n2_; clear n0_ n1_ n2_; (try clear hb); (try clear hb2); (try clear hk); (try clear hi)))
      go_meet
      case rel => exact ⟨_, (!t104), (by first | rfl | exact congrArg Value.bool (not_empty _) | exact congrArg Value.bool (is_empty _) | (simp; done) | (simp [*]; done)), H', ⟨by first | omega | exact Nat.le_refl _⟩, ⟨by (with_reducible repeat (first | refine blk_drewN ?_ _ | refine blk_drew ?_ | refine blk_alloc ?_ _)); exact BK101.out⟩, ⟨by (with_reducible repeat (first | refine blk_drewN ?_ _ | refine blk_drew ?_ | refine blk_alloc ?_ _)); exact BK102.out⟩, ⟨by repeat (first | (with_reducible first | exact HB.out | apply below_alloc | apply pw_below_drewN | apply below_drew1 | refine below_set ?_ GE101.out | refine below_set ?_ GE102.out) | exact HB.out)⟩⟩
    · replace c7 := Bool.eq_false_iff.mpr c7
      subst c7
      have H1 : (metrolablaw19_FrameChecks.j0 k true a0_0 a0_1 a0_2 a0_3 a0_4 a0_5 a0_6 a0_7 l0_8 a1_0 a1_1 a1_2 a1_3 l1_4) = some r := by rw [if_neg (show ¬ (false = true) by decide)] at H; exact H
      clear H
      have H := H1
      clear H1
      have H' := Aside0.mk H
      clear H
      have hnb14 := NB101_102.out
      have hnc14 := NB102_101.out
      have hcz15_0 : w5.cell? ⟨gb101, 0, none⟩ = some (.string a0_0) := (blk_cell BK101.out 0).trans rfl
      have hcz15_1 : w5.cell? ⟨gb101, 1, none⟩ = some (.int .i64 a0_1) := (blk_cell BK101.out 1).trans rfl
      have hcz15_2 : w5.cell? ⟨gb101, 2, none⟩ = some (.int .i64 a0_2) := (blk_cell BK101.out 2).trans rfl
      have hcz15_3 : w5.cell? ⟨gb101, 3, none⟩ = some (.int .i64 a0_3) := (blk_cell BK101.out 3).trans rfl
      have hcz15_4 : w5.cell? ⟨gb101, 4, none⟩ = some (.int .i64 a0_4) := (blk_cell BK101.out 4).trans rfl
      have hcz15_5 : w5.cell? ⟨gb101, 5, none⟩ = some (.int .i64 a0_5) := (blk_cell BK101.out 5).trans rfl
      have hcz15_6 : w5.cell? ⟨gb101, 6, none⟩ = some (.int .i64 a0_6) := (blk_cell BK101.out 6).trans rfl
      have hcz15_7 : w5.cell? ⟨gb101, 7, none⟩ = some (.int .i64 a0_7) := (blk_cell BK101.out 7).trans rfl
      have hcz15_8 : w5.cell? ⟨gb101, 8, none⟩ = some (.slice A0_8 l0_8.length c0_8) := (blk_cell BK101.out 8).trans rfl
      have hfz15_0 := blk_frozen BK101.out 0
      have hfz15_1 := blk_frozen BK101.out 1
      have hfz15_2 := blk_frozen BK101.out 2
      have hfz15_3 := blk_frozen BK101.out 3
      have hfz15_4 := blk_frozen BK101.out 4
      have hfz15_5 := blk_frozen BK101.out 5
      have hfz15_6 := blk_frozen BK101.out 6
      have hfz15_7 := blk_frozen BK101.out 7
      have hfz15_8 := blk_frozen BK101.out 8
      go_wp2_with (first | ((with_reducible refine gate_callee (f := 10) rfl ?_); refine goesL_ (some 6) rfl rfl Tryz.func10 (by kernel_rfl) rfl #[.agg #[.string a0_0, .int .i64 a0_1, .int .i64 a0_2, .int .i64 a0_3, .int .i64 a0_4, .int .i64 a0_5, .int .i64 a0_6, .int .i64 a0_7, .slice A0_8 l0_8.length c0_8]] rfl (by (try simp only [List.map_toArray, List.map_cons, List.map_nil]); first | done | rfl | (simp only [List.length_drop, List.length_take]; rfl)) ?_; (with_reducible refine (ZA.metrolabref18_Few.calls k a0_0 a0_1 a0_2 a0_3 a0_4 a0_5 a0_6 a0_7 _ _ l0_8 false _ ?side1 ?side2 A6.out).mono ?_); (case side1 => repeat (first | exact (Kd.C_below HR0_8.out HB.out) | (with_reducible refine Kd.C_alloc ?_ _) | (with_reducible refine Kd.C_drewN ?_ _) | (with_reducible refine Kd.C_drew ?_))); (case side2 => exact HC0_8.out); rintro e w16 ⟨rfl, hb⟩; refine ⟨_, rfl, ?_⟩; have n0_ := Aside0.mk (blk_below (g := gb101) (o := .cells #[.string a0_0, .int .i64 a0_1, .int .i64 a0_2, .int .i64 a0_3, .int .i64 a0_4, .int .i64 a0_5, .int .i64 a0_6, .int .i64 a0_7, .slice A0_8 l0_8.length c0_8] 28 (0, 0)) (by (with_reducible repeat (first | refine blk_drewN ?_ _ | refine blk_drew ?_ | refine blk_alloc ?_ _)); exact BK101.out) hb); have n1_ := Aside0.mk (blk_below (g := gb102) (o := .cells #[.int .i64 a1_0, .bool a1_1, .int .i64 a1_2, .int .i64 a1_3, .slice A1_4 l1_4.length c1_4] 31 (0, 0)) (by (with_reducible repeat (first | refine blk_drewN ?_ _ | refine blk_drew ?_ | refine blk_alloc ?_ _)); exact BK102.out) hb); have n2_ := Aside0.mk (below_step (by repeat (first | (with_reducible first | exact HB.out | apply below_alloc | apply pw_below_drewN | apply below_drew1 | refine below_set ?_ GE101.out | refine below_set ?_ GE102.out) | exact HB.out)) hb); clear BK101; clear BK102; clear HB; have BK101 := n0_; have BK102 := n1_; have HB := n2_; clear n0_ n1_ n2_; (try clear hb); (try clear hb2); (try clear hk); (try clear hi)))
      go_meet
      case rel => exact ⟨_, (true), (by first | rfl | exact congrArg Value.bool (not_empty _) | exact congrArg Value.bool (is_empty _) | (simp; done) | (simp [*]; done)), H', ⟨by first | omega | exact Nat.le_refl _⟩, ⟨by (with_reducible repeat (first | refine blk_drewN ?_ _ | refine blk_drew ?_ | refine blk_alloc ?_ _)); exact BK101.out⟩, ⟨by (with_reducible repeat (first | refine blk_drewN ?_ _ | refine blk_drew ?_ | refine blk_alloc ?_ _)); exact BK102.out⟩, ⟨by repeat (first | (with_reducible first | exact HB.out | apply below_alloc | apply pw_below_drewN | apply below_drew1 | refine below_set ?_ GE101.out | refine below_set ?_ GE102.out) | exact HB.out)⟩⟩
  case rest =>
    clear HC3
    try clear c1
    try clear p2
    try clear c3
    try clear c7
    try clear c9
    try clear c10
    try clear c14
    try clear hcz10_0
    try clear hcz10_1
    try clear hcz10_2
    try clear hcz10_3
    try clear hcz10_4
    try clear hcz10_5
    try clear hcz10_6
    try clear hcz10_7
    try clear hcz10_8
    try clear hcz12_0
    try clear hcz12_1
    try clear hcz12_2
    try clear hcz12_3
    try clear hcz12_4
    try clear hcz15_0
    try clear hcz15_1
    try clear hcz15_2
    try clear hcz15_3
    try clear hcz15_4
    try clear hcz15_5
    try clear hcz15_6
    try clear hcz15_7
    try clear hcz15_8
    try clear hfz10_0
    try clear hfz10_1
    try clear hfz10_2
    try clear hfz10_3
    try clear hfz10_4
    try clear hfz10_5
    try clear hfz10_6
    try clear hfz10_7
    try clear hfz10_8
    try clear hfz12_0
    try clear hfz12_1
    try clear hfz12_2
    try clear hfz12_3
    try clear hfz12_4
    try clear hfz15_0
    try clear hfz15_1
    try clear hfz15_2
    try clear hfz15_3
    try clear hfz15_4
    try clear hfz15_5
    try clear hfz15_6
    try clear hfz15_7
    try clear hfz15_8
    obtain ⟨kq, x12_2, rfl, HA, HJ2, BK101, BK102, HB⟩ := hcut
    cases kq with
    | zero => exact absurd HA.out (by simp [metrolablaw19_FrameChecks.j0])
    | succ kj2 =>
      have H := HA.out
      clear HA
      simp only [metrolablaw19_FrameChecks.j0] at H
      by_cases c17 : x12_2 = true
      · subst c17
        have H1 : ((awake.f).bind fun t105 => (some t105)) = some r := by rw [if_pos rfl] at H; exact H
        clear H
        have H := H1
        clear H1
        replace H := Option.bind_eq_some_iff.mp H
        obtain ⟨t105, A180, H⟩ := H
        replace H : (some t105) = some r := H
        have A18 := Aside0.mk A180
        clear A180
        obtain rfl := Option.some.inj H
        go_wp2_with (first | ((with_reducible refine gate_callee (f := 12) rfl ?_); refine goesL_ (some 13) rfl rfl Tryz.func12 (by kernel_rfl) rfl #[] rfl (by (try simp only [List.map_toArray, List.map_cons, List.map_nil]); first | done | rfl | (simp only [List.length_drop, List.length_take]; rfl)) ?_; (with_reducible refine (awake.calls  t105 _ A18.out (Env.below ENV0.out (by repeat (first | (with_reducible first | exact HB.out | apply below_alloc | apply pw_below_drewN | apply below_drew1) | exact HB.out)))).mono ?_); rintro e w19 ⟨rfl, hb⟩; refine ⟨_, rfl, ?_⟩; have n0_ := Aside0.mk (blk_below (g := gb101) (o := .cells #[.string a0_0, .int .i64 a0_1, .int .i64 a0_2, .int .i64 a0_3, .int .i64 a0_4, .int .i64 a0_5, .int .i64 a0_6, .int .i64 a0_7, .slice A0_8 l0_8.length c0_8] 28 (0, 0)) (by (with_reducible repeat (first | refine blk_drewN ?_ _ | refine blk_drew ?_ | refine blk_alloc ?_ _)); exact BK101.out) hb); have n1_ := Aside0.mk (blk_below (g := gb102) (o := .cells #[.int .i64 a1_0, .bool a1_1, .int .i64 a1_2, .int .i64 a1_3, .slice A1_4 l1_4.length c1_4] 31 (0, 0)) (by (with_reducible repeat (first | refine blk_drewN ?_ _ | refine blk_drew ?_ | refine blk_alloc ?_ _)); exact BK102.out) hb); have n2_ := Aside0.mk (below_step (by repeat (first | (with_reducible first | exact HB.out | apply below_alloc | apply pw_below_drewN | apply below_drew1 | refine below_set ?_ GE101.out | refine below_set ?_ GE102.out) | exact HB.out)) hb); clear BK101; clear BK102; clear HB; have BK101 := n0_; have BK102 := n1_; have HB := n2_; clear n0_ n1_ n2_; (try clear hb); (try clear hb2); (try clear hk); (try clear hi)))
        go_ret
        exact ⟨by first | rfl | (simp [errW_none, errW_some] <;> rfl) | (simp [*, errW_none, errW_some] <;> rfl), by repeat (first | (with_reducible first | exact HB.out | apply below_alloc | apply pw_below_drewN | apply below_drew1 | refine below_set ?_ GE101.out | refine below_set ?_ GE102.out) | exact HB.out)⟩
      · replace c17 := Bool.eq_false_iff.mpr c17
        subst c17
        have H1 : ((awake.f).bind fun t106 => (if t106 = true then ((frame_Check.f a0_0 a0_1 a0_2 a0_3 a0_4 a0_5 a0_6 a0_7 l0_8 a1_0 a1_1 a1_2 a1_3 l1_4).bind fun t107 => ((ZU.metrolabref19_Check.f kj2 a0_0 a0_1 a0_2 a0_3 a0_4 a0_5 a0_6 a0_7 l0_8 a1_0 a1_1 a1_2 a1_3 l1_4).bind fun t108 => (if t107 = t108 then ((frame_Plain.f a1_0 a1_1 a1_2 a1_3 l1_4).bind fun t109 => ((ZA.metrolabref19_Plain.f kj2 a1_0 a1_1 a1_2 a1_3 l1_4).bind fun t110 => (some (t109 == t110)))) else (some false)))) else (some false))) = some r := by rw [if_neg (show ¬ (false = true) by decide)] at H; exact H
        clear H
        have H := H1
        clear H1
        replace H := Option.bind_eq_some_iff.mp H
        obtain ⟨t106, A200, H⟩ := H
        replace H : (if t106 = true then ((frame_Check.f a0_0 a0_1 a0_2 a0_3 a0_4 a0_5 a0_6 a0_7 l0_8 a1_0 a1_1 a1_2 a1_3 l1_4).bind fun t107 => ((ZU.metrolabref19_Check.f kj2 a0_0 a0_1 a0_2 a0_3 a0_4 a0_5 a0_6 a0_7 l0_8 a1_0 a1_1 a1_2 a1_3 l1_4).bind fun t108 => (if t107 = t108 then ((frame_Plain.f a1_0 a1_1 a1_2 a1_3 l1_4).bind fun t109 => ((ZA.metrolabref19_Plain.f kj2 a1_0 a1_1 a1_2 a1_3 l1_4).bind fun t110 => (some (t109 == t110)))) else (some false)))) else (some false)) = some r := H
        have A20 := Aside0.mk A200
        clear A200
        by_cases c21 : t106 = true
        · subst c21
          have H1 : ((frame_Check.f a0_0 a0_1 a0_2 a0_3 a0_4 a0_5 a0_6 a0_7 l0_8 a1_0 a1_1 a1_2 a1_3 l1_4).bind fun t107 => ((ZU.metrolabref19_Check.f kj2 a0_0 a0_1 a0_2 a0_3 a0_4 a0_5 a0_6 a0_7 l0_8 a1_0 a1_1 a1_2 a1_3 l1_4).bind fun t108 => (if t107 = t108 then ((frame_Plain.f a1_0 a1_1 a1_2 a1_3 l1_4).bind fun t109 => ((ZA.metrolabref19_Plain.f kj2 a1_0 a1_1 a1_2 a1_3 l1_4).bind fun t110 => (some (t109 == t110)))) else (some false)))) = some r := by rw [if_pos rfl] at H; exact H
          clear H
          have H := H1
          clear H1
          replace H := Option.bind_eq_some_iff.mp H
          obtain ⟨t107, A220, H⟩ := H
          replace H : ((ZU.metrolabref19_Check.f kj2 a0_0 a0_1 a0_2 a0_3 a0_4 a0_5 a0_6 a0_7 l0_8 a1_0 a1_1 a1_2 a1_3 l1_4).bind fun t108 => (if t107 = t108 then ((frame_Plain.f a1_0 a1_1 a1_2 a1_3 l1_4).bind fun t109 => ((ZA.metrolabref19_Plain.f kj2 a1_0 a1_1 a1_2 a1_3 l1_4).bind fun t110 => (some (t109 == t110)))) else (some false))) = some r := H
          have A22 := Aside0.mk A220
          clear A220
          replace H := Option.bind_eq_some_iff.mp H
          obtain ⟨t108, A230, H⟩ := H
          replace H : (if t107 = t108 then ((frame_Plain.f a1_0 a1_1 a1_2 a1_3 l1_4).bind fun t109 => ((ZA.metrolabref19_Plain.f kj2 a1_0 a1_1 a1_2 a1_3 l1_4).bind fun t110 => (some (t109 == t110)))) else (some false)) = some r := H
          have A23 := Aside0.mk A230
          clear A230
          by_cases c24 : t107 = t108
          · rw [if_pos c24] at H
            have c24b0 : (t107 == t108) = true := beq_iff_eq.mpr c24
            have c24b1 : (t107 != t108) = false := bne_eq_false_iff_eq.mpr c24
            clear c24
            replace H := Option.bind_eq_some_iff.mp H
            obtain ⟨t109, A250, H⟩ := H
            replace H : ((ZA.metrolabref19_Plain.f kj2 a1_0 a1_1 a1_2 a1_3 l1_4).bind fun t110 => (some (t109 == t110))) = some r := H
            have A25 := Aside0.mk A250
            clear A250
            replace H := Option.bind_eq_some_iff.mp H
            obtain ⟨t110, A260, H⟩ := H
            replace H : (some (t109 == t110)) = some r := H
            have A26 := Aside0.mk A260
            clear A260
            obtain rfl := Option.some.inj H
            try go_wp2
            have n0_ := Aside0.mk (blk_drew BK101.out)
            have n1_ := Aside0.mk (blk_drew BK102.out)
            have n2_ := Aside0.mk (below_drew1 HB.out)
            clear BK101
            clear BK102
            clear HB
            have BK101 := n0_
            have BK102 := n1_
            have HB := n2_
            clear n0_ n1_ n2_
            refine start_ (n := 18) (S := fun w' => w'.cell? ⟨gb101, 0, none⟩ = some (.string a0_0) ∧ w'.cell? ⟨gb101, 1, none⟩ = some (.int .i64 a0_1) ∧ w'.cell? ⟨gb101, 2, none⟩ = some (.int .i64 a0_2) ∧ w'.cell? ⟨gb101, 3, none⟩ = some (.int .i64 a0_3) ∧ w'.cell? ⟨gb101, 4, none⟩ = some (.int .i64 a0_4) ∧ w'.cell? ⟨gb101, 5, none⟩ = some (.int .i64 a0_5) ∧ w'.cell? ⟨gb101, 6, none⟩ = some (.int .i64 a0_6) ∧ w'.cell? ⟨gb101, 7, none⟩ = some (.int .i64 a0_7) ∧ w'.cell? ⟨gb101, 8, none⟩ = some (.slice A0_8 l0_8.length c0_8) ∧ w'.cell? ⟨gb102, 0, none⟩ = some (.int .i64 a1_0) ∧ w'.cell? ⟨gb102, 1, none⟩ = some (.bool a1_1) ∧ w'.cell? ⟨gb102, 2, none⟩ = some (.int .i64 a1_2) ∧ w'.cell? ⟨gb102, 3, none⟩ = some (.int .i64 a1_3) ∧ w'.cell? ⟨gb102, 4, none⟩ = some (.slice A1_4 l1_4.length c1_4)) (ds := []) #[false, false, false, false, false, false, false, false, false, false, false, false, false, false, false, false, false, false] (by kernel_rfl) rfl rfl ⟨(blk_cell BK101.out 0).trans rfl, (blk_cell BK101.out 1).trans rfl, (blk_cell BK101.out 2).trans rfl, (blk_cell BK101.out 3).trans rfl, (blk_cell BK101.out 4).trans rfl, (blk_cell BK101.out 5).trans rfl, (blk_cell BK101.out 6).trans rfl, (blk_cell BK101.out 7).trans rfl, (blk_cell BK101.out 8).trans rfl, (blk_cell BK102.out 0).trans rfl, (blk_cell BK102.out 1).trans rfl, (blk_cell BK102.out 2).trans rfl, (blk_cell BK102.out 3).trans rfl, (blk_cell BK102.out 4).trans rfl⟩ (fun hHeld => ?_); refine with_tabW metrolablaw19_FrameChecks.tab3 metrolablaw19_FrameChecks.bits3 (fun HT_ HW_ => ?_)
            generalize wc.drew = w27 at BK101 BK102 HB hHeld ⊢
            refine one_ (i := 0) (N := some 14) #[true, false, false, false, false, false, false, false, false, false, false, false, false, false, false, false, false, false] rfl rfl (one_of HT_.out (by kernel_rfl)) (by decide) (fun K hK => ?_)
            refine goes_ Tryz.func12 (by kernel_rfl) rfl #[] (by rfl) rfl rfl (by (try simp only [List.map_toArray, List.map_cons, List.map_nil]); first | done | rfl | (simp only [List.length_drop, List.length_take]; rfl)) ?_
            with_reducible refine (awake.calls  true _ A20.out (Env.below ENV0.out (by repeat (first | (with_reducible first | exact HB.out | apply below_alloc | apply pw_below_drewN | apply below_drew1) | exact HB.out)))).mono ?_
            rintro e w28 ⟨rfl, hb⟩
            refine ⟨_, rfl, ?_⟩
            have n0_ := Aside0.mk (blk_below (g := gb101) (o := .cells #[.string a0_0, .int .i64 a0_1, .int .i64 a0_2, .int .i64 a0_3, .int .i64 a0_4, .int .i64 a0_5, .int .i64 a0_6, .int .i64 a0_7, .slice A0_8 l0_8.length c0_8] 28 (0, 0)) (by (with_reducible repeat (first | refine blk_drewN ?_ _ | refine blk_drew ?_ | refine blk_alloc ?_ _)); exact BK101.out) hb)
            have n1_ := Aside0.mk (blk_below (g := gb102) (o := .cells #[.int .i64 a1_0, .bool a1_1, .int .i64 a1_2, .int .i64 a1_3, .slice A1_4 l1_4.length c1_4] 31 (0, 0)) (by (with_reducible repeat (first | refine blk_drewN ?_ _ | refine blk_drew ?_ | refine blk_alloc ?_ _)); exact BK102.out) hb)
            have n2_ := Aside0.mk (below_step (by repeat (first | (with_reducible first | exact HB.out | apply below_alloc | apply pw_below_drewN | apply below_drew1 | refine below_set ?_ GE101.out | refine below_set ?_ GE102.out) | exact HB.out)) hb)
            clear BK101
            clear BK102
            clear HB
            have BK101 := n0_
            have BK102 := n1_
            have HB := n2_
            clear n0_ n1_ n2_
            (try clear hb)
            (try clear hb2)
            (try clear hk)
            (try clear hi)
            refine hK.out _ _ ⟨(blk_cell BK101.out 0).trans rfl, (blk_cell BK101.out 1).trans rfl, (blk_cell BK101.out 2).trans rfl, (blk_cell BK101.out 3).trans rfl, (blk_cell BK101.out 4).trans rfl, (blk_cell BK101.out 5).trans rfl, (blk_cell BK101.out 6).trans rfl, (blk_cell BK101.out 7).trans rfl, (blk_cell BK101.out 8).trans rfl, (blk_cell BK102.out 0).trans rfl, (blk_cell BK102.out 1).trans rfl, (blk_cell BK102.out 2).trans rfl, (blk_cell BK102.out 3).trans rfl, (blk_cell BK102.out 4).trans rfl⟩ (fun hHeld => ?_)
            clear hK K
            refine norm_ (a' := ?_) ?_ ?_
            rotate_left
            · show Act.put _ (some 14) _ = _
              simp only [Act.put, List.setIfInBounds_toArray, List.set_cons_zero, List.set_cons_succ, i64_w, i32_w]
              rfl
            refine pure_ (i := 1) (N := some 15) (v := ?_) (a' := ?_) #[true, true, false, false, false, false, false, false, false, false, false, false, false, false, false, false, false, false] rfl rfl (any_of HT_.out (by kernel_rfl)) (fun _ _ _ h => h) (Or.inl ⟨by rfl, ?_⟩) ?_ ?_
            rotate_left
            · intro w'
              go_simp
              with_reducible rfl
            rotate_left
            · simp only [Act.put, List.setIfInBounds_toArray, List.set_cons_zero, List.set_cons_succ, i64_w, i32_w]
              rfl
            refine take_ (i := 2) (N := some 16) (v := ?_) (a' := ?_) #[true, true, true, false, false, false, false, false, false, false, false, false, false, false, false, false, false, false] rfl rfl (take_ofW HT_.out HW_.out (by kernel_rfl)) (fun _ _ _ h => h) (Or.inl ⟨by rfl, ?_⟩) hHeld ?_ ?_
            rotate_left
            · rintro w' ⟨s0, s1, s2, s3, s4, s5, s6, s7, s8, s9, s10, s11, s12, s13⟩
              go_simp
              with_reducible rfl
            rotate_left
            · simp only [Act.put, List.setIfInBounds_toArray, List.set_cons_zero, List.set_cons_succ, i64_w, i32_w]
              rfl
            refine take_ (i := 3) (N := some 17) (v := ?_) (a' := ?_) #[true, true, true, true, false, false, false, false, false, false, false, false, false, false, false, false, false, false] rfl rfl (take_ofW HT_.out HW_.out (by kernel_rfl)) (fun _ _ _ h => h) (Or.inl ⟨by rfl, ?_⟩) hHeld ?_ ?_
            rotate_left
            · rintro w' ⟨s0, s1, s2, s3, s4, s5, s6, s7, s8, s9, s10, s11, s12, s13⟩
              go_simp
              with_reducible rfl
            rotate_left
            · simp only [Act.put, List.setIfInBounds_toArray, List.set_cons_zero, List.set_cons_succ, i64_w, i32_w]
              rfl
            refine take_ (i := 5) (N := some 19) (v := ?_) (a' := ?_) #[true, true, true, true, false, true, false, false, false, false, false, false, false, false, false, false, false, false] rfl rfl (take_ofW HT_.out HW_.out (by kernel_rfl)) (fun _ _ _ h => h) (Or.inl ⟨by rfl, ?_⟩) hHeld ?_ ?_
            rotate_left
            · rintro w' ⟨s0, s1, s2, s3, s4, s5, s6, s7, s8, s9, s10, s11, s12, s13⟩
              go_simp
              with_reducible rfl
            rotate_left
            · simp only [Act.put, List.setIfInBounds_toArray, List.set_cons_zero, List.set_cons_succ, i64_w, i32_w]
              rfl
            refine take_ (i := 6) (N := some 20) (v := ?_) (a' := ?_) #[true, true, true, true, false, true, true, false, false, false, false, false, false, false, false, false, false, false] rfl rfl (take_ofW HT_.out HW_.out (by kernel_rfl)) (fun _ _ _ h => h) (Or.inl ⟨by rfl, ?_⟩) hHeld ?_ ?_
            rotate_left
            · rintro w' ⟨s0, s1, s2, s3, s4, s5, s6, s7, s8, s9, s10, s11, s12, s13⟩
              go_simp
              with_reducible rfl
            rotate_left
            · simp only [Act.put, List.setIfInBounds_toArray, List.set_cons_zero, List.set_cons_succ, i64_w, i32_w]
              rfl
            refine one_ (i := 4) (N := some 18) #[true, true, true, true, true, true, true, false, false, false, false, false, false, false, false, false, false, false] rfl rfl (one_of HT_.out (by kernel_rfl)) (by decide) (fun K hK => ?_)
            refine goes_ Tryz.func13 (by kernel_rfl) rfl #[.agg #[.string a0_0, .int .i64 a0_1, .int .i64 a0_2, .int .i64 a0_3, .int .i64 a0_4, .int .i64 a0_5, .int .i64 a0_6, .int .i64 a0_7, .slice A0_8 l0_8.length c0_8], .agg #[.int .i64 a1_0, .bool a1_1, .int .i64 a1_2, .int .i64 a1_3, .slice A1_4 l1_4.length c1_4]] (by rfl) rfl rfl (by (try simp only [List.map_toArray, List.map_cons, List.map_nil]); first | done | rfl | (simp only [List.length_drop, List.length_take]; rfl)) ?_
            with_reducible refine (frame_Check.calls a0_0 a0_1 a0_2 a0_3 a0_4 a0_5 a0_6 a0_7 _ _ l0_8 a1_0 a1_1 a1_2 a1_3 _ _ l1_4 t107 _ ?side1 ?side2 ?side3 ?side4 A22.out).mono ?_
            (case side1 => repeat (first | exact (Kd.C_below HR0_8.out HB.out) | (with_reducible refine Kd.C_alloc ?_ _) | (with_reducible refine Kd.C_drewN ?_ _) | (with_reducible refine Kd.C_drew ?_)))
            (case side2 => exact HC0_8.out)
            (case side3 => repeat (first | exact (Kd.C_below HR1_4.out HB.out) | (with_reducible refine Kd.C_alloc ?_ _) | (with_reducible refine Kd.C_drewN ?_ _) | (with_reducible refine Kd.C_drew ?_)))
            (case side4 => exact HC1_4.out)
            rintro e w29 ⟨rfl, hb⟩
            refine ⟨_, rfl, ?_⟩
            have n0_ := Aside0.mk (blk_below (g := gb101) (o := .cells #[.string a0_0, .int .i64 a0_1, .int .i64 a0_2, .int .i64 a0_3, .int .i64 a0_4, .int .i64 a0_5, .int .i64 a0_6, .int .i64 a0_7, .slice A0_8 l0_8.length c0_8] 28 (0, 0)) (by (with_reducible repeat (first | refine blk_drewN ?_ _ | refine blk_drew ?_ | refine blk_alloc ?_ _)); exact BK101.out) hb)
            have n1_ := Aside0.mk (blk_below (g := gb102) (o := .cells #[.int .i64 a1_0, .bool a1_1, .int .i64 a1_2, .int .i64 a1_3, .slice A1_4 l1_4.length c1_4] 31 (0, 0)) (by (with_reducible repeat (first | refine blk_drewN ?_ _ | refine blk_drew ?_ | refine blk_alloc ?_ _)); exact BK102.out) hb)
            have n2_ := Aside0.mk (below_step (by repeat (first | (with_reducible first | exact HB.out | apply below_alloc | apply pw_below_drewN | apply below_drew1 | refine below_set ?_ GE101.out | refine below_set ?_ GE102.out) | exact HB.out)) hb)
            clear BK101
            clear BK102
            clear HB
            have BK101 := n0_
            have BK102 := n1_
            have HB := n2_
            clear n0_ n1_ n2_
            (try clear hb)
            (try clear hb2)
            (try clear hk)
            (try clear hi)
            refine hK.out _ _ ⟨(blk_cell BK101.out 0).trans rfl, (blk_cell BK101.out 1).trans rfl, (blk_cell BK101.out 2).trans rfl, (blk_cell BK101.out 3).trans rfl, (blk_cell BK101.out 4).trans rfl, (blk_cell BK101.out 5).trans rfl, (blk_cell BK101.out 6).trans rfl, (blk_cell BK101.out 7).trans rfl, (blk_cell BK101.out 8).trans rfl, (blk_cell BK102.out 0).trans rfl, (blk_cell BK102.out 1).trans rfl, (blk_cell BK102.out 2).trans rfl, (blk_cell BK102.out 3).trans rfl, (blk_cell BK102.out 4).trans rfl⟩ (fun hHeld => ?_)
            clear hK K
            refine norm_ (a' := ?_) ?_ ?_
            rotate_left
            · show Act.put _ (some 18) _ = _
              simp only [Act.put, List.setIfInBounds_toArray, List.set_cons_zero, List.set_cons_succ, i64_w, i32_w]
              rfl
            refine one_ (i := 7) (N := some 21) #[true, true, true, true, true, true, true, true, false, false, false, false, false, false, false, false, false, false] rfl rfl (one_of HT_.out (by kernel_rfl)) (by decide) (fun K hK => ?_)
            refine goes_ Tryz.func14 (by kernel_rfl) rfl #[.agg #[.string a0_0, .int .i64 a0_1, .int .i64 a0_2, .int .i64 a0_3, .int .i64 a0_4, .int .i64 a0_5, .int .i64 a0_6, .int .i64 a0_7, .slice A0_8 l0_8.length c0_8], .agg #[.int .i64 a1_0, .bool a1_1, .int .i64 a1_2, .int .i64 a1_3, .slice A1_4 l1_4.length c1_4]] (by rfl) rfl rfl (by (try simp only [List.map_toArray, List.map_cons, List.map_nil]); first | done | rfl | (simp only [List.length_drop, List.length_take]; rfl)) ?_
            with_reducible refine (ZU.metrolabref19_Check.calls kj2 a0_0 a0_1 a0_2 a0_3 a0_4 a0_5 a0_6 a0_7 _ _ l0_8 a1_0 a1_1 a1_2 a1_3 _ _ l1_4 t108 _ ?side1 ?side2 ?side3 ?side4 A23.out).mono ?_
            (case side1 => repeat (first | exact (Kd.C_below HR0_8.out HB.out) | (with_reducible refine Kd.C_alloc ?_ _) | (with_reducible refine Kd.C_drewN ?_ _) | (with_reducible refine Kd.C_drew ?_)))
            (case side2 => exact HC0_8.out)
            (case side3 => repeat (first | exact (Kd.C_below HR1_4.out HB.out) | (with_reducible refine Kd.C_alloc ?_ _) | (with_reducible refine Kd.C_drewN ?_ _) | (with_reducible refine Kd.C_drew ?_)))
            (case side4 => exact HC1_4.out)
            rintro e w30 ⟨rfl, hb⟩
            refine ⟨_, rfl, ?_⟩
            have n0_ := Aside0.mk (blk_below (g := gb101) (o := .cells #[.string a0_0, .int .i64 a0_1, .int .i64 a0_2, .int .i64 a0_3, .int .i64 a0_4, .int .i64 a0_5, .int .i64 a0_6, .int .i64 a0_7, .slice A0_8 l0_8.length c0_8] 28 (0, 0)) (by (with_reducible repeat (first | refine blk_drewN ?_ _ | refine blk_drew ?_ | refine blk_alloc ?_ _)); exact BK101.out) hb)
            have n1_ := Aside0.mk (blk_below (g := gb102) (o := .cells #[.int .i64 a1_0, .bool a1_1, .int .i64 a1_2, .int .i64 a1_3, .slice A1_4 l1_4.length c1_4] 31 (0, 0)) (by (with_reducible repeat (first | refine blk_drewN ?_ _ | refine blk_drew ?_ | refine blk_alloc ?_ _)); exact BK102.out) hb)
            have n2_ := Aside0.mk (below_step (by repeat (first | (with_reducible first | exact HB.out | apply below_alloc | apply pw_below_drewN | apply below_drew1 | refine below_set ?_ GE101.out | refine below_set ?_ GE102.out) | exact HB.out)) hb)
            clear BK101
            clear BK102
            clear HB
            have BK101 := n0_
            have BK102 := n1_
            have HB := n2_
            clear n0_ n1_ n2_
            (try clear hb)
            (try clear hb2)
            (try clear hk)
            (try clear hi)
            refine hK.out _ _ ⟨(blk_cell BK101.out 0).trans rfl, (blk_cell BK101.out 1).trans rfl, (blk_cell BK101.out 2).trans rfl, (blk_cell BK101.out 3).trans rfl, (blk_cell BK101.out 4).trans rfl, (blk_cell BK101.out 5).trans rfl, (blk_cell BK101.out 6).trans rfl, (blk_cell BK101.out 7).trans rfl, (blk_cell BK101.out 8).trans rfl, (blk_cell BK102.out 0).trans rfl, (blk_cell BK102.out 1).trans rfl, (blk_cell BK102.out 2).trans rfl, (blk_cell BK102.out 3).trans rfl, (blk_cell BK102.out 4).trans rfl⟩ (fun hHeld => ?_)
            clear hK K
            refine norm_ (a' := ?_) ?_ ?_
            rotate_left
            · show Act.put _ (some 21) _ = _
              simp only [Act.put, List.setIfInBounds_toArray, List.set_cons_zero, List.set_cons_succ, i64_w, i32_w]
              rfl
            refine pure_ (i := 8) (N := some 22) (v := ?_) (a' := ?_) #[true, true, true, true, true, true, true, true, true, false, false, false, false, false, false, false, false, false] rfl rfl (any_of HT_.out (by kernel_rfl)) (fun _ _ _ h => h) (Or.inl ⟨by rfl, ?_⟩) ?_ ?_
            rotate_left
            · intro w'
              go_simp
              with_reducible rfl
            rotate_left
            · simp only [Act.put, List.setIfInBounds_toArray, List.set_cons_zero, List.set_cons_succ, i64_w, i32_w]
              rfl
            refine pure_ (i := 9) (N := some 23) (v := ?_) (a' := ?_) #[true, true, true, true, true, true, true, true, true, true, false, false, false, false, false, false, false, false] rfl rfl (any_of HT_.out (by kernel_rfl)) (fun _ _ _ h => h) (Or.inl ⟨by rfl, ?_⟩) ?_ ?_
            rotate_left
            · intro w'
              go_simp
              with_reducible rfl
            rotate_left
            · simp only [Act.put, List.setIfInBounds_toArray, List.set_cons_zero, List.set_cons_succ, i64_w, i32_w]
              rfl
            refine pure_ (i := 10) (N := some 24) (v := ?_) (a' := ?_) #[true, true, true, true, true, true, true, true, true, true, true, false, false, false, false, false, false, false] rfl rfl (any_of HT_.out (by kernel_rfl)) (fun _ _ _ h => h) (Or.inl ⟨by rfl, ?_⟩) ?_ ?_
            rotate_left
            · intro w'
              go_simp
              with_reducible rfl
            rotate_left
            · simp only [Act.put, List.setIfInBounds_toArray, List.set_cons_zero, List.set_cons_succ, i64_w, i32_w]
              rfl
            refine take_ (i := 11) (N := some 25) (v := ?_) (a' := ?_) #[true, true, true, true, true, true, true, true, true, true, true, true, false, false, false, false, false, false] rfl rfl (take_ofW HT_.out HW_.out (by kernel_rfl)) (fun _ _ _ h => h) (Or.inl ⟨by rfl, ?_⟩) hHeld ?_ ?_
            rotate_left
            · rintro w' ⟨s0, s1, s2, s3, s4, s5, s6, s7, s8, s9, s10, s11, s12, s13⟩
              go_simp
              with_reducible rfl
            rotate_left
            · simp only [Act.put, List.setIfInBounds_toArray, List.set_cons_zero, List.set_cons_succ, i64_w, i32_w]
              rfl
            refine take_ (i := 13) (N := some 27) (v := ?_) (a' := ?_) #[true, true, true, true, true, true, true, true, true, true, true, true, false, true, false, false, false, false] rfl rfl (take_ofW HT_.out HW_.out (by kernel_rfl)) (fun _ _ _ h => h) (Or.inl ⟨by rfl, ?_⟩) hHeld ?_ ?_
            rotate_left
            · rintro w' ⟨s0, s1, s2, s3, s4, s5, s6, s7, s8, s9, s10, s11, s12, s13⟩
              go_simp
              with_reducible rfl
            rotate_left
            · simp only [Act.put, List.setIfInBounds_toArray, List.set_cons_zero, List.set_cons_succ, i64_w, i32_w]
              rfl
            refine one_ (i := 12) (N := some 26) #[true, true, true, true, true, true, true, true, true, true, true, true, true, true, false, false, false, false] rfl rfl (one_of HT_.out (by kernel_rfl)) (by decide) (fun K hK => ?_)
            refine goes_ Tryz.func15 (by kernel_rfl) rfl #[.agg #[.int .i64 a1_0, .bool a1_1, .int .i64 a1_2, .int .i64 a1_3, .slice A1_4 l1_4.length c1_4]] (by rfl) rfl rfl (by (try simp only [List.map_toArray, List.map_cons, List.map_nil]); first | done | rfl | (simp only [List.length_drop, List.length_take]; rfl)) ?_
            with_reducible refine (frame_Plain.calls a1_0 a1_1 a1_2 a1_3 _ _ l1_4 t109 _ ?side1 ?side2 A25.out).mono ?_
            (case side1 => repeat (first | exact (Kd.C_below HR1_4.out HB.out) | (with_reducible refine Kd.C_alloc ?_ _) | (with_reducible refine Kd.C_drewN ?_ _) | (with_reducible refine Kd.C_drew ?_)))
            (case side2 => exact HC1_4.out)
            rintro e w31 ⟨rfl, hb⟩
            refine ⟨_, rfl, ?_⟩
            have n0_ := Aside0.mk (blk_below (g := gb101) (o := .cells #[.string a0_0, .int .i64 a0_1, .int .i64 a0_2, .int .i64 a0_3, .int .i64 a0_4, .int .i64 a0_5, .int .i64 a0_6, .int .i64 a0_7, .slice A0_8 l0_8.length c0_8] 28 (0, 0)) (by (with_reducible repeat (first | refine blk_drewN ?_ _ | refine blk_drew ?_ | refine blk_alloc ?_ _)); exact BK101.out) hb)
            have n1_ := Aside0.mk (blk_below (g := gb102) (o := .cells #[.int .i64 a1_0, .bool a1_1, .int .i64 a1_2, .int .i64 a1_3, .slice A1_4 l1_4.length c1_4] 31 (0, 0)) (by (with_reducible repeat (first | refine blk_drewN ?_ _ | refine blk_drew ?_ | refine blk_alloc ?_ _)); exact BK102.out) hb)
            have n2_ := Aside0.mk (below_step (by repeat (first | (with_reducible first | exact HB.out | apply below_alloc | apply pw_below_drewN | apply below_drew1 | refine below_set ?_ GE101.out | refine below_set ?_ GE102.out) | exact HB.out)) hb)
            clear BK101
            clear BK102
            clear HB
            have BK101 := n0_
            have BK102 := n1_
            have HB := n2_
            clear n0_ n1_ n2_
            (try clear hb)
            (try clear hb2)
            (try clear hk)
            (try clear hi)
            refine hK.out _ _ ⟨(blk_cell BK101.out 0).trans rfl, (blk_cell BK101.out 1).trans rfl, (blk_cell BK101.out 2).trans rfl, (blk_cell BK101.out 3).trans rfl, (blk_cell BK101.out 4).trans rfl, (blk_cell BK101.out 5).trans rfl, (blk_cell BK101.out 6).trans rfl, (blk_cell BK101.out 7).trans rfl, (blk_cell BK101.out 8).trans rfl, (blk_cell BK102.out 0).trans rfl, (blk_cell BK102.out 1).trans rfl, (blk_cell BK102.out 2).trans rfl, (blk_cell BK102.out 3).trans rfl, (blk_cell BK102.out 4).trans rfl⟩ (fun hHeld => ?_)
            clear hK K
            refine norm_ (a' := ?_) ?_ ?_
            rotate_left
            · show Act.put _ (some 26) _ = _
              simp only [Act.put, List.setIfInBounds_toArray, List.set_cons_zero, List.set_cons_succ, i64_w, i32_w]
              rfl
            refine one_ (i := 14) (N := some 28) #[true, true, true, true, true, true, true, true, true, true, true, true, true, true, true, false, false, false] rfl rfl (one_of HT_.out (by kernel_rfl)) (by decide) (fun K hK => ?_)
            refine goes_ Tryz.func16 (by kernel_rfl) rfl #[.agg #[.int .i64 a1_0, .bool a1_1, .int .i64 a1_2, .int .i64 a1_3, .slice A1_4 l1_4.length c1_4]] (by rfl) rfl rfl (by (try simp only [List.map_toArray, List.map_cons, List.map_nil]); first | done | rfl | (simp only [List.length_drop, List.length_take]; rfl)) ?_
            with_reducible refine (ZA.metrolabref19_Plain.calls kj2 a1_0 a1_1 a1_2 a1_3 _ _ l1_4 t110 _ ?side1 ?side2 A26.out).mono ?_
            (case side1 => repeat (first | exact (Kd.C_below HR1_4.out HB.out) | (with_reducible refine Kd.C_alloc ?_ _) | (with_reducible refine Kd.C_drewN ?_ _) | (with_reducible refine Kd.C_drew ?_)))
            (case side2 => exact HC1_4.out)
            rintro e w32 ⟨rfl, hb⟩
            refine ⟨_, rfl, ?_⟩
            have n0_ := Aside0.mk (blk_below (g := gb101) (o := .cells #[.string a0_0, .int .i64 a0_1, .int .i64 a0_2, .int .i64 a0_3, .int .i64 a0_4, .int .i64 a0_5, .int .i64 a0_6, .int .i64 a0_7, .slice A0_8 l0_8.length c0_8] 28 (0, 0)) (by (with_reducible repeat (first | refine blk_drewN ?_ _ | refine blk_drew ?_ | refine blk_alloc ?_ _)); exact BK101.out) hb)
            have n1_ := Aside0.mk (blk_below (g := gb102) (o := .cells #[.int .i64 a1_0, .bool a1_1, .int .i64 a1_2, .int .i64 a1_3, .slice A1_4 l1_4.length c1_4] 31 (0, 0)) (by (with_reducible repeat (first | refine blk_drewN ?_ _ | refine blk_drew ?_ | refine blk_alloc ?_ _)); exact BK102.out) hb)
            have n2_ := Aside0.mk (below_step (by repeat (first | (with_reducible first | exact HB.out | apply below_alloc | apply pw_below_drewN | apply below_drew1 | refine below_set ?_ GE101.out | refine below_set ?_ GE102.out) | exact HB.out)) hb)
            clear BK101
            clear BK102
            clear HB
            have BK101 := n0_
            have BK102 := n1_
            have HB := n2_
            clear n0_ n1_ n2_
            (try clear hb)
            (try clear hb2)
            (try clear hk)
            (try clear hi)
            refine hK.out _ _ ⟨(blk_cell BK101.out 0).trans rfl, (blk_cell BK101.out 1).trans rfl, (blk_cell BK101.out 2).trans rfl, (blk_cell BK101.out 3).trans rfl, (blk_cell BK101.out 4).trans rfl, (blk_cell BK101.out 5).trans rfl, (blk_cell BK101.out 6).trans rfl, (blk_cell BK101.out 7).trans rfl, (blk_cell BK101.out 8).trans rfl, (blk_cell BK102.out 0).trans rfl, (blk_cell BK102.out 1).trans rfl, (blk_cell BK102.out 2).trans rfl, (blk_cell BK102.out 3).trans rfl, (blk_cell BK102.out 4).trans rfl⟩ (fun hHeld => ?_)
            clear hK K
            refine norm_ (a' := ?_) ?_ ?_
            rotate_left
            · show Act.put _ (some 28) _ = _
              simp only [Act.put, List.setIfInBounds_toArray, List.set_cons_zero, List.set_cons_succ, i64_w, i32_w]
              rfl
            refine pure_ (i := 15) (N := some 29) (v := ?_) (a' := ?_) #[true, true, true, true, true, true, true, true, true, true, true, true, true, true, true, true, false, false] rfl rfl (any_of HT_.out (by kernel_rfl)) (fun _ _ _ h => h) (Or.inl ⟨by rfl, ?_⟩) ?_ ?_
            rotate_left
            · intro w'
              go_simp
              with_reducible rfl
            rotate_left
            · simp only [Act.put, List.setIfInBounds_toArray, List.set_cons_zero, List.set_cons_succ, i64_w, i32_w]
              rfl
            refine pure_ (i := 16) (N := some 30) (v := ?_) (a' := ?_) #[true, true, true, true, true, true, true, true, true, true, true, true, true, true, true, true, true, false] rfl rfl (any_of HT_.out (by kernel_rfl)) (fun _ _ _ h => h) (Or.inl ⟨by rfl, ?_⟩) ?_ ?_
            rotate_left
            · intro w'
              go_simp
              with_reducible rfl
            rotate_left
            · simp only [Act.put, List.setIfInBounds_toArray, List.set_cons_zero, List.set_cons_succ, i64_w, i32_w]
              rfl
            refine pure_ (i := 17) (N := some 4) (v := ?_) (a' := ?_) #[true, true, true, true, true, true, true, true, true, true, true, true, true, true, true, true, true, true] rfl rfl (any_of HT_.out (by kernel_rfl)) (fun _ _ _ h => h) (Or.inl ⟨by rfl, ?_⟩) ?_ ?_
            rotate_left
            · intro w'
              go_simp
              with_reducible rfl
            rotate_left
            · simp only [Act.put, List.setIfInBounds_toArray, List.set_cons_zero, List.set_cons_succ, i64_w, i32_w]
              rfl
            refine done_ (done_of HT_.out (by kernel_rfl)) ?_
            try go_wp2
            go_ret
            exact ⟨by first | rfl | (simp [errW_none, errW_some] <;> rfl) | (simp [*, errW_none, errW_some] <;> rfl), by repeat (first | (with_reducible first | exact HB.out | apply below_alloc | apply pw_below_drewN | apply below_drew1 | refine below_set ?_ GE101.out | refine below_set ?_ GE102.out) | exact HB.out)⟩
          · rw [if_neg c24] at H
            have c24b0 : (t107 == t108) = false := beq_eq_false_iff_ne.mpr c24
            have c24b1 : (t107 != t108) = true := bne_iff_ne.mpr c24
            obtain rfl := Option.some.inj H
            try go_wp2
            have n0_ := Aside0.mk (blk_drew BK101.out)
            have n1_ := Aside0.mk (blk_drew BK102.out)
            have n2_ := Aside0.mk (below_drew1 HB.out)
            clear BK101
            clear BK102
            clear HB
            have BK101 := n0_
            have BK102 := n1_
            have HB := n2_
            clear n0_ n1_ n2_
            refine start_ (n := 18) (S := fun w' => w'.cell? ⟨gb101, 0, none⟩ = some (.string a0_0) ∧ w'.cell? ⟨gb101, 1, none⟩ = some (.int .i64 a0_1) ∧ w'.cell? ⟨gb101, 2, none⟩ = some (.int .i64 a0_2) ∧ w'.cell? ⟨gb101, 3, none⟩ = some (.int .i64 a0_3) ∧ w'.cell? ⟨gb101, 4, none⟩ = some (.int .i64 a0_4) ∧ w'.cell? ⟨gb101, 5, none⟩ = some (.int .i64 a0_5) ∧ w'.cell? ⟨gb101, 6, none⟩ = some (.int .i64 a0_6) ∧ w'.cell? ⟨gb101, 7, none⟩ = some (.int .i64 a0_7) ∧ w'.cell? ⟨gb101, 8, none⟩ = some (.slice A0_8 l0_8.length c0_8) ∧ w'.cell? ⟨gb102, 0, none⟩ = some (.int .i64 a1_0) ∧ w'.cell? ⟨gb102, 1, none⟩ = some (.bool a1_1) ∧ w'.cell? ⟨gb102, 2, none⟩ = some (.int .i64 a1_2) ∧ w'.cell? ⟨gb102, 3, none⟩ = some (.int .i64 a1_3) ∧ w'.cell? ⟨gb102, 4, none⟩ = some (.slice A1_4 l1_4.length c1_4)) (ds := []) #[false, false, false, false, false, false, false, false, false, false, false, false, false, false, false, false, false, false] (by kernel_rfl) rfl rfl ⟨(blk_cell BK101.out 0).trans rfl, (blk_cell BK101.out 1).trans rfl, (blk_cell BK101.out 2).trans rfl, (blk_cell BK101.out 3).trans rfl, (blk_cell BK101.out 4).trans rfl, (blk_cell BK101.out 5).trans rfl, (blk_cell BK101.out 6).trans rfl, (blk_cell BK101.out 7).trans rfl, (blk_cell BK101.out 8).trans rfl, (blk_cell BK102.out 0).trans rfl, (blk_cell BK102.out 1).trans rfl, (blk_cell BK102.out 2).trans rfl, (blk_cell BK102.out 3).trans rfl, (blk_cell BK102.out 4).trans rfl⟩ (fun hHeld => ?_); refine with_tabW metrolablaw19_FrameChecks.tab3 metrolablaw19_FrameChecks.bits3 (fun HT_ HW_ => ?_)
            generalize wc.drew = w33 at BK101 BK102 HB hHeld ⊢
            refine one_ (i := 0) (N := some 14) #[true, false, false, false, false, false, false, false, false, false, false, false, false, false, false, false, false, false] rfl rfl (one_of HT_.out (by kernel_rfl)) (by decide) (fun K hK => ?_)
            refine goes_ Tryz.func12 (by kernel_rfl) rfl #[] (by rfl) rfl rfl (by (try simp only [List.map_toArray, List.map_cons, List.map_nil]); first | done | rfl | (simp only [List.length_drop, List.length_take]; rfl)) ?_
            with_reducible refine (awake.calls  true _ A20.out (Env.below ENV0.out (by repeat (first | (with_reducible first | exact HB.out | apply below_alloc | apply pw_below_drewN | apply below_drew1) | exact HB.out)))).mono ?_
            rintro e w34 ⟨rfl, hb⟩
            refine ⟨_, rfl, ?_⟩
            have n0_ := Aside0.mk (blk_below (g := gb101) (o := .cells #[.string a0_0, .int .i64 a0_1, .int .i64 a0_2, .int .i64 a0_3, .int .i64 a0_4, .int .i64 a0_5, .int .i64 a0_6, .int .i64 a0_7, .slice A0_8 l0_8.length c0_8] 28 (0, 0)) (by (with_reducible repeat (first | refine blk_drewN ?_ _ | refine blk_drew ?_ | refine blk_alloc ?_ _)); exact BK101.out) hb)
            have n1_ := Aside0.mk (blk_below (g := gb102) (o := .cells #[.int .i64 a1_0, .bool a1_1, .int .i64 a1_2, .int .i64 a1_3, .slice A1_4 l1_4.length c1_4] 31 (0, 0)) (by (with_reducible repeat (first | refine blk_drewN ?_ _ | refine blk_drew ?_ | refine blk_alloc ?_ _)); exact BK102.out) hb)
            have n2_ := Aside0.mk (below_step (by repeat (first | (with_reducible first | exact HB.out | apply below_alloc | apply pw_below_drewN | apply below_drew1 | refine below_set ?_ GE101.out | refine below_set ?_ GE102.out) | exact HB.out)) hb)
            clear BK101
            clear BK102
            clear HB
            have BK101 := n0_
            have BK102 := n1_
            have HB := n2_
            clear n0_ n1_ n2_
            (try clear hb)
            (try clear hb2)
            (try clear hk)
            (try clear hi)
            refine hK.out _ _ ⟨(blk_cell BK101.out 0).trans rfl, (blk_cell BK101.out 1).trans rfl, (blk_cell BK101.out 2).trans rfl, (blk_cell BK101.out 3).trans rfl, (blk_cell BK101.out 4).trans rfl, (blk_cell BK101.out 5).trans rfl, (blk_cell BK101.out 6).trans rfl, (blk_cell BK101.out 7).trans rfl, (blk_cell BK101.out 8).trans rfl, (blk_cell BK102.out 0).trans rfl, (blk_cell BK102.out 1).trans rfl, (blk_cell BK102.out 2).trans rfl, (blk_cell BK102.out 3).trans rfl, (blk_cell BK102.out 4).trans rfl⟩ (fun hHeld => ?_)
            clear hK K
            refine norm_ (a' := ?_) ?_ ?_
            rotate_left
            · show Act.put _ (some 14) _ = _
              simp only [Act.put, List.setIfInBounds_toArray, List.set_cons_zero, List.set_cons_succ, i64_w, i32_w]
              rfl
            refine pure_ (i := 1) (N := some 15) (v := ?_) (a' := ?_) #[true, true, false, false, false, false, false, false, false, false, false, false, false, false, false, false, false, false] rfl rfl (any_of HT_.out (by kernel_rfl)) (fun _ _ _ h => h) (Or.inl ⟨by rfl, ?_⟩) ?_ ?_
            rotate_left
            · intro w'
              go_simp
              with_reducible rfl
            rotate_left
            · simp only [Act.put, List.setIfInBounds_toArray, List.set_cons_zero, List.set_cons_succ, i64_w, i32_w]
              rfl
            refine take_ (i := 2) (N := some 16) (v := ?_) (a' := ?_) #[true, true, true, false, false, false, false, false, false, false, false, false, false, false, false, false, false, false] rfl rfl (take_ofW HT_.out HW_.out (by kernel_rfl)) (fun _ _ _ h => h) (Or.inl ⟨by rfl, ?_⟩) hHeld ?_ ?_
            rotate_left
            · rintro w' ⟨s0, s1, s2, s3, s4, s5, s6, s7, s8, s9, s10, s11, s12, s13⟩
              go_simp
              with_reducible rfl
            rotate_left
            · simp only [Act.put, List.setIfInBounds_toArray, List.set_cons_zero, List.set_cons_succ, i64_w, i32_w]
              rfl
            refine take_ (i := 3) (N := some 17) (v := ?_) (a' := ?_) #[true, true, true, true, false, false, false, false, false, false, false, false, false, false, false, false, false, false] rfl rfl (take_ofW HT_.out HW_.out (by kernel_rfl)) (fun _ _ _ h => h) (Or.inl ⟨by rfl, ?_⟩) hHeld ?_ ?_
            rotate_left
            · rintro w' ⟨s0, s1, s2, s3, s4, s5, s6, s7, s8, s9, s10, s11, s12, s13⟩
              go_simp
              with_reducible rfl
            rotate_left
            · simp only [Act.put, List.setIfInBounds_toArray, List.set_cons_zero, List.set_cons_succ, i64_w, i32_w]
              rfl
            refine take_ (i := 5) (N := some 19) (v := ?_) (a' := ?_) #[true, true, true, true, false, true, false, false, false, false, false, false, false, false, false, false, false, false] rfl rfl (take_ofW HT_.out HW_.out (by kernel_rfl)) (fun _ _ _ h => h) (Or.inl ⟨by rfl, ?_⟩) hHeld ?_ ?_
            rotate_left
            · rintro w' ⟨s0, s1, s2, s3, s4, s5, s6, s7, s8, s9, s10, s11, s12, s13⟩
              go_simp
              with_reducible rfl
            rotate_left
            · simp only [Act.put, List.setIfInBounds_toArray, List.set_cons_zero, List.set_cons_succ, i64_w, i32_w]
              rfl
            refine take_ (i := 6) (N := some 20) (v := ?_) (a' := ?_) #[true, true, true, true, false, true, true, false, false, false, false, false, false, false, false, false, false, false] rfl rfl (take_ofW HT_.out HW_.out (by kernel_rfl)) (fun _ _ _ h => h) (Or.inl ⟨by rfl, ?_⟩) hHeld ?_ ?_
            rotate_left
            · rintro w' ⟨s0, s1, s2, s3, s4, s5, s6, s7, s8, s9, s10, s11, s12, s13⟩
              go_simp
              with_reducible rfl
            rotate_left
            · simp only [Act.put, List.setIfInBounds_toArray, List.set_cons_zero, List.set_cons_succ, i64_w, i32_w]
              rfl
            refine one_ (i := 4) (N := some 18) #[true, true, true, true, true, true, true, false, false, false, false, false, false, false, false, false, false, false] rfl rfl (one_of HT_.out (by kernel_rfl)) (by decide) (fun K hK => ?_)
            refine goes_ Tryz.func13 (by kernel_rfl) rfl #[.agg #[.string a0_0, .int .i64 a0_1, .int .i64 a0_2, .int .i64 a0_3, .int .i64 a0_4, .int .i64 a0_5, .int .i64 a0_6, .int .i64 a0_7, .slice A0_8 l0_8.length c0_8], .agg #[.int .i64 a1_0, .bool a1_1, .int .i64 a1_2, .int .i64 a1_3, .slice A1_4 l1_4.length c1_4]] (by rfl) rfl rfl (by (try simp only [List.map_toArray, List.map_cons, List.map_nil]); first | done | rfl | (simp only [List.length_drop, List.length_take]; rfl)) ?_
            with_reducible refine (frame_Check.calls a0_0 a0_1 a0_2 a0_3 a0_4 a0_5 a0_6 a0_7 _ _ l0_8 a1_0 a1_1 a1_2 a1_3 _ _ l1_4 t107 _ ?side1 ?side2 ?side3 ?side4 A22.out).mono ?_
            (case side1 => repeat (first | exact (Kd.C_below HR0_8.out HB.out) | (with_reducible refine Kd.C_alloc ?_ _) | (with_reducible refine Kd.C_drewN ?_ _) | (with_reducible refine Kd.C_drew ?_)))
            (case side2 => exact HC0_8.out)
            (case side3 => repeat (first | exact (Kd.C_below HR1_4.out HB.out) | (with_reducible refine Kd.C_alloc ?_ _) | (with_reducible refine Kd.C_drewN ?_ _) | (with_reducible refine Kd.C_drew ?_)))
            (case side4 => exact HC1_4.out)
            rintro e w35 ⟨rfl, hb⟩
            refine ⟨_, rfl, ?_⟩
            have n0_ := Aside0.mk (blk_below (g := gb101) (o := .cells #[.string a0_0, .int .i64 a0_1, .int .i64 a0_2, .int .i64 a0_3, .int .i64 a0_4, .int .i64 a0_5, .int .i64 a0_6, .int .i64 a0_7, .slice A0_8 l0_8.length c0_8] 28 (0, 0)) (by (with_reducible repeat (first | refine blk_drewN ?_ _ | refine blk_drew ?_ | refine blk_alloc ?_ _)); exact BK101.out) hb)
            have n1_ := Aside0.mk (blk_below (g := gb102) (o := .cells #[.int .i64 a1_0, .bool a1_1, .int .i64 a1_2, .int .i64 a1_3, .slice A1_4 l1_4.length c1_4] 31 (0, 0)) (by (with_reducible repeat (first | refine blk_drewN ?_ _ | refine blk_drew ?_ | refine blk_alloc ?_ _)); exact BK102.out) hb)
            have n2_ := Aside0.mk (below_step (by repeat (first | (with_reducible first | exact HB.out | apply below_alloc | apply pw_below_drewN | apply below_drew1 | refine below_set ?_ GE101.out | refine below_set ?_ GE102.out) | exact HB.out)) hb)
            clear BK101
            clear BK102
            clear HB
            have BK101 := n0_
            have BK102 := n1_
            have HB := n2_
            clear n0_ n1_ n2_
            (try clear hb)
            (try clear hb2)
            (try clear hk)
            (try clear hi)
            refine hK.out _ _ ⟨(blk_cell BK101.out 0).trans rfl, (blk_cell BK101.out 1).trans rfl, (blk_cell BK101.out 2).trans rfl, (blk_cell BK101.out 3).trans rfl, (blk_cell BK101.out 4).trans rfl, (blk_cell BK101.out 5).trans rfl, (blk_cell BK101.out 6).trans rfl, (blk_cell BK101.out 7).trans rfl, (blk_cell BK101.out 8).trans rfl, (blk_cell BK102.out 0).trans rfl, (blk_cell BK102.out 1).trans rfl, (blk_cell BK102.out 2).trans rfl, (blk_cell BK102.out 3).trans rfl, (blk_cell BK102.out 4).trans rfl⟩ (fun hHeld => ?_)
            clear hK K
            refine norm_ (a' := ?_) ?_ ?_
            rotate_left
            · show Act.put _ (some 18) _ = _
              simp only [Act.put, List.setIfInBounds_toArray, List.set_cons_zero, List.set_cons_succ, i64_w, i32_w]
              rfl
            refine one_ (i := 7) (N := some 21) #[true, true, true, true, true, true, true, true, false, false, false, false, false, false, false, false, false, false] rfl rfl (one_of HT_.out (by kernel_rfl)) (by decide) (fun K hK => ?_)
            refine goes_ Tryz.func14 (by kernel_rfl) rfl #[.agg #[.string a0_0, .int .i64 a0_1, .int .i64 a0_2, .int .i64 a0_3, .int .i64 a0_4, .int .i64 a0_5, .int .i64 a0_6, .int .i64 a0_7, .slice A0_8 l0_8.length c0_8], .agg #[.int .i64 a1_0, .bool a1_1, .int .i64 a1_2, .int .i64 a1_3, .slice A1_4 l1_4.length c1_4]] (by rfl) rfl rfl (by (try simp only [List.map_toArray, List.map_cons, List.map_nil]); first | done | rfl | (simp only [List.length_drop, List.length_take]; rfl)) ?_
            with_reducible refine (ZU.metrolabref19_Check.calls kj2 a0_0 a0_1 a0_2 a0_3 a0_4 a0_5 a0_6 a0_7 _ _ l0_8 a1_0 a1_1 a1_2 a1_3 _ _ l1_4 t108 _ ?side1 ?side2 ?side3 ?side4 A23.out).mono ?_
            (case side1 => repeat (first | exact (Kd.C_below HR0_8.out HB.out) | (with_reducible refine Kd.C_alloc ?_ _) | (with_reducible refine Kd.C_drewN ?_ _) | (with_reducible refine Kd.C_drew ?_)))
            (case side2 => exact HC0_8.out)
            (case side3 => repeat (first | exact (Kd.C_below HR1_4.out HB.out) | (with_reducible refine Kd.C_alloc ?_ _) | (with_reducible refine Kd.C_drewN ?_ _) | (with_reducible refine Kd.C_drew ?_)))
            (case side4 => exact HC1_4.out)
            rintro e w36 ⟨rfl, hb⟩
            refine ⟨_, rfl, ?_⟩
            have n0_ := Aside0.mk (blk_below (g := gb101) (o := .cells #[.string a0_0, .int .i64 a0_1, .int .i64 a0_2, .int .i64 a0_3, .int .i64 a0_4, .int .i64 a0_5, .int .i64 a0_6, .int .i64 a0_7, .slice A0_8 l0_8.length c0_8] 28 (0, 0)) (by (with_reducible repeat (first | refine blk_drewN ?_ _ | refine blk_drew ?_ | refine blk_alloc ?_ _)); exact BK101.out) hb)
            have n1_ := Aside0.mk (blk_below (g := gb102) (o := .cells #[.int .i64 a1_0, .bool a1_1, .int .i64 a1_2, .int .i64 a1_3, .slice A1_4 l1_4.length c1_4] 31 (0, 0)) (by (with_reducible repeat (first | refine blk_drewN ?_ _ | refine blk_drew ?_ | refine blk_alloc ?_ _)); exact BK102.out) hb)
            have n2_ := Aside0.mk (below_step (by repeat (first | (with_reducible first | exact HB.out | apply below_alloc | apply pw_below_drewN | apply below_drew1 | refine below_set ?_ GE101.out | refine below_set ?_ GE102.out) | exact HB.out)) hb)
            clear BK101
            clear BK102
            clear HB
            have BK101 := n0_
            have BK102 := n1_
            have HB := n2_
            clear n0_ n1_ n2_
            (try clear hb)
            (try clear hb2)
            (try clear hk)
            (try clear hi)
            refine hK.out _ _ ⟨(blk_cell BK101.out 0).trans rfl, (blk_cell BK101.out 1).trans rfl, (blk_cell BK101.out 2).trans rfl, (blk_cell BK101.out 3).trans rfl, (blk_cell BK101.out 4).trans rfl, (blk_cell BK101.out 5).trans rfl, (blk_cell BK101.out 6).trans rfl, (blk_cell BK101.out 7).trans rfl, (blk_cell BK101.out 8).trans rfl, (blk_cell BK102.out 0).trans rfl, (blk_cell BK102.out 1).trans rfl, (blk_cell BK102.out 2).trans rfl, (blk_cell BK102.out 3).trans rfl, (blk_cell BK102.out 4).trans rfl⟩ (fun hHeld => ?_)
            clear hK K
            refine norm_ (a' := ?_) ?_ ?_
            rotate_left
            · show Act.put _ (some 21) _ = _
              simp only [Act.put, List.setIfInBounds_toArray, List.set_cons_zero, List.set_cons_succ, i64_w, i32_w]
              rfl
            refine pure_ (i := 8) (N := some 22) (v := ?_) (a' := ?_) #[true, true, true, true, true, true, true, true, true, false, false, false, false, false, false, false, false, false] rfl rfl (any_of HT_.out (by kernel_rfl)) (fun _ _ _ h => h) (Or.inl ⟨by rfl, ?_⟩) ?_ ?_
            rotate_left
            · intro w'
              go_simp
              with_reducible rfl
            rotate_left
            · simp only [Act.put, List.setIfInBounds_toArray, List.set_cons_zero, List.set_cons_succ, i64_w, i32_w]
              rfl
            refine pure_ (i := 9) (N := some 23) (v := ?_) (a' := ?_) #[true, true, true, true, true, true, true, true, true, true, false, false, false, false, false, false, false, false] rfl rfl (any_of HT_.out (by kernel_rfl)) (fun _ _ _ h => h) (Or.inl ⟨by rfl, ?_⟩) ?_ ?_
            rotate_left
            · intro w'
              go_simp
              with_reducible rfl
            rotate_left
            · simp only [Act.put, List.setIfInBounds_toArray, List.set_cons_zero, List.set_cons_succ, i64_w, i32_w]
              rfl
            refine pure_ (i := 10) (N := some 24) (v := ?_) (a' := ?_) #[true, true, true, true, true, true, true, true, true, true, true, false, false, false, false, false, false, false] rfl rfl (any_of HT_.out (by kernel_rfl)) (fun _ _ _ h => h) (Or.inl ⟨by rfl, ?_⟩) ?_ ?_
            rotate_left
            · intro w'
              go_simp
              with_reducible rfl
            rotate_left
            · simp only [Act.put, List.setIfInBounds_toArray, List.set_cons_zero, List.set_cons_succ, i64_w, i32_w]
              rfl
            refine pure_ (i := 11) (N := some 25) (v := undef) (a' := ?_) #[true, true, true, true, true, true, true, true, true, true, true, true, false, false, false, false, false, false] rfl rfl (any_of HT_.out (by kernel_rfl)) (fun _ _ _ h => h) (Or.inr ⟨by rfl, rfl⟩) ?_ ?_
            rotate_left
            · simp only [Act.put, List.setIfInBounds_toArray, List.set_cons_zero, List.set_cons_succ, i64_w, i32_w]
              rfl
            refine pure_ (i := 12) (N := some 26) (v := undef) (a' := ?_) #[true, true, true, true, true, true, true, true, true, true, true, true, true, false, false, false, false, false] rfl rfl (any_of HT_.out (by kernel_rfl)) (fun _ _ _ h => h) (Or.inr ⟨by rfl, rfl⟩) ?_ ?_
            rotate_left
            · simp only [Act.put, List.setIfInBounds_toArray, List.set_cons_zero, List.set_cons_succ, i64_w, i32_w]
              rfl
            refine pure_ (i := 13) (N := some 27) (v := undef) (a' := ?_) #[true, true, true, true, true, true, true, true, true, true, true, true, true, true, false, false, false, false] rfl rfl (any_of HT_.out (by kernel_rfl)) (fun _ _ _ h => h) (Or.inr ⟨by rfl, rfl⟩) ?_ ?_
            rotate_left
            · simp only [Act.put, List.setIfInBounds_toArray, List.set_cons_zero, List.set_cons_succ, i64_w, i32_w]
              rfl
            refine pure_ (i := 14) (N := some 28) (v := undef) (a' := ?_) #[true, true, true, true, true, true, true, true, true, true, true, true, true, true, true, false, false, false] rfl rfl (any_of HT_.out (by kernel_rfl)) (fun _ _ _ h => h) (Or.inr ⟨by rfl, rfl⟩) ?_ ?_
            rotate_left
            · simp only [Act.put, List.setIfInBounds_toArray, List.set_cons_zero, List.set_cons_succ, i64_w, i32_w]
              rfl
            refine pure_ (i := 15) (N := some 29) (v := undef) (a' := ?_) #[true, true, true, true, true, true, true, true, true, true, true, true, true, true, true, true, false, false] rfl rfl (any_of HT_.out (by kernel_rfl)) (fun _ _ _ h => h) (Or.inr ⟨by rfl, rfl⟩) ?_ ?_
            rotate_left
            · simp only [Act.put, List.setIfInBounds_toArray, List.set_cons_zero, List.set_cons_succ, i64_w, i32_w]
              rfl
            refine pure_ (i := 16) (N := some 30) (v := ?_) (a' := ?_) #[true, true, true, true, true, true, true, true, true, true, true, true, true, true, true, true, true, false] rfl rfl (any_of HT_.out (by kernel_rfl)) (fun _ _ _ h => h) (Or.inl ⟨by rfl, ?_⟩) ?_ ?_
            rotate_left
            · intro w'
              go_simp
              with_reducible rfl
            rotate_left
            · simp only [Act.put, List.setIfInBounds_toArray, List.set_cons_zero, List.set_cons_succ, i64_w, i32_w]
              rfl
            refine pure_ (i := 17) (N := some 4) (v := ?_) (a' := ?_) #[true, true, true, true, true, true, true, true, true, true, true, true, true, true, true, true, true, true] rfl rfl (any_of HT_.out (by kernel_rfl)) (fun _ _ _ h => h) (Or.inl ⟨by rfl, ?_⟩) ?_ ?_
            rotate_left
            · intro w'
              go_simp
              with_reducible rfl
            rotate_left
            · simp only [Act.put, List.setIfInBounds_toArray, List.set_cons_zero, List.set_cons_succ, i64_w, i32_w]
              rfl
            refine done_ (done_of HT_.out (by kernel_rfl)) ?_
            try go_wp2
            go_ret
            exact ⟨by first | rfl | (simp [errW_none, errW_some] <;> rfl) | (simp [*, errW_none, errW_some] <;> rfl), by repeat (first | (with_reducible first | exact HB.out | apply below_alloc | apply pw_below_drewN | apply below_drew1 | refine below_set ?_ GE101.out | refine below_set ?_ GE102.out) | exact HB.out)⟩
        · replace c21 := Bool.eq_false_iff.mpr c21
          subst c21
          have H1 : (some false) = some r := by rw [if_neg (show ¬ (false = true) by decide)] at H; exact H
          clear H
          have H := H1
          clear H1
          obtain rfl := Option.some.inj H
          try go_wp2
          have n0_ := Aside0.mk (blk_drew BK101.out)
          have n1_ := Aside0.mk (blk_drew BK102.out)
          have n2_ := Aside0.mk (below_drew1 HB.out)
          clear BK101
          clear BK102
          clear HB
          have BK101 := n0_
          have BK102 := n1_
          have HB := n2_
          clear n0_ n1_ n2_
          refine start_ (n := 18) (S := fun w' => True) (ds := []) #[false, false, false, false, false, false, false, false, false, false, false, false, false, false, false, false, false, false] (by kernel_rfl) rfl rfl trivial (fun hHeld => ?_); refine with_tabW metrolablaw19_FrameChecks.tab3 metrolablaw19_FrameChecks.bits3 (fun HT_ HW_ => ?_)
          generalize wc.drew = w37 at BK101 BK102 HB hHeld ⊢
          refine one_ (i := 0) (N := some 14) #[true, false, false, false, false, false, false, false, false, false, false, false, false, false, false, false, false, false] rfl rfl (one_of HT_.out (by kernel_rfl)) (by decide) (fun K hK => ?_)
          refine goes_ Tryz.func12 (by kernel_rfl) rfl #[] (by rfl) rfl rfl (by (try simp only [List.map_toArray, List.map_cons, List.map_nil]); first | done | rfl | (simp only [List.length_drop, List.length_take]; rfl)) ?_
          with_reducible refine (awake.calls  false _ A20.out (Env.below ENV0.out (by repeat (first | (with_reducible first | exact HB.out | apply below_alloc | apply pw_below_drewN | apply below_drew1) | exact HB.out)))).mono ?_
          rintro e w38 ⟨rfl, hb⟩
          refine ⟨_, rfl, ?_⟩
          have n0_ := Aside0.mk (blk_below (g := gb101) (o := .cells #[.string a0_0, .int .i64 a0_1, .int .i64 a0_2, .int .i64 a0_3, .int .i64 a0_4, .int .i64 a0_5, .int .i64 a0_6, .int .i64 a0_7, .slice A0_8 l0_8.length c0_8] 28 (0, 0)) (by (with_reducible repeat (first | refine blk_drewN ?_ _ | refine blk_drew ?_ | refine blk_alloc ?_ _)); exact BK101.out) hb)
          have n1_ := Aside0.mk (blk_below (g := gb102) (o := .cells #[.int .i64 a1_0, .bool a1_1, .int .i64 a1_2, .int .i64 a1_3, .slice A1_4 l1_4.length c1_4] 31 (0, 0)) (by (with_reducible repeat (first | refine blk_drewN ?_ _ | refine blk_drew ?_ | refine blk_alloc ?_ _)); exact BK102.out) hb)
          have n2_ := Aside0.mk (below_step (by repeat (first | (with_reducible first | exact HB.out | apply below_alloc | apply pw_below_drewN | apply below_drew1 | refine below_set ?_ GE101.out | refine below_set ?_ GE102.out) | exact HB.out)) hb)
          clear BK101
          clear BK102
          clear HB
          have BK101 := n0_
          have BK102 := n1_
          have HB := n2_
          clear n0_ n1_ n2_
          (try clear hb)
          (try clear hb2)
          (try clear hk)
          (try clear hi)
          refine hK.out _ _ trivial (fun hHeld => ?_)
          clear hK K
          refine norm_ (a' := ?_) ?_ ?_
          rotate_left
          · show Act.put _ (some 14) _ = _
            simp only [Act.put, List.setIfInBounds_toArray, List.set_cons_zero, List.set_cons_succ, i64_w, i32_w]
            rfl
          refine pure_ (i := 1) (N := some 15) (v := ?_) (a' := ?_) #[true, true, false, false, false, false, false, false, false, false, false, false, false, false, false, false, false, false] rfl rfl (any_of HT_.out (by kernel_rfl)) (fun _ _ _ h => h) (Or.inl ⟨by rfl, ?_⟩) ?_ ?_
          rotate_left
          · intro w'
            go_simp
            with_reducible rfl
          rotate_left
          · simp only [Act.put, List.setIfInBounds_toArray, List.set_cons_zero, List.set_cons_succ, i64_w, i32_w]
            rfl
          refine pure_ (i := 2) (N := some 16) (v := undef) (a' := ?_) #[true, true, true, false, false, false, false, false, false, false, false, false, false, false, false, false, false, false] rfl rfl (any_of HT_.out (by kernel_rfl)) (fun _ _ _ h => h) (Or.inr ⟨by rfl, rfl⟩) ?_ ?_
          rotate_left
          · simp only [Act.put, List.setIfInBounds_toArray, List.set_cons_zero, List.set_cons_succ, i64_w, i32_w]
            rfl
          refine pure_ (i := 3) (N := some 17) (v := undef) (a' := ?_) #[true, true, true, true, false, false, false, false, false, false, false, false, false, false, false, false, false, false] rfl rfl (any_of HT_.out (by kernel_rfl)) (fun _ _ _ h => h) (Or.inr ⟨by rfl, rfl⟩) ?_ ?_
          rotate_left
          · simp only [Act.put, List.setIfInBounds_toArray, List.set_cons_zero, List.set_cons_succ, i64_w, i32_w]
            rfl
          refine pure_ (i := 4) (N := some 18) (v := undef) (a' := ?_) #[true, true, true, true, true, false, false, false, false, false, false, false, false, false, false, false, false, false] rfl rfl (any_of HT_.out (by kernel_rfl)) (fun _ _ _ h => h) (Or.inr ⟨by rfl, rfl⟩) ?_ ?_
          rotate_left
          · simp only [Act.put, List.setIfInBounds_toArray, List.set_cons_zero, List.set_cons_succ, i64_w, i32_w]
            rfl
          refine pure_ (i := 5) (N := some 19) (v := undef) (a' := ?_) #[true, true, true, true, true, true, false, false, false, false, false, false, false, false, false, false, false, false] rfl rfl (any_of HT_.out (by kernel_rfl)) (fun _ _ _ h => h) (Or.inr ⟨by rfl, rfl⟩) ?_ ?_
          rotate_left
          · simp only [Act.put, List.setIfInBounds_toArray, List.set_cons_zero, List.set_cons_succ, i64_w, i32_w]
            rfl
          refine pure_ (i := 6) (N := some 20) (v := undef) (a' := ?_) #[true, true, true, true, true, true, true, false, false, false, false, false, false, false, false, false, false, false] rfl rfl (any_of HT_.out (by kernel_rfl)) (fun _ _ _ h => h) (Or.inr ⟨by rfl, rfl⟩) ?_ ?_
          rotate_left
          · simp only [Act.put, List.setIfInBounds_toArray, List.set_cons_zero, List.set_cons_succ, i64_w, i32_w]
            rfl
          refine pure_ (i := 7) (N := some 21) (v := undef) (a' := ?_) #[true, true, true, true, true, true, true, true, false, false, false, false, false, false, false, false, false, false] rfl rfl (any_of HT_.out (by kernel_rfl)) (fun _ _ _ h => h) (Or.inr ⟨by rfl, rfl⟩) ?_ ?_
          rotate_left
          · simp only [Act.put, List.setIfInBounds_toArray, List.set_cons_zero, List.set_cons_succ, i64_w, i32_w]
            rfl
          refine pure_ (i := 8) (N := some 22) (v := undef) (a' := ?_) #[true, true, true, true, true, true, true, true, true, false, false, false, false, false, false, false, false, false] rfl rfl (any_of HT_.out (by kernel_rfl)) (fun _ _ _ h => h) (Or.inr ⟨by rfl, rfl⟩) ?_ ?_
          rotate_left
          · simp only [Act.put, List.setIfInBounds_toArray, List.set_cons_zero, List.set_cons_succ, i64_w, i32_w]
            rfl
          refine pure_ (i := 9) (N := some 23) (v := ?_) (a' := ?_) #[true, true, true, true, true, true, true, true, true, true, false, false, false, false, false, false, false, false] rfl rfl (any_of HT_.out (by kernel_rfl)) (fun _ _ _ h => h) (Or.inl ⟨by rfl, ?_⟩) ?_ ?_
          rotate_left
          · intro w'
            go_simp
            with_reducible rfl
          rotate_left
          · simp only [Act.put, List.setIfInBounds_toArray, List.set_cons_zero, List.set_cons_succ, i64_w, i32_w]
            rfl
          refine pure_ (i := 10) (N := some 24) (v := ?_) (a' := ?_) #[true, true, true, true, true, true, true, true, true, true, true, false, false, false, false, false, false, false] rfl rfl (any_of HT_.out (by kernel_rfl)) (fun _ _ _ h => h) (Or.inl ⟨by rfl, ?_⟩) ?_ ?_
          rotate_left
          · intro w'
            go_simp
            with_reducible rfl
          rotate_left
          · simp only [Act.put, List.setIfInBounds_toArray, List.set_cons_zero, List.set_cons_succ, i64_w, i32_w]
            rfl
          refine pure_ (i := 11) (N := some 25) (v := undef) (a' := ?_) #[true, true, true, true, true, true, true, true, true, true, true, true, false, false, false, false, false, false] rfl rfl (any_of HT_.out (by kernel_rfl)) (fun _ _ _ h => h) (Or.inr ⟨by rfl, rfl⟩) ?_ ?_
          rotate_left
          · simp only [Act.put, List.setIfInBounds_toArray, List.set_cons_zero, List.set_cons_succ, i64_w, i32_w]
            rfl
          refine pure_ (i := 12) (N := some 26) (v := undef) (a' := ?_) #[true, true, true, true, true, true, true, true, true, true, true, true, true, false, false, false, false, false] rfl rfl (any_of HT_.out (by kernel_rfl)) (fun _ _ _ h => h) (Or.inr ⟨by rfl, rfl⟩) ?_ ?_
          rotate_left
          · simp only [Act.put, List.setIfInBounds_toArray, List.set_cons_zero, List.set_cons_succ, i64_w, i32_w]
            rfl
          refine pure_ (i := 13) (N := some 27) (v := undef) (a' := ?_) #[true, true, true, true, true, true, true, true, true, true, true, true, true, true, false, false, false, false] rfl rfl (any_of HT_.out (by kernel_rfl)) (fun _ _ _ h => h) (Or.inr ⟨by rfl, rfl⟩) ?_ ?_
          rotate_left
          · simp only [Act.put, List.setIfInBounds_toArray, List.set_cons_zero, List.set_cons_succ, i64_w, i32_w]
            rfl
          refine pure_ (i := 14) (N := some 28) (v := undef) (a' := ?_) #[true, true, true, true, true, true, true, true, true, true, true, true, true, true, true, false, false, false] rfl rfl (any_of HT_.out (by kernel_rfl)) (fun _ _ _ h => h) (Or.inr ⟨by rfl, rfl⟩) ?_ ?_
          rotate_left
          · simp only [Act.put, List.setIfInBounds_toArray, List.set_cons_zero, List.set_cons_succ, i64_w, i32_w]
            rfl
          refine pure_ (i := 15) (N := some 29) (v := undef) (a' := ?_) #[true, true, true, true, true, true, true, true, true, true, true, true, true, true, true, true, false, false] rfl rfl (any_of HT_.out (by kernel_rfl)) (fun _ _ _ h => h) (Or.inr ⟨by rfl, rfl⟩) ?_ ?_
          rotate_left
          · simp only [Act.put, List.setIfInBounds_toArray, List.set_cons_zero, List.set_cons_succ, i64_w, i32_w]
            rfl
          refine pure_ (i := 16) (N := some 30) (v := ?_) (a' := ?_) #[true, true, true, true, true, true, true, true, true, true, true, true, true, true, true, true, true, false] rfl rfl (any_of HT_.out (by kernel_rfl)) (fun _ _ _ h => h) (Or.inl ⟨by rfl, ?_⟩) ?_ ?_
          rotate_left
          · intro w'
            go_simp
            with_reducible rfl
          rotate_left
          · simp only [Act.put, List.setIfInBounds_toArray, List.set_cons_zero, List.set_cons_succ, i64_w, i32_w]
            rfl
          refine pure_ (i := 17) (N := some 4) (v := ?_) (a' := ?_) #[true, true, true, true, true, true, true, true, true, true, true, true, true, true, true, true, true, true] rfl rfl (any_of HT_.out (by kernel_rfl)) (fun _ _ _ h => h) (Or.inl ⟨by rfl, ?_⟩) ?_ ?_
          rotate_left
          · intro w'
            go_simp
            with_reducible rfl
          rotate_left
          · simp only [Act.put, List.setIfInBounds_toArray, List.set_cons_zero, List.set_cons_succ, i64_w, i32_w]
            rfl
          refine done_ (done_of HT_.out (by kernel_rfl)) ?_
          try go_wp2
          go_ret
          exact ⟨by first | rfl | (simp [errW_none, errW_some] <;> rfl) | (simp [*, errW_none, errW_some] <;> rfl), by repeat (first | (with_reducible first | exact HB.out | apply below_alloc | apply pw_below_drewN | apply below_drew1 | refine below_set ?_ GE101.out | refine below_set ?_ GE102.out) | exact HB.out)⟩
end Go.Proofs.YtkohjcfmcliioaaGreatDoor.ZLC
set_option linter.unusedVariables false
namespace Go.Proofs.YtkohjcfmcliioaaGreatDoor
open Go Go.RowKit Go.Proofs.YtkohjcfmcliioaaGreatDoorW.PrintWords
open Go.Proofs.YtkohjcfmcliioaaGreatDoor.ZA (S76 S31 k31 k76)
theorem checks_is (name : ByteArray) (kind axis x y z lo hi : Int) (l : List S31) (xk : Int) (disc : Bool) (tol mat : Int) (ds : List S76) :
    Ev (fun k => ZLC.metrolablaw19_FrameChecks.f k name kind axis x y z lo hi l xk disc tol mat ds) true := by
  have hj : ∀ b, Ev (fun k => ZLC.metrolablaw19_FrameChecks.j0 k b name kind axis x y z lo hi l xk disc tol mat ds) true := by
    intro b
    cases b with
    | true => exact Ev.after 1 fun k => rfl
    | false =>
      refine Ev.step (f := fun k => (ZU.metrolabref19_Check.f k name kind axis x y z lo hi l xk disc tol mat ds).bind fun t108 => (if checkS name kind axis x y z lo hi xk disc tol mat ds = t108 then ((frame_Plain.f xk disc tol mat ds).bind fun t109 => ((ZA.metrolabref19_Plain.f k xk disc tol mat ds).bind fun t110 => (some (t109 == t110)))) else (some false))) (fun k => rfl) ?_
      refine Ev.bind (rcheck_is name kind axis x y z lo hi l xk disc tol mat ds) ?_
      refine Ev.pos rfl ?_
      unfold frame_Plain.f
      simp only [Option.bind_some]
      refine Ev.bind (rplain_is xk disc tol mat ds) ?_
      simp only [beq_self_eq_true]
      exact Ev.now _
  unfold ZLC.metrolablaw19_FrameChecks.f
  refine Ev.bind (few_is name kind axis x y z lo hi l) ?_
  by_cases h : fewS name l = true
  · refine Ev.pos h ?_
    refine Ev.bind (rfew_is xk disc tol mat ds) ?_
    exact hj _
  · exact Ev.neg h (hj _)
end Go.Proofs.YtkohjcfmcliioaaGreatDoor
set_option linter.unusedVariables false
namespace Go.Proofs.YtkohjcfmcliioaaGreatDoor
open Go Go.RowKit Go.ChangeShapes Go.WideShapes Go.Proofs.YtkohjcfmcliioaaGreatDoorW.PrintWords
open Go.Proofs.YtkohjcfmcliioaaGreatDoor.ZA (S76 S31 k31 k76)
/-- Whatever reads at type t is of kind d. -/
def Opn {α : Type} (P : Program) (t : TypeId) (d : Kd α) : Prop :=
  ∀ {H : Type} (enc : TypeId × Value → H) (w : World) (sp : Nat → Bool) (held : Bool) (fuel : Nat) (cs : List Value) (x : DataW H × List MemPlace), DataW.trod enc P w 0 sp held fuel t cs = some x → ∃ a : α, d.K w a cs
section
variable {P : Program} {t e : TypeId}
theorem opn_int {k : IntKind} (ht : P.underlying t = some (.int k)) : Opn P t (Kd.int k) := fun enc w sp held fuel cs x h => by
  obtain ⟨n, rfl, _⟩ := DataW.trod_int ht h
  exact ⟨n, rfl⟩
theorem opn_bool (ht : P.underlying t = some .bool) : Opn P t Kd.bool := fun enc w sp held fuel cs x h => by
  obtain ⟨n, rfl, _⟩ := DataW.trod_bool ht h
  exact ⟨n, rfl⟩
theorem opn_string (ht : P.underlying t = some .string) : Opn P t Kd.string := fun enc w sp held fuel cs x h => by
  obtain ⟨n, rfl, _⟩ := DataW.trod_string ht h
  exact ⟨n, rfl⟩
theorem opn_slice {α : Type} {d : Kd α} (ht : P.underlying t = some (.slice e)) (hd : Opn P e d) (hc : P.cellsOf e = d.sz) : Opn P t (Kd.slice e d) := fun enc w sp held fuel cs x h => by
  rcases DataW.trod_slice ht h with ⟨rfl, _⟩ | ⟨a, len, cap, elems, rest, n, _, rfl, _, _, hl, hm, hel, hall, _⟩
  · exact ⟨[], none, 0, rfl, Nat.le_refl _, rfl, Nat.zero_le _, fun h => absurd h (Nat.lt_irrefl _)⟩
  · have hex : ∀ i, i < len → ∃ p : α, ∃ c : List Value, c.length = d.sz ∧ d.K w p c ∧ ∀ q u, c[q]? = some u → w.cell? (a.add (i * d.sz + q)) = some u := fun i hi => by
      have h1 := hall i hi
      rw [List.getElem?_eq_getElem (by omega)] at h1
      obtain ⟨c, hc1, hc2⟩ := Option.bind_eq_some_iff.1 h1
      obtain ⟨p, hp⟩ := hd enc w sp held n c _ hc2
      obtain ⟨_, hlen, hcell⟩ := World.cells?_some hc1
      rw [hc] at hlen hcell
      refine ⟨p, c, hlen, hp, fun q u hq => ?_⟩
      have hq' : q < d.sz := by rw [← hlen]; exact (List.getElem?_eq_some_iff.1 hq).1
      have := hcell q hq'
      rw [hq] at this
      rw [← this]
      show w.cell? (a.add (i * d.sz + q)) = w.cell? ((a.add (i * d.sz)).add q)
      rw [Deep.add_add]
    have hlist : ∀ m, m ≤ len → ∃ xs : List α, xs.length = m ∧ ∀ j p, xs[j]? = some p → ∃ c : List Value, c.length = d.sz ∧ d.K w p c ∧ ∀ q u, c[q]? = some u → w.cell? (a.add (j * d.sz + q)) = some u := by
      intro m
      induction m with
      | zero => exact fun _ => ⟨[], rfl, fun j p h => by simp at h⟩
      | succ m ih =>
        intro hm'
        obtain ⟨xs, hx, hxs⟩ := ih (by omega)
        obtain ⟨p, hp⟩ := hex m (by omega)
        refine ⟨xs ++ [p], by simp [hx], fun j r hr => ?_⟩
        by_cases hj : j < xs.length
        · rw [List.getElem?_append_left hj] at hr
          exact hxs j r hr
        · have hjm : j = m := by
            have := (List.getElem?_eq_some_iff.1 hr).1
            simp at this
            omega
          subst hjm
          rw [List.getElem?_append_right (by omega), hx, Nat.sub_self] at hr
          cases hr
          exact hp
    obtain ⟨xs, hx, hxs⟩ := hlist len (Nat.le_refl _)
    subst hx
    have hmax : xs.length ≤ 9223372036854775807 := Nat.le_trans hl hm
    exact ⟨xs, some a, cap, rfl, hl, rfl, hmax, fun _ => ⟨a, rfl, hxs⟩⟩
/-- The fields from offset o on are of kind d. -/
def Flds {α : Type} (P : Program) (fs : List Field) (o : Nat) (d : Kd α) : Prop :=
  ∀ {H : Type} (enc : TypeId × Value → H) (w : World) (sp : Nat → Bool) (held : Bool) (n : Nat) (cs : List Value) (xs : List (DataW H × List MemPlace)),
    (∀ (i : Nat) (f : Field), fs[i]? = some f → DataW.trod enc P w 0 sp held n f.type ((cs.drop f.offset).take (P.cellsOf f.type)) = xs[i]?) → xs.length = fs.length → cs.length = o + d.sz → ∃ a : α, d.K w a (cs.drop o)
theorem flds_last {α : Type} {d : Kd α} {f : Field} {o : Nat} (ho : f.offset = o) (hf : Opn P f.type d) (hc : P.cellsOf f.type = d.sz) : Flds P [f] o d := fun enc w sp held n cs xs h hl hlen => by
  have h0 := h 0 f rfl
  rw [ho, hc, List.take_of_length_le (by rw [List.length_drop]; omega), List.getElem?_eq_getElem (by rw [hl]; exact Nat.zero_lt_one)] at h0
  exact hf enc w sp held n _ _ h0
theorem flds_cons {α β : Type} {d : Kd α} {d' : Kd β} {f : Field} {fs : List Field} {o : Nat} (ho : f.offset = o) (hf : Opn P f.type d) (hc : P.cellsOf f.type = d.sz) (hs : Flds P fs (o + d.sz) d') : Flds P (f :: fs) o (Kd.pair d d') :=
  fun enc w sp held n cs xs h hl hlen => by
    have hlen' : cs.length = o + (d.sz + d'.sz) := hlen
    have h0 := h 0 f rfl
    rw [ho, hc, List.getElem?_eq_getElem (by rw [hl]; simp)] at h0
    obtain ⟨a, ha⟩ := hf enc w sp held n _ _ h0
    obtain ⟨b, hb⟩ := hs enc w sp held n cs (xs.drop 1) (fun i g hg => by
      have := h (i + 1) g hg
      rw [List.getElem?_drop, Nat.add_comm 1 i]
      exact this) (by rw [List.length_drop, hl]; simp) (by rw [hlen']; omega)
    refine ⟨(a, b), (cs.drop o).take d.sz, cs.drop (o + d.sz), ?_, ha, hb⟩
    rw [← List.drop_drop]
    exact (List.take_append_drop d.sz (cs.drop o)).symm
theorem opn_struct {α : Type} {d : Kd α} {fs : Array Field} (ht : P.underlying t = some (.struct fs)) (hs : Flds P fs.toList 0 d) (hc : P.cellsOf t = d.sz) : Opn P t d := fun enc w sp held fuel cs x h => by
  obtain ⟨xs, n, _, _, hlen, hxl, hall⟩ := DataW.trod_struct ht h
  have := hs enc w sp held n cs xs (fun i f hf => hall i f (by rw [← Array.getElem?_toList]; exact hf)) (by rw [hxl, Array.length_toList]) (by rw [hlen, hc]; omega)
  rw [List.drop_zero] at this
  exact this
end
theorem opn76 : Opn Tryz.prog 76 k76 :=
  opn_struct Tryz.underlying76 (d := k76) (by
    intro H enc w sp held n cs xs h hl hlen
    obtain ⟨p, hp⟩ := flds_cons (P := Tryz.prog) (o := 0) (d := Kd.string) rfl (opn_string Tryz.underlying9) (by kernel_rfl) (flds_last (d := Kd.int .i64) rfl (opn_int Tryz.underlying3) (by kernel_rfl)) enc w sp held n cs xs h hl hlen
    exact ⟨⟨p.1, p.2⟩, hp⟩) (by kernel_rfl)
theorem opn31 : Opn Tryz.prog 31 k31 :=
  opn_struct Tryz.underlying31 (d := k31) (by
    intro H enc w sp held n cs xs h hl hlen
    obtain ⟨p, hp⟩ := flds_cons (P := Tryz.prog) (o := 0) (d := Kd.int .i64) rfl (opn_int Tryz.underlying3) (by kernel_rfl)
      (flds_cons (d := Kd.bool) rfl (opn_bool Tryz.underlying4) (by kernel_rfl)
      (flds_cons (d := Kd.int .i64) rfl (opn_int Tryz.underlying3) (by kernel_rfl)
      (flds_cons (d := Kd.int .i64) rfl (opn_int Tryz.underlying3) (by kernel_rfl)
      (flds_last (d := Kd.slice 76 k76) rfl (opn_slice Tryz.underlying29 opn76 (by kernel_rfl)) (by kernel_rfl))))) enc w sp held n cs xs h hl hlen
    exact ⟨⟨p.1, p.2.1, p.2.2.1, p.2.2.2.1, p.2.2.2.2⟩, hp⟩) (by kernel_rfl)
def kInt : Kd Int := Kd.int .i64
theorem opnI : Opn Tryz.prog 3 kInt := opn_int Tryz.underlying3
def kSpot : Kd (Int × Int × Int) := Kd.pair kInt (Kd.pair kInt kInt)
def kLim : Kd (Int × Int) := Kd.pair kInt kInt
theorem opnSpot : Opn Tryz.prog 23 kSpot :=
  opn_struct Tryz.underlying23 (flds_cons rfl opnI (by kernel_rfl) (flds_cons rfl opnI (by kernel_rfl) (flds_last rfl opnI (by kernel_rfl)))) (by kernel_rfl)
theorem opnLim : Opn Tryz.prog 25 kLim :=
  opn_struct Tryz.underlying25 (flds_cons rfl opnI (by kernel_rfl) (flds_last rfl opnI (by kernel_rfl))) (by kernel_rfl)
def kFeat : Kd (ByteArray × Int × Int × (Int × Int × Int) × (Int × Int) × List S31) := Kd.pair Kd.string (Kd.pair kInt (Kd.pair kInt (Kd.pair kSpot (Kd.pair kLim (Kd.slice 31 k31)))))
theorem opnFeat : Opn Tryz.prog 28 kFeat :=
  opn_struct Tryz.underlying28 (flds_cons rfl (opn_string Tryz.underlying9) (by kernel_rfl) (flds_cons rfl opnI (by kernel_rfl) (flds_cons rfl opnI (by kernel_rfl) (flds_cons rfl opnSpot (by kernel_rfl) (flds_cons rfl opnLim (by kernel_rfl) (flds_last rfl (opn_slice Tryz.underlying26 opn31 (by kernel_rfl)) (by kernel_rfl))))))) (by kernel_rfl)
set_option maxRecDepth 100000 in
theorem feat_arg {H : Type} {enc : TypeId × Value → H} {w : World} {sp : Nat → Bool} {held : Bool} {v : Value} {d : DataW H} {ps : List MemPlace} {r : Reach} {base : Nat} (hv : Value.okWide Tryz.prog w r base 28 v) (h : DataW.Trod enc Tryz.prog w 0 sp held 28 v d ps) :
    ∃ (name : ByteArray) (kind axis x y z lo hi : Int) (A : Option Addr) (c : Nat) (l : List S31), v = .agg #[.string name, .int .i64 kind, .int .i64 axis, .int .i64 x, .int .i64 y, .int .i64 z, .int .i64 lo, .int .i64 hi, .slice A l.length c] ∧ Kd.C k31 w A l.length l ∧ l.length ≤ c := by
  obtain ⟨cs, rfl, _⟩ := okWide_struct Tryz.underlying28 hv
  obtain ⟨fuel, hf⟩ := h
  obtain ⟨⟨name, kind, axis, ⟨x, y, z⟩, ⟨lo, hi⟩, l⟩, hk⟩ := opnFeat enc w sp held fuel _ _ hf
  obtain ⟨_, _, hcs, rfl, ⟨_, _, rfl, rfl, ⟨_, _, rfl, rfl, ⟨_, _, rfl, ⟨_, _, rfl, rfl, ⟨_, _, rfl, rfl, rfl⟩⟩, ⟨_, _, rfl, ⟨_, _, rfl, rfl, rfl⟩, ⟨A, c, rfl, hl, hC⟩⟩⟩⟩⟩⟩ := hk
  refine ⟨name, kind, axis, x, y, z, lo, hi, A, c, l, ?_, hC, hl⟩
  have h2 : cs.toList = _ := hcs
  exact congrArg Value.agg (Array.toList_inj.1 h2)
set_option maxRecDepth 100000 in
theorem frame_arg {H : Type} {enc : TypeId × Value → H} {w : World} {sp : Nat → Bool} {held : Bool} {v : Value} {d : DataW H} {ps : List MemPlace} {r : Reach} {base : Nat} (hv : Value.okWide Tryz.prog w r base 31 v) (h : DataW.Trod enc Tryz.prog w 0 sp held 31 v d ps) :
    ∃ (kind : Int) (disc : Bool) (tol mat : Int) (A : Option Addr) (c : Nat) (l : List S76), v = .agg #[.int .i64 kind, .bool disc, .int .i64 tol, .int .i64 mat, .slice A l.length c] ∧ Kd.C k76 w A l.length l ∧ l.length ≤ c := by
  obtain ⟨cs, rfl, _⟩ := okWide_struct Tryz.underlying31 hv
  obtain ⟨fuel, hf⟩ := h
  obtain ⟨⟨kind, disc, tol, mat, l⟩, hk⟩ := opn31 enc w sp held fuel _ _ hf
  obtain ⟨A, c, hcs, hl, hC⟩ := ZA.k31_open hk
  refine ⟨kind, disc, tol, mat, A, c, l, ?_, hC, hl⟩
  have h2 : cs.toList = _ := hcs
  exact congrArg Value.agg (Array.toList_inj.1 h2)
end Go.Proofs.YtkohjcfmcliioaaGreatDoor
set_option linter.unusedVariables false
namespace Go.Proofs.YtkohjcfmcliioaaGreatDoor
open Go Go.RowKit Go.ChangeShapes Go.WideShapes Go.ChangeAt
theorem own : ownKnob Tryz.prog.godebug = none := by kernel_rfl
theorem laidOut : laidOutB Tryz.prog = true := by kernel_rfl
theorem g_pow : Tryz.prog.globalNamed "internal/strconv.uint64pow10" = some 3 := by kernel_rfl
theorem gt_pow : (Tryz.prog.globals[3]?).map (·.type) = some 192 := by kernel_rfl
theorem g_err : Tryz.prog.globalNamed "strconv.ErrRange" = some 2 := by kernel_rfl
theorem gt_err : (Tryz.prog.globals[2]?).map (·.type) = some 104 := by kernel_rfl
theorem g_syn : Tryz.prog.globalNamed "strconv.ErrSyntax" = some 1 := by kernel_rfl
theorem gt_syn : (Tryz.prog.globals[1]?).map (·.type) = some 104 := by kernel_rfl
theorem cells_u64 : Tryz.prog.cellsOf 169 = 1 := by kernel_rfl
theorem cells_pow : Tryz.prog.cellsOf 192 = 20 := by kernel_rfl
theorem cells_es : Tryz.prog.cellsOf 197 = 1 := by kernel_rfl
theorem cells_str : Tryz.prog.cellsOf 9 = 1 := by kernel_rfl
theorem row_es (u : TypeId) (h : Tryz.prog.typeName? 3 u = some "*errors.errorString") : u = 195 :=
  typeName_ptr_named (nm := "errors.errorString") (by kernel_rfl) (by kernel_rfl) (by decide) u h
def ErrsRange : List UInt8 := [118, 97, 108, 117, 101, 32, 111, 117, 116, 32, 111, 102, 32, 114, 97, 110, 103, 101]
def ErrsSyntax : List UInt8 := [105, 110, 118, 97, 108, 105, 100, 32, 115, 121, 110, 116, 97, 120]
theorem env_of_laid {W : World} (hsh : W.ShapedOpen Tryz.prog) {x0 x1 x3 : String × DataW Unit} {r : List (String × DataW Unit)}
    (h : laidMet Tryz.prog (x0 :: x1 :: ("internal/strconv.uint64pow10", Lib.tabData .u64 Lib.pow10Tab) :: x3 :: ("strconv.ErrRange", .iface "*errors.errorString" (.ptr (.agg [.lit (.string ErrsRange)]))) :: ("strconv.ErrSyntax", .iface "*errors.errorString" (.ptr (.agg [.lit (.string ErrsSyntax)]))) :: r) W) : Env W := by
  have h1 := h.tail.tail
  have h2 := h.tail.tail.tail.tail
  have h3 := h2.tail
  obtain ⟨m, hm⟩ := cell_of_shapedOpen_int (P := Tryz.prog) (g := 0) (t := 3) (zero := #[.int .i64 0]) hsh (of_decide_eq_true (by kernel_rfl)) (by kernel_rfl) rfl (by kernel_rfl) (by kernel_rfl) Tryz.underlying3
  obtain ⟨a0, s0, hv, _, _, _⟩ := laid_sentinel h2 g_err gt_err Tryz.underlying104 row_es Tryz.underlying195 Tryz.underlying197 rfl rfl Tryz.underlying9 cells_es cells_str
  obtain ⟨a1, s1, hv1, _, _, _⟩ := laid_sentinel h3 g_syn gt_syn Tryz.underlying104 row_es Tryz.underlying195 Tryz.underlying197 rfl rfl Tryz.underlying9 cells_es cells_str
  exact ⟨Lib.tabIs_of_head g_pow gt_pow Tryz.underlying192 Tryz.underlying169 cells_u64 cells_pow h1, ⟨m, hm⟩, ⟨_, World.var?_cell g_syn hv1 0, .inr ⟨_, _, rfl⟩⟩, _, World.var?_cell g_err hv 0, .inr ⟨_, _, rfl⟩⟩
/-- The wrap that keeps both: what is listed, and the world's shape. -/
theorem returns_listed {H : Type} {enc : TypeId × Value → H} {a : Assume} {C : Checked} {os : Os} {f : FuncId} {fn : Func} {s : ChangeSpec} {conds : List PathCond} {apart fresh handsOn again : Bool} {X : World → Array Value → Prop}
    (hX : ∀ (w w' : World) (args : Array Value), w.heap = w'.heap → X w args → X w' args)
    (own : ownKnob C.prog.godebug = none) (started : os.Started) (noInit : C.prog.inits.idxOf? f = none) (hfn : C.prog.funcs[f]? = some fn)
    (witness : ∃ (w : World) (tape : Tape) (i : Input), w.os = os ∧ (w.forCall tape i).Shaped C.prog ∧ i.vars = [] ∧ Input.okWide C.prog (w.forCall tape i) .any w.heap.size f i ∧
      ((s.pre enc C.prog fn conds apart (w.forCall tape i).memory i.args ∧ X (w.forCall tape i).memory i.args) ∧ sizedMet enc C.prog fn (OpenSpec.ofChange s) apart (w.forCall tape i).memory i.args) ∧ a.holds C.prog (lone (Frame.enter C.prog f i.args .normal) [] (w.forCall tape i)))
    (contract : ∀ (W : World) (base : Nat) (args : Array Value) (ds gs : List (DataW H)) (before : List MemPlace),
      (∀ (j : Nat) t v, fn.params[j]? = some t → args[j]? = some v → Value.okWide C.prog W .any base t v) →
      DataW.Whole enc C.prog fn.params.toList s.vars apart W args.toList ds gs before →
      (DataW.weightsEach C.prog (fn.params.toList ++ s.plain.varTypes C.prog) (ds ++ gs)).all (· ≤ reachBytes) = true → X W args → W.ShapedOpen C.prog →
      Calls C.prog f args W fun e W' => ∃ v, e = .returned v ∧ s.post enc C.prog fn apart fresh handsOn again W args v W') :
    ReturnsInHanded a C os f .any (fun w args => (s.pre enc C.prog fn conds apart w args ∧ X w args) ∧ sizedMet enc C.prog fn (OpenSpec.ofChange s) apart w args) (s.post enc C.prog fn apart fresh handsOn again) :=
  returnsInHanded_of_calls own started noInit witness fun w tape i _ hsh _ hok hpre hholds => by
    obtain ⟨_, _, _, fn', hfn', _, _, _, _, hval⟩ := hok
    obtain rfl : fn' = fn := Option.some.inj (hfn'.symm.trans hfn)
    obtain ⟨⟨⟨ds, gs, before, hw, _⟩, hx⟩, hz⟩ := hpre
    refine (contract (w.forCall tape i) w.heap.size i.args ds gs before hval (DataW.Whole.of_heap (w' := w.forCall tape i) (by rfl) hw) (hz.weights hw) (hX _ _ _ (by rfl) hx) hsh).mono fun e W' ⟨v, he, hp⟩ => ?_
    subst he
    exact ChangeSpec.post_blind hp
end Go.Proofs.YtkohjcfmcliioaaGreatDoor
namespace Go.Proofs.YtkohjcfmcliioaaGreatDoor.frameChecks
open Go.ChangeShapes Go.WideShapes Go.ChangeAt Go.RowKit
open Go.ChangeMaps (open_string shut_string)
open Go.Proofs.YtkohjcfmcliioaaGreatDoorW.PrintWords
set_option linter.unusedVariables false
set_option maxRecDepth 100000 in
theorem lifted (os : Os) (started : os.Started) (H : Type) (enc : TypeId × Value → H) :
    ReturnsInHanded {} Tryz.checked os 3 .any (fun w args => (Rows.frameChecksSpec.pre enc Tryz.prog Tryz.f3 [] false w args ∧ laidMetH Tryz.prog Rows.frameChecksRow.laid w) ∧ sizedMet enc Tryz.prog Tryz.f3 (OpenSpec.ofChange Rows.frameChecksSpec) false w args)
      (Rows.frameChecksSpec.post enc Tryz.prog Tryz.f3 false true false false) := by
  refine returns_listed (C := Tryz.checked) (X := fun w _ => laidMetH Tryz.prog Rows.frameChecksRow.laid w) (fun _ _ _ hh h => h.of_heap hh) own started (by kernel_rfl) Tryz.func3
    (ChangeSpec.witness_shaped (enc := enc) (C := Tryz.checked) (os := os) (X := fun w _ => laidMetH Tryz.prog Rows.frameChecksRow.laid w) false (World.laidAll Tryz.prog os Rows.frameChecksRow.laid) #[.agg #[.string ByteArray.empty, .int .i64 0, .int .i64 0, .int .i64 0, .int .i64 0, .int .i64 0, .int .i64 0, .int .i64 0, .slice none 0 0], .agg #[.int .i64 0, .bool false, .int .i64 0, .int .i64 0, .slice none 0 0]] 8 (World.laidAll_os _ _ _)
      (World.shaped_of_ZipB (by kernel_rfl) (by kernel_rfl)) (by kernel_rfl) (by kernel_rfl) (by kernel_rfl)
      (by rw [MakeChecks.laidMetH_plain _ _ _ (by kernel_rfl)]; exact laidMet_laidAll _ (by kernel_rfl) (by kernel_rfl))) ?_
  intro W base args ds gs before hval0 hW hsz0 hL hsh
  rw [MakeChecks.laidMetH_plain _ _ _ (by kernel_rfl)] at hL
  have HE : Env W := env_of_laid hsh hL
  have hsz : (DataW.weightsEach Tryz.prog (Tryz.f3.params.toList ++ Rows.frameChecksSpec.plain.varTypes Tryz.prog) (ds ++ gs)).all (· ≤ reachBytes) = true := hsz0
  have hval : ∀ (j : Nat) t v, Tryz.f3.params[j]? = some t → args[j]? = some v → Value.okWide Tryz.prog W .any base t v := hval0
  have hW' := hW
  obtain ⟨p, q, hA0, hV, rfl, hfz, hnd⟩ := hW
  have hA : DataW.TrodAll enc Tryz.prog W 0 (fun _ => true) true Tryz.f3.params.toList args.toList ds p := hA0
  rw [Tryz.params3] at hA hval hsz
  obtain ⟨v0, vs0, d0, ds0, p0, q0, hargs, rfl, rfl, h0, r0⟩ := trodAll_cons hA
  obtain ⟨v1, vs1, d1, ds1, p1, q1, rfl, rfl, rfl, h1, r1⟩ := trodAll_cons r0
  obtain ⟨rfl, rfl, rfl⟩ := trodAll_nil r1
  obtain rfl : args = #[v0, v1] := by cases args; simp_all
  obtain ⟨rfl, rfl⟩ := trodVars_none hV
  have e0 := h0
  have lt0 : ∀ x ∈ p0, x.block < W.heap.size := by obtain ⟨m, hm⟩ := e0; exact DataW.trod_lt m _ _ _ hm
  obtain ⟨n0, k0, x0, X0, Y0, Z0, lo0, hi0, A0, c0, l0, rfl, hR0, hc0⟩ := feat_arg (hval 0 28 v0 rfl rfl) h0
  have e1 := h1
  have lt1 : ∀ x ∈ p1, x.block < W.heap.size := by obtain ⟨m, hm⟩ := e1; exact DataW.trod_lt m _ _ _ hm
  obtain ⟨k1, b1, t1, m1, A1, c1, l1, rfl, hR1, hc1⟩ := frame_arg (hval 1 31 v1 rfl rfl) h1
  clear hA0 hval0 hsz0 hsz
  obtain ⟨k, hk⟩ := Ev.rounds (checks_is n0 k0 x0 X0 Y0 Z0 lo0 hi0 l0 k1 b1 t1 m1 l1 )
  refine (ZLC.metrolablaw19_FrameChecks.calls k n0 k0 x0 X0 Y0 Z0 lo0 hi0 A0 c0 l0 k1 b1 t1 m1 A1 c1 l1 true W hR0 hc0 hR1 hc1 hk HE).mono fun e W' ⟨he, bel⟩ => ?_
  subst he
  exact ⟨_, rfl, _, _, _, [], _, [], hW', trodAll_mk1 (shut_bool Tryz.underlying4 _), (trodAll_cons_mk (Below.trod laidOut (by kernel_rfl) (of_decide_eq_true (by kernel_rfl)) e0 bel lt0) (trodAll_cons_mk (Below.trod laidOut (by kernel_rfl) (of_decide_eq_true (by kernel_rfl)) e1 bel lt1) trodAll_mk0)), rfl, bel.frame _, fun h => by cases h⟩
theorem said : Rows.FrameChecksSaid :=
  OpenClaim.holds_of_wide 3 Tryz.f3 rfl rfl rfl rfl rfl rfl rfl ⟨rfl, rfl, rfl, rfl, rfl⟩ rfl rfl rfl rfl rfl (by kernel_rfl) Tryz.func3 (by kernel_rfl)
    (of_decide_eq_true (by kernel_rfl)) (by unfold Func.isWrapper; first | (rw [if_pos (by decide +kernel)]; kernel_rfl) | (rw [if_neg (by decide +kernel)]; exact ⟨rfl, rfl⟩))
    (fun os started H enc _ => lifted os started H enc)
theorem plain (f : FuncId) (fn : Func) (hf : Tryz.pinned.checked.prog.funcNamed "metrolab/metrolablaw19.FrameChecks" = some f) (hfn : Tryz.pinned.checked.prog.funcs[f]? = some fn) :
    true = Tryz.pinned.checked.prog.looks [] ∧ ∀ (j : Nat) t, fn.params[j]? = some t → Tryz.pinned.checked.prog.wantsStandIn t = false := by
  obtain rfl : f = 3 := Option.some.inj ((show Tryz.prog.funcNamed "metrolab/metrolablaw19.FrameChecks" = some 3 by kernel_rfl).symm.trans hf) |>.symm
  obtain rfl : fn = Tryz.f3 := (Option.some.inj (Tryz.func3.symm.trans hfn)).symm
  refine ⟨by kernel_rfl, fun j t ht => ?_⟩
  rw [Tryz.params3] at ht
  have hm : t ∈ [28, 31] := by simpa using Array.mem_of_getElem? ht
  have hall : ([28, 31].all fun u => !Tryz.prog.wantsStandIn u) = true := by kernel_rfl
  exact (show Tryz.prog.wantsStandIn t = false by simpa using List.all_eq_true.1 hall t hm)
theorem card : Rows.FrameChecksCardSaid :=
  Claim7.holds_tied_plain_at .later [] _ _ _ _ said (fun _ h => by cases h) (by kernel_rfl) (fun _ h => by cases h) frameChecks_row_tie rfl ⟨rfl, rfl⟩ (by kernel_rfl) rfl plain (by kernel_rfl)
end Go.Proofs.YtkohjcfmcliioaaGreatDoor.frameChecks
namespace Go.Proofs.YtkohjcfmcliioaaGreatDoor
/-- The card, under a short name. -/
theorem frameChecks_holds : Rows.FrameChecksCardSaid := frameChecks.card
end Go.Proofs.YtkohjcfmcliioaaGreatDoor
