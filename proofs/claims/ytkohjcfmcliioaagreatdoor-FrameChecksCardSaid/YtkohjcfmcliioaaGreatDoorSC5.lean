/- A part of what the claim's last text leans on. -/
import Derived.Test.YtkohjcfmcliioaaGreatDoorSC4
import Derived.Lib.SplitLaws
import Derived.Sort.OwnSorted
import Derived.Lib.OwnBridge
import Derived.Lib.AppendIntMem
import Derived.Shelf.Slices.In.SortNone
import Derived.Test.YtkohjcfmcliioaaGreatDoorProg
import Derived.Below
import Derived.Deep.Draws
import Derived.Deep.AppendLies
import Derived.Maps.AppendAt
import Derived.OwnWalk
import Derived.Laws.BytesArg
import Derived.Laws.MakeOwn
import Derived.Laws.OwnMore
import Derived.Deep.OwnRows
import Derived.Tactics
import Derived.Lib.ConvBytes
import Derived.Laws.Slices
import Derived.WalkKit
import Derived.KernelRfl
import Derived.RowKit3
import Derived.Deep.LoopGhost
import Derived.Deep.QuietTactic
import Derived.BigQuiet
import Derived.WideLaws
import Derived.Deep.DeepCutAuto
import Derived.Deep.CutBlock
import Derived.Deep.RegionHeld3
import Derived.Laws.Rows
import Derived.Lib.AppendStr
import Derived.ArgAppend
import Derived.Laws.IdiomCopy
import Derived.OrdersHeld
import Derived.Laws.BitsLemmas
import Derived.RowKit
import Derived.WalkLawsBesides
import Derived.Maps.RangeWalk
import Derived.Maps.OwnOps
namespace Go.Proofs.YtkohjcfmcliioaaGreatDoor.ZU
open Go.Proofs.YtkohjcfmcliioaaGreatDoor.ZA (errW errW_none errW_some S76 z76 k76 k76_open k76_mkM rd_T76 at_T76 S31 z31 k31 k31_open k31_mk rd_T31 at_T31)
open Go.RowKit Go.Proofs.YtkohjcfmcliioaaGreatDoorW.PrintWords Go.Proofs.YtkohjcfmcliioaaGreatDoorW.PrintLast Go.Proofs.YtkohjcfmcliioaaGreatDoorW.PrintMore
attribute [local go_sem] max2_int min2_int max_two min_two max_three min_three max_four min_four   -- for this text's walks alone
set_option linter.unusedVariables false
set_option linter.unusedSimpArgs false
def metrolabref19_Check.l0 : Nat → Int → ByteArray → Int → Int → Int → Int → Int → Int → Int → List (S31) → Int → Bool → Int → Int → List (S76) → Option (Int)
  | 0, _, _, _, _, _, _, _, _, _, _, _, _, _, _, _ => none
  | k + 1, x8, x122000, x122001, x122002, x122003, x122004, x122005, x122006, x122007, x122008, x123000, x123001, x123002, x123003, x123004 => if x8 < (x123004.length : Int) then (if 0 ≤ x8 then (if ((rd_T76 x123004 x8).f0).toList = x122000.toList then (some 7) else (metrolabref19_Check.l0 k (wrap64 (x8 + 1)) x122000 x122001 x122002 x122003 x122004 x122005 x122006 x122007 x122008 x123000 x123001 x123002 x123003 x123004)) else (none)) else (some 0)
def metrolabref19_Check.f (k : Nat) (a0_0 : ByteArray) (a0_1 : Int) (a0_2 : Int) (a0_3 : Int) (a0_4 : Int) (a0_5 : Int) (a0_6 : Int) (a0_7 : Int) (l0_8 : List (S31)) (a1_0 : Int) (a1_1 : Bool) (a1_2 : Int) (a1_3 : Int) (l1_4 : List (S76)) : Option (Int) := (ZA.metrolabref18_Check.f k a0_0 a0_1 a0_2 a0_3 a0_4 a0_5 a0_6 a0_7 l0_8).bind fun t123 => (if t123 = 0 then ((ZA.metrolabref19_Plain.f k a1_0 a1_1 a1_2 a1_3 l1_4).bind fun t124 => (if t124 = 0 then ((ref_permitted.f a0_0 a0_1 a0_2 a0_3 a0_4 a0_5 a0_6 a0_7 l0_8 a1_0 a1_1 a1_2 a1_3 l1_4).bind fun t125 => (if t125 = 0 then (metrolabref19_Check.l0 k 0 a0_0 a0_1 a0_2 a0_3 a0_4 a0_5 a0_6 a0_7 l0_8 a1_0 a1_1 a1_2 a1_3 l1_4) else (some t125))) else (some t124))) else (some t123))
theorem metrolabref19_Check.mono_l : ∀ k, (∀ y0 y1 y2 y3 y4 y5 y6 y7 y8 y9 y10 y11 y12 y13 y14, LeO (metrolabref19_Check.l0 k y0 y1 y2 y3 y4 y5 y6 y7 y8 y9 y10 y11 y12 y13 y14) (metrolabref19_Check.l0 (k + 1) y0 y1 y2 y3 y4 y5 y6 y7 y8 y9 y10 y11 y12 y13 y14))
  | 0 => fun _ _ _ _ _ _ _ _ _ _ _ _ _ _ _ r h => by simp [metrolabref19_Check.l0] at h
  | k + 1 => by
    have ih0 := metrolabref19_Check.mono_l k
    · intro y0 y1 y2 y3 y4 y5 y6 y7 y8 y9 y10 y11 y12 y13 y14
      unfold metrolabref19_Check.l0
      repeat' first
      | (with_reducible exact ih0 _ _ _ _ _ _ _ _ _ _ _ _ _ _ _)
      | (with_reducible exact ZA.metrolabref18_Check.mono _ _ _ _ _ _ _ _ _ _)
      | (with_reducible exact ZA.metrolabref19_Plain.mono _ _ _ _ _ _)
      | (with_reducible exact LeO.refl _)
      | (with_reducible exact LeO.none _)
      | (with_reducible refine LeO.ite ?_ ?_)
      | (with_reducible refine LeO.bind ?_ (fun _ => ?_))
      | exact ih0 _ _ _ _ _ _ _ _ _ _ _ _ _ _ _
      | exact ZA.metrolabref18_Check.mono _ _ _ _ _ _ _ _ _ _
      | exact ZA.metrolabref19_Plain.mono _ _ _ _ _ _
      | exact LeO.none _
      | refine LeO.ite ?_ ?_
      | refine LeO.bind ?_ (fun _ => ?_)
theorem metrolabref19_Check.mono : ∀ a0 a1 a2 a3 a4 a5 a6 a7 a8 a9 a10 a11 a12 a13 k, LeO (metrolabref19_Check.f k a0 a1 a2 a3 a4 a5 a6 a7 a8 a9 a10 a11 a12 a13) (metrolabref19_Check.f (k + 1) a0 a1 a2 a3 a4 a5 a6 a7 a8 a9 a10 a11 a12 a13) := by
  intro a0 a1 a2 a3 a4 a5 a6 a7 a8 a9 a10 a11 a12 a13 k
  have ih0 := metrolabref19_Check.mono_l k
  unfold metrolabref19_Check.f
  repeat' first
      | (with_reducible exact ih0 _ _ _ _ _ _ _ _ _ _ _ _ _ _ _)
      | (with_reducible exact ZA.metrolabref18_Check.mono _ _ _ _ _ _ _ _ _ _)
      | (with_reducible exact ZA.metrolabref19_Plain.mono _ _ _ _ _ _)
      | (with_reducible exact LeO.refl _)
      | (with_reducible exact LeO.none _)
      | (with_reducible refine LeO.ite ?_ ?_)
      | (with_reducible refine LeO.bind ?_ (fun _ => ?_))
      | exact ih0 _ _ _ _ _ _ _ _ _ _ _ _ _ _ _
      | exact ZA.metrolabref18_Check.mono _ _ _ _ _ _ _ _ _ _
      | exact ZA.metrolabref19_Plain.mono _ _ _ _ _ _
      | exact LeO.none _
      | refine LeO.ite ?_ ?_
      | refine LeO.bind ?_ (fun _ => ?_)
set_option maxHeartbeats 8000000 in
set_option maxRecDepth 100000 in
theorem metrolabref19_Check.calls (k : Nat) (a0_0 : ByteArray) (a0_1 : Int) (a0_2 : Int) (a0_3 : Int) (a0_4 : Int) (a0_5 : Int) (a0_6 : Int) (a0_7 : Int) (A0_8 : Option Addr) (c0_8 : Nat) (l0_8 : List (S31)) (a1_0 : Int) (a1_1 : Bool) (a1_2 : Int) (a1_3 : Int) (A1_4 : Option Addr) (c1_4 : Nat) (l1_4 : List (S76)) (r : Int) (w : World) (hr0_8 : Kd.C k31 w A0_8 l0_8.length l0_8) (hc0_8 : l0_8.length ≤ c0_8) (hr1_4 : Kd.C k76 w A1_4 l1_4.length l1_4) (hc1_4 : l1_4.length ≤ c1_4) (h : metrolabref19_Check.f k a0_0 a0_1 a0_2 a0_3 a0_4 a0_5 a0_6 a0_7 l0_8 a1_0 a1_1 a1_2 a1_3 l1_4 = some r) :
    Calls Tryz.prog 14 #[.agg #[.string a0_0, .int .i64 a0_1, .int .i64 a0_2, .int .i64 a0_3, .int .i64 a0_4, .int .i64 a0_5, .int .i64 a0_6, .int .i64 a0_7, .slice A0_8 l0_8.length c0_8], .agg #[.int .i64 a1_0, .bool a1_1, .int .i64 a1_2, .int .i64 a1_3, .slice A1_4 l1_4.length c1_4]] w fun e w' => e = .returned (.int .i64 r) ∧ Below w.heap.size w w' := by
  have hu28 := Tryz.underlying28
  have hu31 := Tryz.underlying31
  have HR0_8 := Aside0.mk hr0_8
  have HC0_8 := Aside0.mk hc0_8
  clear hr0_8 hc0_8
  have HR1_4 := Aside0.mk hr1_4
  have HC1_4 := Aside0.mk hc1_4
  clear hr1_4 hc1_4
  have HB := Aside0.mk (Below.refl w.heap.size w)
  have H : ((ZA.metrolabref18_Check.f k a0_0 a0_1 a0_2 a0_3 a0_4 a0_5 a0_6 a0_7 l0_8).bind fun t123 => (if t123 = 0 then ((ZA.metrolabref19_Plain.f k a1_0 a1_1 a1_2 a1_3 l1_4).bind fun t124 => (if t124 = 0 then ((ref_permitted.f a0_0 a0_1 a0_2 a0_3 a0_4 a0_5 a0_6 a0_7 l0_8 a1_0 a1_1 a1_2 a1_3 l1_4).bind fun t125 => (if t125 = 0 then (metrolabref19_Check.l0 k 0 a0_0 a0_1 a0_2 a0_3 a0_4 a0_5 a0_6 a0_7 l0_8 a1_0 a1_1 a1_2 a1_3 l1_4) else (some t125))) else (some t124))) else (some t123))) = some r := h
  clear h
  replace H := Option.bind_eq_some_iff.mp H
  obtain ⟨t123, A30, H⟩ := H
  replace H : (if t123 = 0 then ((ZA.metrolabref19_Plain.f k a1_0 a1_1 a1_2 a1_3 l1_4).bind fun t124 => (if t124 = 0 then ((ref_permitted.f a0_0 a0_1 a0_2 a0_3 a0_4 a0_5 a0_6 a0_7 l0_8 a1_0 a1_1 a1_2 a1_3 l1_4).bind fun t125 => (if t125 = 0 then (metrolabref19_Check.l0 k 0 a0_0 a0_1 a0_2 a0_3 a0_4 a0_5 a0_6 a0_7 l0_8 a1_0 a1_1 a1_2 a1_3 l1_4) else (some t125))) else (some t124))) else (some t123)) = some r := H
  have A3 := Aside0.mk A30
  clear A30
  by_cases c4 : t123 = 0
  · rw [if_pos c4] at H
    have c4b0 : (t123 == 0) = true := beq_iff_eq.mpr c4
    have c4b1 : (t123 != 0) = false := bne_eq_false_iff_eq.mpr c4
    clear c4
    replace H := Option.bind_eq_some_iff.mp H
    obtain ⟨t124, A50, H⟩ := H
    replace H : (if t124 = 0 then ((ref_permitted.f a0_0 a0_1 a0_2 a0_3 a0_4 a0_5 a0_6 a0_7 l0_8 a1_0 a1_1 a1_2 a1_3 l1_4).bind fun t125 => (if t125 = 0 then (metrolabref19_Check.l0 k 0 a0_0 a0_1 a0_2 a0_3 a0_4 a0_5 a0_6 a0_7 l0_8 a1_0 a1_1 a1_2 a1_3 l1_4) else (some t125))) else (some t124)) = some r := H
    have A5 := Aside0.mk A50
    clear A50
    by_cases c6 : t124 = 0
    · rw [if_pos c6] at H
      have c6b0 : (t124 == 0) = true := beq_iff_eq.mpr c6
      have c6b1 : (t124 != 0) = false := bne_eq_false_iff_eq.mpr c6
      clear c6
      replace H := Option.bind_eq_some_iff.mp H
      obtain ⟨t125, A70, H⟩ := H
      replace H : (if t125 = 0 then (metrolabref19_Check.l0 k 0 a0_0 a0_1 a0_2 a0_3 a0_4 a0_5 a0_6 a0_7 l0_8 a1_0 a1_1 a1_2 a1_3 l1_4) else (some t125)) = some r := H
      have A7 := Aside0.mk A70
      clear A70
      by_cases c8 : t125 = 0
      · rw [if_pos c8] at H
        have c8b0 : (t125 == 0) = true := beq_iff_eq.mpr c8
        have c8b1 : (t125 != 0) = false := bne_eq_false_iff_eq.mpr c8
        clear c8
        have H' := Aside0.mk H
        clear H
        go_enter Tryz.func14, Tryz.ntmps14
        go_wp2_with (first | ((with_reducible refine gate_dst (N := 2) rfl ?_); refine box_event ?hg (N := 2) ?hd (cs := #[.string a0_0, .int .i64 a0_1, .int .i64 a0_2, .int .i64 a0_3, .int .i64 a0_4, .int .i64 a0_5, .int .i64 a0_6, .int .i64 a0_7, .slice A0_8 l0_8.length c0_8]) (t := 28) ?hr ?_; (case hd => rfl); (case hg => rfl); (case hr => first | (go_simp; done) | (go_simp; rfl)); intro gb121 hg w9 hbox hb; have n0_ := Aside0.mk (below_step (by repeat (first | (with_reducible first | exact HB.out | apply below_alloc | apply pw_below_drewN | apply below_drew1) | exact HB.out)) hb); have n1_ := Aside0.mk (hbox); have n2_ := Aside0.mk ((by rw [hg]; exact (below_size (by repeat (first | (with_reducible first | exact HB.out | apply below_alloc | apply pw_below_drewN | apply below_drew1) | exact HB.out))) : w.heap.size ≤ gb121)); have n3_ := Aside0.mk ((by rw [hg]; exact (below_size (by repeat (first | (with_reducible first | exact HB.out | apply below_alloc | apply pw_below_drewN | apply below_drew1) | exact HB.out))) : w.heap.size ≤ gb121)); clear HB; have HB := n0_; have BK121 := n1_; have GW121 := n2_; have GE121 := n3_; clear n0_ n1_ n2_ n3_; clear hb hbox hg) | ((with_reducible refine gate_dst (N := 3) rfl ?_); refine box_event ?hg (N := 3) ?hd (cs := #[.int .i64 a1_0, .bool a1_1, .int .i64 a1_2, .int .i64 a1_3, .slice A1_4 l1_4.length c1_4]) (t := 31) ?hr ?_; (case hd => rfl); (case hg => rfl); (case hr => first | (go_simp; done) | (go_simp; rfl)); intro gb122 hg w10 hbox hb; have n0_ := Aside0.mk (blk_below (g := gb121) (o := .cells #[.string a0_0, .int .i64 a0_1, .int .i64 a0_2, .int .i64 a0_3, .int .i64 a0_4, .int .i64 a0_5, .int .i64 a0_6, .int .i64 a0_7, .slice A0_8 l0_8.length c0_8] 28 (0, 0)) (by (with_reducible repeat (first | refine blk_drewN ?_ _ | refine blk_drew ?_ | refine blk_alloc ?_ _)); exact BK121.out) hb); have n1_ := Aside0.mk (below_step (by repeat (first | (with_reducible first | exact HB.out | apply below_alloc | apply pw_below_drewN | apply below_drew1 | refine below_set ?_ GE121.out) | exact HB.out)) hb); have n2_ := Aside0.mk (hbox); have n3_ := Aside0.mk ((by rw [hg]; exact (below_size (by repeat (first | (with_reducible first | exact HB.out | apply below_alloc | apply pw_below_drewN | apply below_drew1 | refine below_set ?_ GE121.out) | exact HB.out))) : w.heap.size ≤ gb122)); have n4_ := Aside0.mk ((by rw [hg]; exact (below_size (by repeat (first | (with_reducible first | exact HB.out | apply below_alloc | apply pw_below_drewN | apply below_drew1 | refine below_set ?_ GE121.out) | exact HB.out))) : w.heap.size ≤ gb122)); have n5_ := Aside0.mk ((by rw [hg]; exact Nat.ne_of_lt (blk_lt (g := gb121) (o := .cells #[.string a0_0, .int .i64 a0_1, .int .i64 a0_2, .int .i64 a0_3, .int .i64 a0_4, .int .i64 a0_5, .int .i64 a0_6, .int .i64 a0_7, .slice A0_8 l0_8.length c0_8] 28 (0, 0)) (by (with_reducible repeat (first | refine blk_drewN ?_ _ | refine blk_drew ?_ | refine blk_alloc ?_ _)); exact BK121.out)) : gb121 ≠ gb122)); have n6_ := Aside0.mk ((by rw [hg]; exact Nat.ne_of_gt (blk_lt (g := gb121) (o := .cells #[.string a0_0, .int .i64 a0_1, .int .i64 a0_2, .int .i64 a0_3, .int .i64 a0_4, .int .i64 a0_5, .int .i64 a0_6, .int .i64 a0_7, .slice A0_8 l0_8.length c0_8] 28 (0, 0)) (by (with_reducible repeat (first | refine blk_drewN ?_ _ | refine blk_drew ?_ | refine blk_alloc ?_ _)); exact BK121.out)) : gb122 ≠ gb121)); clear BK121; clear HB; have BK121 := n0_; have HB := n1_; have BK122 := n2_; have GW122 := n3_; have GE122 := n4_; have NB121_122 := n5_; have NB122_121 := n6_; clear n0_ n1_ n2_ n3_ n4_ n5_ n6_; clear hb hbox hg; have hnb11 := NB121_122.out; have hnc11 := NB122_121.out; have hcz12_0 : w10.cell? ⟨gb121, 0, none⟩ = some (.string a0_0) := (blk_cell BK121.out 0).trans rfl; have hcz12_1 : w10.cell? ⟨gb121, 1, none⟩ = some (.int .i64 a0_1) := (blk_cell BK121.out 1).trans rfl; have hcz12_2 : w10.cell? ⟨gb121, 2, none⟩ = some (.int .i64 a0_2) := (blk_cell BK121.out 2).trans rfl; have hcz12_3 : w10.cell? ⟨gb121, 3, none⟩ = some (.int .i64 a0_3) := (blk_cell BK121.out 3).trans rfl; have hcz12_4 : w10.cell? ⟨gb121, 4, none⟩ = some (.int .i64 a0_4) := (blk_cell BK121.out 4).trans rfl; have hcz12_5 : w10.cell? ⟨gb121, 5, none⟩ = some (.int .i64 a0_5) := (blk_cell BK121.out 5).trans rfl; have hcz12_6 : w10.cell? ⟨gb121, 6, none⟩ = some (.int .i64 a0_6) := (blk_cell BK121.out 6).trans rfl; have hcz12_7 : w10.cell? ⟨gb121, 7, none⟩ = some (.int .i64 a0_7) := (blk_cell BK121.out 7).trans rfl; have hcz12_8 : w10.cell? ⟨gb121, 8, none⟩ = some (.slice A0_8 l0_8.length c0_8) := (blk_cell BK121.out 8).trans rfl; have hfz12_0 := blk_frozen BK121.out 0; have hfz12_1 := blk_frozen BK121.out 1; have hfz12_2 := blk_frozen BK121.out 2; have hfz12_3 := blk_frozen BK121.out 3; have hfz12_4 := blk_frozen BK121.out 4; have hfz12_5 := blk_frozen BK121.out 5; have hfz12_6 := blk_frozen BK121.out 6; have hfz12_7 := blk_frozen BK121.out 7; have hfz12_8 := blk_frozen BK121.out 8) | (go_at_call 45; (with_reducible refine (ZA.metrolabref18_Check.calls k a0_0 a0_1 a0_2 a0_3 a0_4 a0_5 a0_6 a0_7 _ _ l0_8 t123 _ ?side1 ?side2 A3.out).mono ?_); (case side1 => repeat (first | exact (Kd.C_below HR0_8.out HB.out) | (with_reducible refine Kd.C_alloc ?_ _) | (with_reducible refine Kd.C_drewN ?_ _) | (with_reducible refine Kd.C_drew ?_))); (case side2 => exact HC0_8.out); rintro e w13 ⟨rfl, hb⟩; have n0_ := Aside0.mk (blk_below (g := gb121) (o := .cells #[.string a0_0, .int .i64 a0_1, .int .i64 a0_2, .int .i64 a0_3, .int .i64 a0_4, .int .i64 a0_5, .int .i64 a0_6, .int .i64 a0_7, .slice A0_8 l0_8.length c0_8] 28 (0, 0)) (by (with_reducible repeat (first | refine blk_drewN ?_ _ | refine blk_drew ?_ | refine blk_alloc ?_ _)); exact BK121.out) hb); have n1_ := Aside0.mk (blk_below (g := gb122) (o := .cells #[.int .i64 a1_0, .bool a1_1, .int .i64 a1_2, .int .i64 a1_3, .slice A1_4 l1_4.length c1_4] 31 (0, 0)) (by (with_reducible repeat (first | refine blk_drewN ?_ _ | refine blk_drew ?_ | refine blk_alloc ?_ _)); exact BK122.out) hb); have n2_ := Aside0.mk (below_step (by repeat (first | (with_reducible first | exact HB.out | apply below_alloc | apply pw_below_drewN | apply below_drew1 | refine below_set ?_ GE121.out | refine below_set ?_ GE122.out) | exact HB.out)) hb); clear BK121; clear BK122; clear HB; have BK121 := n0_; have BK122 := n1_; have HB := n2_; clear n0_ n1_ n2_; (try clear hb); (try clear hb2); (try clear hk); (try clear hi); have hcz14_0 : w13.cell? ⟨gb122, 0, none⟩ = some (.int .i64 a1_0) := (blk_cell BK122.out 0).trans rfl; have hcz14_1 : w13.cell? ⟨gb122, 1, none⟩ = some (.bool a1_1) := (blk_cell BK122.out 1).trans rfl; have hcz14_2 : w13.cell? ⟨gb122, 2, none⟩ = some (.int .i64 a1_2) := (blk_cell BK122.out 2).trans rfl; have hcz14_3 : w13.cell? ⟨gb122, 3, none⟩ = some (.int .i64 a1_3) := (blk_cell BK122.out 3).trans rfl; have hcz14_4 : w13.cell? ⟨gb122, 4, none⟩ = some (.slice A1_4 l1_4.length c1_4) := (blk_cell BK122.out 4).trans rfl; have hfz14_0 := blk_frozen BK122.out 0; have hfz14_1 := blk_frozen BK122.out 1; have hfz14_2 := blk_frozen BK122.out 2; have hfz14_3 := blk_frozen BK122.out 3; have hfz14_4 := blk_frozen BK122.out 4) | (go_at_call 16; (with_reducible refine (ZA.metrolabref19_Plain.calls k a1_0 a1_1 a1_2 a1_3 _ _ l1_4 t124 _ ?side1 ?side2 A5.out).mono ?_); (case side1 => repeat (first | exact (Kd.C_below HR1_4.out HB.out) | (with_reducible refine Kd.C_alloc ?_ _) | (with_reducible refine Kd.C_drewN ?_ _) | (with_reducible refine Kd.C_drew ?_))); (case side2 => exact HC1_4.out); rintro e w15 ⟨rfl, hb⟩; have n0_ := Aside0.mk (blk_below (g := gb121) (o := .cells #[.string a0_0, .int .i64 a0_1, .int .i64 a0_2, .int .i64 a0_3, .int .i64 a0_4, .int .i64 a0_5, .int .i64 a0_6, .int .i64 a0_7, .slice A0_8 l0_8.length c0_8] 28 (0, 0)) (by (with_reducible repeat (first | refine blk_drewN ?_ _ | refine blk_drew ?_ | refine blk_alloc ?_ _)); exact BK121.out) hb); have n1_ := Aside0.mk (blk_below (g := gb122) (o := .cells #[.int .i64 a1_0, .bool a1_1, .int .i64 a1_2, .int .i64 a1_3, .slice A1_4 l1_4.length c1_4] 31 (0, 0)) (by (with_reducible repeat (first | refine blk_drewN ?_ _ | refine blk_drew ?_ | refine blk_alloc ?_ _)); exact BK122.out) hb); have n2_ := Aside0.mk (below_step (by repeat (first | (with_reducible first | exact HB.out | apply below_alloc | apply pw_below_drewN | apply below_drew1 | refine below_set ?_ GE121.out | refine below_set ?_ GE122.out) | exact HB.out)) hb); clear BK121; clear BK122; clear HB; have BK121 := n0_; have BK122 := n1_; have HB := n2_; clear n0_ n1_ n2_; (try clear hb); (try clear hb2); (try clear hk); (try clear hi); have hcz16_0 : w15.cell? ⟨gb121, 0, none⟩ = some (.string a0_0) := (blk_cell BK121.out 0).trans rfl; have hcz16_1 : w15.cell? ⟨gb121, 1, none⟩ = some (.int .i64 a0_1) := (blk_cell BK121.out 1).trans rfl; have hcz16_2 : w15.cell? ⟨gb121, 2, none⟩ = some (.int .i64 a0_2) := (blk_cell BK121.out 2).trans rfl; have hcz16_3 : w15.cell? ⟨gb121, 3, none⟩ = some (.int .i64 a0_3) := (blk_cell BK121.out 3).trans rfl; have hcz16_4 : w15.cell? ⟨gb121, 4, none⟩ = some (.int .i64 a0_4) := (blk_cell BK121.out 4).trans rfl; have hcz16_5 : w15.cell? ⟨gb121, 5, none⟩ = some (.int .i64 a0_5) := (blk_cell BK121.out 5).trans rfl; have hcz16_6 : w15.cell? ⟨gb121, 6, none⟩ = some (.int .i64 a0_6) := (blk_cell BK121.out 6).trans rfl; have hcz16_7 : w15.cell? ⟨gb121, 7, none⟩ = some (.int .i64 a0_7) := (blk_cell BK121.out 7).trans rfl; have hcz16_8 : w15.cell? ⟨gb121, 8, none⟩ = some (.slice A0_8 l0_8.length c0_8) := (blk_cell BK121.out 8).trans rfl; have hfz16_0 := blk_frozen BK121.out 0; have hfz16_1 := blk_frozen BK121.out 1; have hfz16_2 := blk_frozen BK121.out 2; have hfz16_3 := blk_frozen BK121.out 3; have hfz16_4 := blk_frozen BK121.out 4; have hfz16_5 := blk_frozen BK121.out 5; have hfz16_6 := blk_frozen BK121.out 6; have hfz16_7 := blk_frozen BK121.out 7; have hfz16_8 := blk_frozen BK121.out 8; have hcz17_0 : w15.cell? ⟨gb122, 0, none⟩ = some (.int .i64 a1_0) := (blk_cell BK122.out 0).trans rfl; have hcz17_1 : w15.cell? ⟨gb122, 1, none⟩ = some (.bool a1_1) := (blk_cell BK122.out 1).trans rfl; have hcz17_2 : w15.cell? ⟨gb122, 2, none⟩ = some (.int .i64 a1_2) := (blk_cell BK122.out 2).trans rfl; have hcz17_3 : w15.cell? ⟨gb122, 3, none⟩ = some (.int .i64 a1_3) := (blk_cell BK122.out 3).trans rfl; have hcz17_4 : w15.cell? ⟨gb122, 4, none⟩ = some (.slice A1_4 l1_4.length c1_4) := (blk_cell BK122.out 4).trans rfl; have hfz17_0 := blk_frozen BK122.out 0; have hfz17_1 := blk_frozen BK122.out 1; have hfz17_2 := blk_frozen BK122.out 2; have hfz17_3 := blk_frozen BK122.out 3; have hfz17_4 := blk_frozen BK122.out 4) | (go_at_call 46; (with_reducible refine (ref_permitted.calls a0_0 a0_1 a0_2 a0_3 a0_4 a0_5 a0_6 a0_7 _ _ l0_8 a1_0 a1_1 a1_2 a1_3 _ _ l1_4 t125 _ ?side1 ?side2 ?side3 ?side4 A7.out).mono ?_); (case side1 => repeat (first | exact (Kd.C_below HR0_8.out HB.out) | (with_reducible refine Kd.C_alloc ?_ _) | (with_reducible refine Kd.C_drewN ?_ _) | (with_reducible refine Kd.C_drew ?_))); (case side2 => exact HC0_8.out); (case side3 => repeat (first | exact (Kd.C_below HR1_4.out HB.out) | (with_reducible refine Kd.C_alloc ?_ _) | (with_reducible refine Kd.C_drewN ?_ _) | (with_reducible refine Kd.C_drew ?_))); (case side4 => exact HC1_4.out); rintro e w18 ⟨rfl, hb⟩; have n0_ := Aside0.mk (blk_below (g := gb121) (o := .cells #[.string a0_0, .int .i64 a0_1, .int .i64 a0_2, .int .i64 a0_3, .int .i64 a0_4, .int .i64 a0_5, .int .i64 a0_6, .int .i64 a0_7, .slice A0_8 l0_8.length c0_8] 28 (0, 0)) (by (with_reducible repeat (first | refine blk_drewN ?_ _ | refine blk_drew ?_ | refine blk_alloc ?_ _)); exact BK121.out) hb); have n1_ := Aside0.mk (blk_below (g := gb122) (o := .cells #[.int .i64 a1_0, .bool a1_1, .int .i64 a1_2, .int .i64 a1_3, .slice A1_4 l1_4.length c1_4] 31 (0, 0)) (by (with_reducible repeat (first | refine blk_drewN ?_ _ | refine blk_drew ?_ | refine blk_alloc ?_ _)); exact BK122.out) hb); have n2_ := Aside0.mk (below_step (by repeat (first | (with_reducible first | exact HB.out | apply below_alloc | apply pw_below_drewN | apply below_drew1 | refine below_set ?_ GE121.out | refine below_set ?_ GE122.out) | exact HB.out)) hb); clear BK121; clear BK122; clear HB; have BK121 := n0_; have BK122 := n1_; have HB := n2_; clear n0_ n1_ n2_; (try clear hb); (try clear hb2); (try clear hk); (try clear hi)))
        repeat (go_quiet (first | ((with_reducible refine gate_dst (N := 2) rfl ?_); refine box_event ?hg (N := 2) ?hd (cs := #[.string a0_0, .int .i64 a0_1, .int .i64 a0_2, .int .i64 a0_3, .int .i64 a0_4, .int .i64 a0_5, .int .i64 a0_6, .int .i64 a0_7, .slice A0_8 l0_8.length c0_8]) (t := 28) ?hr ?_; (case hd => rfl); (case hg => rfl); (case hr => first | (go_simp; done) | (go_simp; rfl)); intro gb121 hg w9 hbox hb; have n0_ := Aside0.mk (below_step (by repeat (first | (with_reducible first | exact HB.out | apply below_alloc | apply pw_below_drewN | apply below_drew1) | exact HB.out)) hb); have n1_ := Aside0.mk (hbox); have n2_ := Aside0.mk ((by rw [hg]; exact (below_size (by repeat (first | (with_reducible first | exact HB.out | apply below_alloc | apply pw_below_drewN | apply below_drew1) | exact HB.out))) : w.heap.size ≤ gb121)); have n3_ := Aside0.mk ((by rw [hg]; exact (below_size (by repeat (first | (with_reducible first | exact HB.out | apply below_alloc | apply pw_below_drewN | apply below_drew1) | exact HB.out))) : w.heap.size ≤ gb121)); clear HB; have HB := n0_; have BK121 := n1_; have GW121 := n2_; have GE121 := n3_; clear n0_ n1_ n2_ n3_; clear hb hbox hg) | ((with_reducible refine gate_dst (N := 3) rfl ?_); refine box_event ?hg (N := 3) ?hd (cs := #[.int .i64 a1_0, .bool a1_1, .int .i64 a1_2, .int .i64 a1_3, .slice A1_4 l1_4.length c1_4]) (t := 31) ?hr ?_; (case hd => rfl); (case hg => rfl); (case hr => first | (go_simp; done) | (go_simp; rfl)); intro gb122 hg w10 hbox hb; have n0_ := Aside0.mk (blk_below (g := gb121) (o := .cells #[.string a0_0, .int .i64 a0_1, .int .i64 a0_2, .int .i64 a0_3, .int .i64 a0_4, .int .i64 a0_5, .int .i64 a0_6, .int .i64 a0_7, .slice A0_8 l0_8.length c0_8] 28 (0, 0)) (by (with_reducible repeat (first | refine blk_drewN ?_ _ | refine blk_drew ?_ | refine blk_alloc ?_ _)); exact BK121.out) hb); have n1_ := Aside0.mk (below_step (by repeat (first | (with_reducible first | exact HB.out | apply below_alloc | apply pw_below_drewN | apply below_drew1 | refine below_set ?_ GE121.out) | exact HB.out)) hb); have n2_ := Aside0.mk (hbox); have n3_ := Aside0.mk ((by rw [hg]; exact (below_size (by repeat (first | (with_reducible first | exact HB.out | apply below_alloc | apply pw_below_drewN | apply below_drew1 | refine below_set ?_ GE121.out) | exact HB.out))) : w.heap.size ≤ gb122)); have n4_ := Aside0.mk ((by rw [hg]; exact (below_size (by repeat (first | (with_reducible first | exact HB.out | apply below_alloc | apply pw_below_drewN | apply below_drew1 | refine below_set ?_ GE121.out) | exact HB.out))) : w.heap.size ≤ gb122)); have n5_ := Aside0.mk ((by rw [hg]; exact Nat.ne_of_lt (blk_lt (g := gb121) (o := .cells #[.string a0_0, .int .i64 a0_1, .int .i64 a0_2, .int .i64 a0_3, .int .i64 a0_4, .int .i64 a0_5, .int .i64 a0_6, .int .i64 a0_7, .slice A0_8 l0_8.length c0_8] 28 (0, 0)) (by (with_reducible repeat (first | refine blk_drewN ?_ _ | refine blk_drew ?_ | refine blk_alloc ?_ _)); exact BK121.out)) : gb121 ≠ gb122)); have n6_ := Aside0.mk ((by rw [hg]; exact Nat.ne_of_gt (blk_lt (g := gb121) (o := .cells #[.string a0_0, .int .i64 a0_1, .int .i64 a0_2, .int .i64 a0_3, .int .i64 a0_4, .int .i64 a0_5, .int .i64 a0_6, .int .i64 a0_7, .slice A0_8 l0_8.length c0_8] 28 (0, 0)) (by (with_reducible repeat (first | refine blk_drewN ?_ _ | refine blk_drew ?_ | refine blk_alloc ?_ _)); exact BK121.out)) : gb122 ≠ gb121)); clear BK121; clear HB; have BK121 := n0_; have HB := n1_; have BK122 := n2_; have GW122 := n3_; have GE122 := n4_; have NB121_122 := n5_; have NB122_121 := n6_; clear n0_ n1_ n2_ n3_ n4_ n5_ n6_; clear hb hbox hg; have hnb11 := NB121_122.out; have hnc11 := NB122_121.out; have hcz12_0 : w10.cell? ⟨gb121, 0, none⟩ = some (.string a0_0) := (blk_cell BK121.out 0).trans rfl; have hcz12_1 : w10.cell? ⟨gb121, 1, none⟩ = some (.int .i64 a0_1) := (blk_cell BK121.out 1).trans rfl; have hcz12_2 : w10.cell? ⟨gb121, 2, none⟩ = some (.int .i64 a0_2) := (blk_cell BK121.out 2).trans rfl; have hcz12_3 : w10.cell? ⟨gb121, 3, none⟩ = some (.int .i64 a0_3) := (blk_cell BK121.out 3).trans rfl; have hcz12_4 : w10.cell? ⟨gb121, 4, none⟩ = some (.int .i64 a0_4) := (blk_cell BK121.out 4).trans rfl; have hcz12_5 : w10.cell? ⟨gb121, 5, none⟩ = some (.int .i64 a0_5) := (blk_cell BK121.out 5).trans rfl; have hcz12_6 : w10.cell? ⟨gb121, 6, none⟩ = some (.int .i64 a0_6) := (blk_cell BK121.out 6).trans rfl; have hcz12_7 : w10.cell? ⟨gb121, 7, none⟩ = some (.int .i64 a0_7) := (blk_cell BK121.out 7).trans rfl; have hcz12_8 : w10.cell? ⟨gb121, 8, none⟩ = some (.slice A0_8 l0_8.length c0_8) := (blk_cell BK121.out 8).trans rfl; have hfz12_0 := blk_frozen BK121.out 0; have hfz12_1 := blk_frozen BK121.out 1; have hfz12_2 := blk_frozen BK121.out 2; have hfz12_3 := blk_frozen BK121.out 3; have hfz12_4 := blk_frozen BK121.out 4; have hfz12_5 := blk_frozen BK121.out 5; have hfz12_6 := blk_frozen BK121.out 6; have hfz12_7 := blk_frozen BK121.out 7; have hfz12_8 := blk_frozen BK121.out 8) | (go_at_call 45; (with_reducible refine (ZA.metrolabref18_Check.calls k a0_0 a0_1 a0_2 a0_3 a0_4 a0_5 a0_6 a0_7 _ _ l0_8 t123 _ ?side1 ?side2 A3.out).mono ?_); (case side1 => repeat (first | exact (Kd.C_below HR0_8.out HB.out) | (with_reducible refine Kd.C_alloc ?_ _) | (with_reducible refine Kd.C_drewN ?_ _) | (with_reducible refine Kd.C_drew ?_))); (case side2 => exact HC0_8.out); rintro e w13 ⟨rfl, hb⟩; have n0_ := Aside0.mk (blk_below (g := gb121) (o := .cells #[.string a0_0, .int .i64 a0_1, .int .i64 a0_2, .int .i64 a0_3, .int .i64 a0_4, .int .i64 a0_5, .int .i64 a0_6, .int .i64 a0_7, .slice A0_8 l0_8.length c0_8] 28 (0, 0)) (by (with_reducible repeat (first | refine blk_drewN ?_ _ | refine blk_drew ?_ | refine blk_alloc ?_ _)); exact BK121.out) hb); have n1_ := Aside0.mk (blk_below (g := gb122) (o := .cells #[.int .i64 a1_0, .bool a1_1, .int .i64 a1_2, .int .i64 a1_3, .slice A1_4 l1_4.length c1_4] 31 (0, 0)) (by (with_reducible repeat (first | refine blk_drewN ?_ _ | refine blk_drew ?_ | refine blk_alloc ?_ _)); exact BK122.out) hb); have n2_ := Aside0.mk (below_step (by repeat (first | (with_reducible first | exact HB.out | apply below_alloc | apply pw_below_drewN | apply below_drew1 | refine below_set ?_ GE121.out | refine below_set ?_ GE122.out) | exact HB.out)) hb); clear BK121; clear BK122; clear HB; have BK121 := n0_; have BK122 := n1_; have HB := n2_; clear n0_ n1_ n2_; (try clear hb); (try clear hb2); (try clear hk); (try clear hi); have hcz14_0 : w13.cell? ⟨gb122, 0, none⟩ = some (.int .i64 a1_0) := (blk_cell BK122.out 0).trans rfl; have hcz14_1 : w13.cell? ⟨gb122, 1, none⟩ = some (.bool a1_1) := (blk_cell BK122.out 1).trans rfl; have hcz14_2 : w13.cell? ⟨gb122, 2, none⟩ = some (.int .i64 a1_2) := (blk_cell BK122.out 2).trans rfl; have hcz14_3 : w13.cell? ⟨gb122, 3, none⟩ = some (.int .i64 a1_3) := (blk_cell BK122.out 3).trans rfl; have hcz14_4 : w13.cell? ⟨gb122, 4, none⟩ = some (.slice A1_4 l1_4.length c1_4) := (blk_cell BK122.out 4).trans rfl; have hfz14_0 := blk_frozen BK122.out 0; have hfz14_1 := blk_frozen BK122.out 1; have hfz14_2 := blk_frozen BK122.out 2; have hfz14_3 := blk_frozen BK122.out 3; have hfz14_4 := blk_frozen BK122.out 4) | (go_at_call 16; (with_reducible refine (ZA.metrolabref19_Plain.calls k a1_0 a1_1 a1_2 a1_3 _ _ l1_4 t124 _ ?side1 ?side2 A5.out).mono ?_); (case side1 => repeat (first | exact (Kd.C_below HR1_4.out HB.out) | (with_reducible refine Kd.C_alloc ?_ _) | (with_reducible refine Kd.C_drewN ?_ _) | (with_reducible refine Kd.C_drew ?_))); (case side2 => exact HC1_4.out); rintro e w15 ⟨rfl, hb⟩; have n0_ := Aside0.mk (blk_below (g := gb121) (o := .cells #[.string a0_0, .int .i64 a0_1, .int .i64 a0_2, .int .i64 a0_3, .int .i64 a0_4, .int .i64 a0_5, .int .i64 a0_6, .int .i64 a0_7, .slice A0_8 l0_8.length c0_8] 28 (0, 0)) (by (with_reducible repeat (first | refine blk_drewN ?_ _ | refine blk_drew ?_ | refine blk_alloc ?_ _)); exact BK121.out) hb); have n1_ := Aside0.mk (blk_below (g := gb122) (o := .cells #[.int .i64 a1_0, .bool a1_1, .int .i64 a1_2, .int .i64 a1_3, .slice A1_4 l1_4.length c1_4] 31 (0, 0)) (by (with_reducible repeat (first | refine blk_drewN ?_ _ | refine blk_drew ?_ | refine blk_alloc ?_ _)); exact BK122.out) hb); have n2_ := Aside0.mk (below_step (by repeat (first | (with_reducible first | exact HB.out | apply below_alloc | apply pw_below_drewN | apply below_drew1 | refine below_set ?_ GE121.out | refine below_set ?_ GE122.out) | exact HB.out)) hb); clear BK121; clear BK122; clear HB; have BK121 := n0_; have BK122 := n1_; have HB := n2_; clear n0_ n1_ n2_; (try clear hb); (try clear hb2); (try clear hk); (try clear hi); have hcz16_0 : w15.cell? ⟨gb121, 0, none⟩ = some (.string a0_0) := (blk_cell BK121.out 0).trans rfl; have hcz16_1 : w15.cell? ⟨gb121, 1, none⟩ = some (.int .i64 a0_1) := (blk_cell BK121.out 1).trans rfl; have hcz16_2 : w15.cell? ⟨gb121, 2, none⟩ = some (.int .i64 a0_2) := (blk_cell BK121.out 2).trans rfl; have hcz16_3 : w15.cell? ⟨gb121, 3, none⟩ = some (.int .i64 a0_3) := (blk_cell BK121.out 3).trans rfl; have hcz16_4 : w15.cell? ⟨gb121, 4, none⟩ = some (.int .i64 a0_4) := (blk_cell BK121.out 4).trans rfl; have hcz16_5 : w15.cell? ⟨gb121, 5, none⟩ = some (.int .i64 a0_5) := (blk_cell BK121.out 5).trans rfl; have hcz16_6 : w15.cell? ⟨gb121, 6, none⟩ = some (.int .i64 a0_6) := (blk_cell BK121.out 6).trans rfl; have hcz16_7 : w15.cell? ⟨gb121, 7, none⟩ = some (.int .i64 a0_7) := (blk_cell BK121.out 7).trans rfl; have hcz16_8 : w15.cell? ⟨gb121, 8, none⟩ = some (.slice A0_8 l0_8.length c0_8) := (blk_cell BK121.out 8).trans rfl; have hfz16_0 := blk_frozen BK121.out 0; have hfz16_1 := blk_frozen BK121.out 1; have hfz16_2 := blk_frozen BK121.out 2; have hfz16_3 := blk_frozen BK121.out 3; have hfz16_4 := blk_frozen BK121.out 4; have hfz16_5 := blk_frozen BK121.out 5; have hfz16_6 := blk_frozen BK121.out 6; have hfz16_7 := blk_frozen BK121.out 7; have hfz16_8 := blk_frozen BK121.out 8; have hcz17_0 : w15.cell? ⟨gb122, 0, none⟩ = some (.int .i64 a1_0) := (blk_cell BK122.out 0).trans rfl; have hcz17_1 : w15.cell? ⟨gb122, 1, none⟩ = some (.bool a1_1) := (blk_cell BK122.out 1).trans rfl; have hcz17_2 : w15.cell? ⟨gb122, 2, none⟩ = some (.int .i64 a1_2) := (blk_cell BK122.out 2).trans rfl; have hcz17_3 : w15.cell? ⟨gb122, 3, none⟩ = some (.int .i64 a1_3) := (blk_cell BK122.out 3).trans rfl; have hcz17_4 : w15.cell? ⟨gb122, 4, none⟩ = some (.slice A1_4 l1_4.length c1_4) := (blk_cell BK122.out 4).trans rfl; have hfz17_0 := blk_frozen BK122.out 0; have hfz17_1 := blk_frozen BK122.out 1; have hfz17_2 := blk_frozen BK122.out 2; have hfz17_3 := blk_frozen BK122.out 3; have hfz17_4 := blk_frozen BK122.out 4) | (go_at_call 46; (with_reducible refine (ref_permitted.calls a0_0 a0_1 a0_2 a0_3 a0_4 a0_5 a0_6 a0_7 _ _ l0_8 a1_0 a1_1 a1_2 a1_3 _ _ l1_4 t125 _ ?side1 ?side2 ?side3 ?side4 A7.out).mono ?_); (case side1 => repeat (first | exact (Kd.C_below HR0_8.out HB.out) | (with_reducible refine Kd.C_alloc ?_ _) | (with_reducible refine Kd.C_drewN ?_ _) | (with_reducible refine Kd.C_drew ?_))); (case side2 => exact HC0_8.out); (case side3 => repeat (first | exact (Kd.C_below HR1_4.out HB.out) | (with_reducible refine Kd.C_alloc ?_ _) | (with_reducible refine Kd.C_drewN ?_ _) | (with_reducible refine Kd.C_drew ?_))); (case side4 => exact HC1_4.out); rintro e w18 ⟨rfl, hb⟩; have n0_ := Aside0.mk (blk_below (g := gb121) (o := .cells #[.string a0_0, .int .i64 a0_1, .int .i64 a0_2, .int .i64 a0_3, .int .i64 a0_4, .int .i64 a0_5, .int .i64 a0_6, .int .i64 a0_7, .slice A0_8 l0_8.length c0_8] 28 (0, 0)) (by (with_reducible repeat (first | refine blk_drewN ?_ _ | refine blk_drew ?_ | refine blk_alloc ?_ _)); exact BK121.out) hb); have n1_ := Aside0.mk (blk_below (g := gb122) (o := .cells #[.int .i64 a1_0, .bool a1_1, .int .i64 a1_2, .int .i64 a1_3, .slice A1_4 l1_4.length c1_4] 31 (0, 0)) (by (with_reducible repeat (first | refine blk_drewN ?_ _ | refine blk_drew ?_ | refine blk_alloc ?_ _)); exact BK122.out) hb); have n2_ := Aside0.mk (below_step (by repeat (first | (with_reducible first | exact HB.out | apply below_alloc | apply pw_below_drewN | apply below_drew1 | refine below_set ?_ GE121.out | refine below_set ?_ GE122.out) | exact HB.out)) hb); clear BK121; clear BK122; clear HB; have BK121 := n0_; have BK122 := n1_; have HB := n2_; clear n0_ n1_ n2_; (try clear hb); (try clear hb2); (try clear hk); (try clear hi))); try go_wp2_with (first | ((with_reducible refine gate_dst (N := 2) rfl ?_); refine box_event ?hg (N := 2) ?hd (cs := #[.string a0_0, .int .i64 a0_1, .int .i64 a0_2, .int .i64 a0_3, .int .i64 a0_4, .int .i64 a0_5, .int .i64 a0_6, .int .i64 a0_7, .slice A0_8 l0_8.length c0_8]) (t := 28) ?hr ?_; (case hd => rfl); (case hg => rfl); (case hr => first | (go_simp; done) | (go_simp; rfl)); intro gb121 hg w9 hbox hb; have n0_ := Aside0.mk (below_step (by repeat (first | (with_reducible first | exact HB.out | apply below_alloc | apply pw_below_drewN | apply below_drew1) | exact HB.out)) hb); have n1_ := Aside0.mk (hbox); have n2_ := Aside0.mk ((by rw [hg]; exact (below_size (by repeat (first | (with_reducible first | exact HB.out | apply below_alloc | apply pw_below_drewN | apply below_drew1) | exact HB.out))) : w.heap.size ≤ gb121)); have n3_ := Aside0.mk ((by rw [hg]; exact (below_size (by repeat (first | (with_reducible first | exact HB.out | apply below_alloc | apply pw_below_drewN | apply below_drew1) | exact HB.out))) : w.heap.size ≤ gb121)); clear HB; have HB := n0_; have BK121 := n1_; have GW121 := n2_; have GE121 := n3_; clear n0_ n1_ n2_ n3_; clear hb hbox hg) | ((with_reducible refine gate_dst (N := 3) rfl ?_); refine box_event ?hg (N := 3) ?hd (cs := #[.int .i64 a1_0, .bool a1_1, .int .i64 a1_2, .int .i64 a1_3, .slice A1_4 l1_4.length c1_4]) (t := 31) ?hr ?_; (case hd => rfl); (case hg => rfl); (case hr => first | (go_simp; done) | (go_simp; rfl)); intro gb122 hg w10 hbox hb; have n0_ := Aside0.mk (blk_below (g := gb121) (o := .cells #[.string a0_0, .int .i64 a0_1, .int .i64 a0_2, .int .i64 a0_3, .int .i64 a0_4, .int .i64 a0_5, .int .i64 a0_6, .int .i64 a0_7, .slice A0_8 l0_8.length c0_8] 28 (0, 0)) (by (with_reducible repeat (first | refine blk_drewN ?_ _ | refine blk_drew ?_ | refine blk_alloc ?_ _)); exact BK121.out) hb); have n1_ := Aside0.mk (below_step (by repeat (first | (with_reducible first | exact HB.out | apply below_alloc | apply pw_below_drewN | apply below_drew1 | refine below_set ?_ GE121.out) | exact HB.out)) hb); have n2_ := Aside0.mk (hbox); have n3_ := Aside0.mk ((by rw [hg]; exact (below_size (by repeat (first | (with_reducible first | exact HB.out | apply below_alloc | apply pw_below_drewN | apply below_drew1 | refine below_set ?_ GE121.out) | exact HB.out))) : w.heap.size ≤ gb122)); have n4_ := Aside0.mk ((by rw [hg]; exact (below_size (by repeat (first | (with_reducible first | exact HB.out | apply below_alloc | apply pw_below_drewN | apply below_drew1 | refine below_set ?_ GE121.out) | exact HB.out))) : w.heap.size ≤ gb122)); have n5_ := Aside0.mk ((by rw [hg]; exact Nat.ne_of_lt (blk_lt (g := gb121) (o := .cells #[.string a0_0, .int .i64 a0_1, .int .i64 a0_2, .int .i64 a0_3, .int .i64 a0_4, .int .i64 a0_5, .int .i64 a0_6, .int .i64 a0_7, .slice A0_8 l0_8.length c0_8] 28 (0, 0)) (by (with_reducible repeat (first | refine blk_drewN ?_ _ | refine blk_drew ?_ | refine blk_alloc ?_ _)); exact BK121.out)) : gb121 ≠ gb122)); have n6_ := Aside0.mk ((by rw [hg]; exact Nat.ne_of_gt (blk_lt (g := gb121) (o := .cells #[.string a0_0, .int .i64 a0_1, .int .i64 a0_2, .int .i64 a0_3, .int .i64 a0_4, .int .i64 a0_5, .int .i64 a0_6, .int .i64 a0_7, .slice A0_8 l0_8.length c0_8] 28 (0, 0)) (by (with_reducible repeat (first | refine blk_drewN ?_ _ | refine blk_drew ?_ | refine blk_alloc ?_ _)); exact BK121.out)) : gb122 ≠ gb121)); clear BK121; clear HB; have BK121 := n0_; have HB := n1_; have BK122 := n2_; have GW122 := n3_; have GE122 := n4_; have NB121_122 := n5_; have NB122_121 := n6_; clear n0_ n1_ n2_ n3_ n4_ n5_ n6_; clear hb hbox hg; have hnb11 := NB121_122.out; have hnc11 := NB122_121.out; have hcz12_0 : w10.cell? ⟨gb121, 0, none⟩ = some (.string a0_0) := (blk_cell BK121.out 0).trans rfl; have hcz12_1 : w10.cell? ⟨gb121, 1, none⟩ = some (.int .i64 a0_1) := (blk_cell BK121.out 1).trans rfl; have hcz12_2 : w10.cell? ⟨gb121, 2, none⟩ = some (.int .i64 a0_2) := (blk_cell BK121.out 2).trans rfl; have hcz12_3 : w10.cell? ⟨gb121, 3, none⟩ = some (.int .i64 a0_3) := (blk_cell BK121.out 3).trans rfl; have hcz12_4 : w10.cell? ⟨gb121, 4, none⟩ = some (.int .i64 a0_4) := (blk_cell BK121.out 4).trans rfl; have hcz12_5 : w10.cell? ⟨gb121, 5, none⟩ = some (.int .i64 a0_5) := (blk_cell BK121.out 5).trans rfl; have hcz12_6 : w10.cell? ⟨gb121, 6, none⟩ = some (.int .i64 a0_6) := (blk_cell BK121.out 6).trans rfl; have hcz12_7 : w10.cell? ⟨gb121, 7, none⟩ = some (.int .i64 a0_7) := (blk_cell BK121.out 7).trans rfl; have hcz12_8 : w10.cell? ⟨gb121, 8, none⟩ = some (.slice A0_8 l0_8.length c0_8) := (blk_cell BK121.out 8).trans rfl; have hfz12_0 := blk_frozen BK121.out 0; have hfz12_1 := blk_frozen BK121.out 1; have hfz12_2 := blk_frozen BK121.out 2; have hfz12_3 := blk_frozen BK121.out 3; have hfz12_4 := blk_frozen BK121.out 4; have hfz12_5 := blk_frozen BK121.out 5; have hfz12_6 := blk_frozen BK121.out 6; have hfz12_7 := blk_frozen BK121.out 7; have hfz12_8 := blk_frozen BK121.out 8) | (go_at_call 45; (with_reducible refine (ZA.metrolabref18_Check.calls k a0_0 a0_1 a0_2 a0_3 a0_4 a0_5 a0_6 a0_7 _ _ l0_8 t123 _ ?side1 ?side2 A3.out).mono ?_); (case side1 => repeat (first | exact (Kd.C_below HR0_8.out HB.out) | (with_reducible refine Kd.C_alloc ?_ _) | (with_reducible refine Kd.C_drewN ?_ _) | (with_reducible refine Kd.C_drew ?_))); (case side2 => exact HC0_8.out); rintro e w13 ⟨rfl, hb⟩; have n0_ := Aside0.mk (blk_below (g := gb121) (o := .cells #[.string a0_0, .int .i64 a0_1, .int .i64 a0_2, .int .i64 a0_3, .int .i64 a0_4, .int .i64 a0_5, .int .i64 a0_6, .int .i64 a0_7, .slice A0_8 l0_8.length c0_8] 28 (0, 0)) (by (with_reducible repeat (first | refine blk_drewN ?_ _ | refine blk_drew ?_ | refine blk_alloc ?_ _)); exact BK121.out) hb); have n1_ := Aside0.mk (blk_below (g := gb122) (o := .cells #[.int .i64 a1_0, .bool a1_1, .int .i64 a1_2, .int .i64 a1_3, .slice A1_4 l1_4.length c1_4] 31 (0, 0)) (by (with_reducible repeat (first | refine blk_drewN ?_ _ | refine blk_drew ?_ | refine blk_alloc ?_ _)); exact BK122.out) hb); have n2_ := Aside0.mk (below_step (by repeat (first | (with_reducible first | exact HB.out | apply below_alloc | apply pw_below_drewN | apply below_drew1 | refine below_set ?_ GE121.out | refine below_set ?_ GE122.out) | exact HB.out)) hb); clear BK121; clear BK122; clear HB; have BK121 := n0_; have BK122 := n1_; have HB := n2_; clear n0_ n1_ n2_; (try clear hb); (try clear hb2); (try clear hk); (try clear hi); have hcz14_0 : w13.cell? ⟨gb122, 0, none⟩ = some (.int .i64 a1_0) := (blk_cell BK122.out 0).trans rfl; have hcz14_1 : w13.cell? ⟨gb122, 1, none⟩ = some (.bool a1_1) := (blk_cell BK122.out 1).trans rfl; have hcz14_2 : w13.cell? ⟨gb122, 2, none⟩ = some (.int .i64 a1_2) := (blk_cell BK122.out 2).trans rfl; have hcz14_3 : w13.cell? ⟨gb122, 3, none⟩ = some (.int .i64 a1_3) := (blk_cell BK122.out 3).trans rfl; have hcz14_4 : w13.cell? ⟨gb122, 4, none⟩ = some (.slice A1_4 l1_4.length c1_4) := (blk_cell BK122.out 4).trans rfl; have hfz14_0 := blk_frozen BK122.out 0; have hfz14_1 := blk_frozen BK122.out 1; have hfz14_2 := blk_frozen BK122.out 2; have hfz14_3 := blk_frozen BK122.out 3; have hfz14_4 := blk_frozen BK122.out 4) | (go_at_call 16; (with_reducible refine (ZA.metrolabref19_Plain.calls k a1_0 a1_1 a1_2 a1_3 _ _ l1_4 t124 _ ?side1 ?side2 A5.out).mono ?_); (case side1 => repeat (first | exact (Kd.C_below HR1_4.out HB.out) | (with_reducible refine Kd.C_alloc ?_ _) | (with_reducible refine Kd.C_drewN ?_ _) | (with_reducible refine Kd.C_drew ?_))); (case side2 => exact HC1_4.out); rintro e w15 ⟨rfl, hb⟩; have n0_ := Aside0.mk (blk_below (g := gb121) (o := .cells #[.string a0_0, .int .i64 a0_1, .int .i64 a0_2, .int .i64 a0_3, .int .i64 a0_4, .int .i64 a0_5, .int .i64 a0_6, .int .i64 a0_7, .slice A0_8 l0_8.length c0_8] 28 (0, 0)) (by (with_reducible repeat (first | refine blk_drewN ?_ _ | refine blk_drew ?_ | refine blk_alloc ?_ _)); exact BK121.out) hb); have n1_ := Aside0.mk (blk_below (g := gb122) (o := .cells #[.int .i64 a1_0, .bool a1_1, .int .i64 a1_2, .int .i64 a1_3, .slice A1_4 l1_4.length c1_4] 31 (0, 0)) (by (with_reducible repeat (first | refine blk_drewN ?_ _ | refine blk_drew ?_ | refine blk_alloc ?_ _)); exact BK122.out) hb); have n2_ := Aside0.mk (below_step (by repeat (first | (with_reducible first | exact HB.out | apply below_alloc | apply pw_below_drewN | apply below_drew1 | refine below_set ?_ GE121.out | refine below_set ?_ GE122.out) | exact HB.out)) hb); clear BK121; clear BK122; clear HB; have BK121 := n0_; have BK122 := n1_; have HB := n2_; clear n0_ n1_ n2_; (try clear hb); (try clear hb2); (try clear hk); (try clear hi); have hcz16_0 : w15.cell? ⟨gb121, 0, none⟩ = some (.string a0_0) := (blk_cell BK121.out 0).trans rfl; have hcz16_1 : w15.cell? ⟨gb121, 1, none⟩ = some (.int .i64 a0_1) := (blk_cell BK121.out 1).trans rfl; have hcz16_2 : w15.cell? ⟨gb121, 2, none⟩ = some (.int .i64 a0_2) := (blk_cell BK121.out 2).trans rfl; have hcz16_3 : w15.cell? ⟨gb121, 3, none⟩ = some (.int .i64 a0_3) := (blk_cell BK121.out 3).trans rfl; have hcz16_4 : w15.cell? ⟨gb121, 4, none⟩ = some (.int .i64 a0_4) := (blk_cell BK121.out 4).trans rfl; have hcz16_5 : w15.cell? ⟨gb121, 5, none⟩ = some (.int .i64 a0_5) := (blk_cell BK121.out 5).trans rfl; have hcz16_6 : w15.cell? ⟨gb121, 6, none⟩ = some (.int .i64 a0_6) := (blk_cell BK121.out 6).trans rfl; have hcz16_7 : w15.cell? ⟨gb121, 7, none⟩ = some (.int .i64 a0_7) := (blk_cell BK121.out 7).trans rfl; have hcz16_8 : w15.cell? ⟨gb121, 8, none⟩ = some (.slice A0_8 l0_8.length c0_8) := (blk_cell BK121.out 8).trans rfl; have hfz16_0 := blk_frozen BK121.out 0; have hfz16_1 := blk_frozen BK121.out 1; have hfz16_2 := blk_frozen BK121.out 2; have hfz16_3 := blk_frozen BK121.out 3; have hfz16_4 := blk_frozen BK121.out 4; have hfz16_5 := blk_frozen BK121.out 5; have hfz16_6 := blk_frozen BK121.out 6; have hfz16_7 := blk_frozen BK121.out 7; have hfz16_8 := blk_frozen BK121.out 8; have hcz17_0 : w15.cell? ⟨gb122, 0, none⟩ = some (.int .i64 a1_0) := (blk_cell BK122.out 0).trans rfl; have hcz17_1 : w15.cell? ⟨gb122, 1, none⟩ = some (.bool a1_1) := (blk_cell BK122.out 1).trans rfl; have hcz17_2 : w15.cell? ⟨gb122, 2, none⟩ = some (.int .i64 a1_2) := (blk_cell BK122.out 2).trans rfl; have hcz17_3 : w15.cell? ⟨gb122, 3, none⟩ = some (.int .i64 a1_3) := (blk_cell BK122.out 3).trans rfl; have hcz17_4 : w15.cell? ⟨gb122, 4, none⟩ = some (.slice A1_4 l1_4.length c1_4) := (blk_cell BK122.out 4).trans rfl; have hfz17_0 := blk_frozen BK122.out 0; have hfz17_1 := blk_frozen BK122.out 1; have hfz17_2 := blk_frozen BK122.out 2; have hfz17_3 := blk_frozen BK122.out 3; have hfz17_4 := blk_frozen BK122.out 4) | (go_at_call 46; (with_reducible refine (ref_permitted.calls a0_0 a0_1 a0_2 a0_3 a0_4 a0_5 a0_6 a0_7 _ _ l0_8 a1_0 a1_1 a1_2 a1_3 _ _ l1_4 t125 _ ?side1 ?side2 ?side3 ?side4 A7.out).mono ?_); (case side1 => repeat (first | exact (Kd.C_below HR0_8.out HB.out) | (with_reducible refine Kd.C_alloc ?_ _) | (with_reducible refine Kd.C_drewN ?_ _) | (with_reducible refine Kd.C_drew ?_))); (case side2 => exact HC0_8.out); (case side3 => repeat (first | exact (Kd.C_below HR1_4.out HB.out) | (with_reducible refine Kd.C_alloc ?_ _) | (with_reducible refine Kd.C_drewN ?_ _) | (with_reducible refine Kd.C_drew ?_))); (case side4 => exact HC1_4.out); rintro e w18 ⟨rfl, hb⟩; have n0_ := Aside0.mk (blk_below (g := gb121) (o := .cells #[.string a0_0, .int .i64 a0_1, .int .i64 a0_2, .int .i64 a0_3, .int .i64 a0_4, .int .i64 a0_5, .int .i64 a0_6, .int .i64 a0_7, .slice A0_8 l0_8.length c0_8] 28 (0, 0)) (by (with_reducible repeat (first | refine blk_drewN ?_ _ | refine blk_drew ?_ | refine blk_alloc ?_ _)); exact BK121.out) hb); have n1_ := Aside0.mk (blk_below (g := gb122) (o := .cells #[.int .i64 a1_0, .bool a1_1, .int .i64 a1_2, .int .i64 a1_3, .slice A1_4 l1_4.length c1_4] 31 (0, 0)) (by (with_reducible repeat (first | refine blk_drewN ?_ _ | refine blk_drew ?_ | refine blk_alloc ?_ _)); exact BK122.out) hb); have n2_ := Aside0.mk (below_step (by repeat (first | (with_reducible first | exact HB.out | apply below_alloc | apply pw_below_drewN | apply below_drew1 | refine below_set ?_ GE121.out | refine below_set ?_ GE122.out) | exact HB.out)) hb); clear BK121; clear BK122; clear HB; have BK121 := n0_; have BK122 := n1_; have HB := n2_; clear n0_ n1_ n2_; (try clear hb); (try clear hb2); (try clear hk); (try clear hi))))
        go_loopg [8] k (fun kq v8 w' => ∃ (x8_1 : Int), v8 = .int .i64 x8_1 ∧ Aside0 (metrolabref19_Check.l0 kq x8_1 a0_0 a0_1 a0_2 a0_3 a0_4 a0_5 a0_6 a0_7 l0_8 a1_0 a1_1 a1_2 a1_3 l1_4 = some r) ∧ Aside0 (kq ≤ k) ∧ Aside0 (w'.heap[gb121]? = some (.cells #[.string a0_0, .int .i64 a0_1, .int .i64 a0_2, .int .i64 a0_3, .int .i64 a0_4, .int .i64 a0_5, .int .i64 a0_6, .int .i64 a0_7, (.slice A0_8 l0_8.length c0_8)] 28 (0, 0))) ∧ Aside0 (w'.heap[gb122]? = some (.cells #[.int .i64 a1_0, .bool a1_1, .int .i64 a1_2, .int .i64 a1_3, (.slice A1_4 l1_4.length c1_4)] 31 (0, 0))) ∧ Aside0 (Below w.heap.size w w'))
        case atStart => exact ⟨(0), (by first | rfl | exact congrArg Value.bool (not_empty _) | exact congrArg Value.bool (is_empty _) | (simp; done) | (simp [*]; done)), H', ⟨Nat.le_refl _⟩, ⟨by (with_reducible repeat (first | refine blk_drewN ?_ _ | refine blk_drew ?_ | refine blk_alloc ?_ _)); exact BK121.out⟩, ⟨by (with_reducible repeat (first | refine blk_drewN ?_ _ | refine blk_drew ?_ | refine blk_alloc ?_ _)); exact BK122.out⟩, ⟨by repeat (first | (with_reducible first | exact HB.out | apply below_alloc | apply pw_below_drewN | apply below_drew1 | refine below_set ?_ GE121.out | refine below_set ?_ GE122.out) | exact HB.out)⟩⟩
        case round =>
          clear H'
          try clear c1
          try clear p2
          try clear c4
          try clear c4b0
          try clear c4b1
          try clear c6
          try clear c6b0
          try clear c6b1
          try clear c8
          try clear c8b0
          try clear c8b1
          try clear c11
          try clear c14
          try clear hcz12_0
          try clear hcz12_1
          try clear hcz12_2
          try clear hcz12_3
          try clear hcz12_4
          try clear hcz12_5
          try clear hcz12_6
          try clear hcz12_7
          try clear hcz12_8
          try clear hcz14_0
          try clear hcz14_1
          try clear hcz14_2
          try clear hcz14_3
          try clear hcz14_4
          try clear hcz16_0
          try clear hcz16_1
          try clear hcz16_2
          try clear hcz16_3
          try clear hcz16_4
          try clear hcz16_5
          try clear hcz16_6
          try clear hcz16_7
          try clear hcz16_8
          try clear hcz17_0
          try clear hcz17_1
          try clear hcz17_2
          try clear hcz17_3
          try clear hcz17_4
          try clear hfz12_0
          try clear hfz12_1
          try clear hfz12_2
          try clear hfz12_3
          try clear hfz12_4
          try clear hfz12_5
          try clear hfz12_6
          try clear hfz12_7
          try clear hfz12_8
          try clear hfz14_0
          try clear hfz14_1
          try clear hfz14_2
          try clear hfz14_3
          try clear hfz14_4
          try clear hfz16_0
          try clear hfz16_1
          try clear hfz16_2
          try clear hfz16_3
          try clear hfz16_4
          try clear hfz16_5
          try clear hfz16_6
          try clear hfz16_7
          try clear hfz16_8
          try clear hfz17_0
          try clear hfz17_1
          try clear hfz17_2
          try clear hfz17_3
          try clear hfz17_4
          obtain ⟨x8_1, rfl, HA, HK1, BK121, BK122, HB⟩ := hrel
          cases gk with
          | zero => exact absurd HA.out (by simp [metrolabref19_Check.l0])
          | succ k1 =>
            have H := HA.out
            clear HA
            simp only [metrolabref19_Check.l0] at H
            by_cases c19 : x8_1 < (l1_4.length : Int)
            · rw [if_pos c19] at H
              have c19b0 : decide (x8_1 < (l1_4.length : Int)) = true := decide_eq_true c19
              clear c19
              by_cases c20 : 0 ≤ x8_1
              · rw [if_pos c20] at H
                have c20b0 : decide (0 ≤ x8_1) = true := decide_eq_true c20
                clear c20
                by_cases c21 : ((rd_T76 l1_4 x8_1).f0).toList = a0_0.toList
                · rw [if_pos c21] at H
                  have c21b0 : (((rd_T76 l1_4 x8_1).f0).toList == a0_0.toList) = true := beq_iff_eq.mpr c21
                  have c21b1 : (((rd_T76 l1_4 x8_1).f0).toList != a0_0.toList) = false := bne_eq_false_iff_eq.mpr c21
                  clear c21
                  obtain rfl := Option.some.inj H
                  have hnb22 := NB122_121.out
                  have hnc22 := NB121_122.out
                  have hcz23_0 : wr.cell? ⟨gb122, 0, none⟩ = some (.int .i64 a1_0) := (blk_cell BK122.out 0).trans rfl
                  have hcz23_1 : wr.cell? ⟨gb122, 1, none⟩ = some (.bool a1_1) := (blk_cell BK122.out 1).trans rfl
                  have hcz23_2 : wr.cell? ⟨gb122, 2, none⟩ = some (.int .i64 a1_2) := (blk_cell BK122.out 2).trans rfl
                  have hcz23_3 : wr.cell? ⟨gb122, 3, none⟩ = some (.int .i64 a1_3) := (blk_cell BK122.out 3).trans rfl
                  have hcz23_4 : wr.cell? ⟨gb122, 4, none⟩ = some (.slice A1_4 l1_4.length c1_4) := (blk_cell BK122.out 4).trans rfl
                  have hfz23_0 := blk_frozen BK122.out 0
                  have hfz23_1 := blk_frozen BK122.out 1
                  have hfz23_2 := blk_frozen BK122.out 2
                  have hfz23_3 := blk_frozen BK122.out 3
                  have hfz23_4 := blk_frozen BK122.out 4
                  have p126 : 0 ≤ (x8_1 : Int) := of_decide_eq_true (by first | (with_reducible assumption) | assumption)
                  have q126 : x8_1 < (l1_4.length : Int) := of_decide_eq_true (by first | (with_reducible assumption) | assumption)
                  obtain ⟨ad126, e126, hx126_0, hx126_1⟩ := at_T76 HR1_4.out x8_1 p126 q126
                  cases e126
                  replace hx126_0 := (HB.out.cell (World.block_lt_of_cell? w _ hx126_0)).trans hx126_0
                  replace hx126_1 := (HB.out.cell (World.block_lt_of_cell? w _ hx126_1)).trans hx126_1
                  replace p126 := eq_true p126
                  replace q126 := eq_true q126
                  have hcz24_0 : wr.cell? ⟨gb121, 0, none⟩ = some (.string a0_0) := (blk_cell BK121.out 0).trans rfl
                  have hcz24_1 : wr.cell? ⟨gb121, 1, none⟩ = some (.int .i64 a0_1) := (blk_cell BK121.out 1).trans rfl
                  have hcz24_2 : wr.cell? ⟨gb121, 2, none⟩ = some (.int .i64 a0_2) := (blk_cell BK121.out 2).trans rfl
                  have hcz24_3 : wr.cell? ⟨gb121, 3, none⟩ = some (.int .i64 a0_3) := (blk_cell BK121.out 3).trans rfl
                  have hcz24_4 : wr.cell? ⟨gb121, 4, none⟩ = some (.int .i64 a0_4) := (blk_cell BK121.out 4).trans rfl
                  have hcz24_5 : wr.cell? ⟨gb121, 5, none⟩ = some (.int .i64 a0_5) := (blk_cell BK121.out 5).trans rfl
                  have hcz24_6 : wr.cell? ⟨gb121, 6, none⟩ = some (.int .i64 a0_6) := (blk_cell BK121.out 6).trans rfl
                  have hcz24_7 : wr.cell? ⟨gb121, 7, none⟩ = some (.int .i64 a0_7) := (blk_cell BK121.out 7).trans rfl
                  have hcz24_8 : wr.cell? ⟨gb121, 8, none⟩ = some (.slice A0_8 l0_8.length c0_8) := (blk_cell BK121.out 8).trans rfl
                  have hfz24_0 := blk_frozen BK121.out 0
                  have hfz24_1 := blk_frozen BK121.out 1
                  have hfz24_2 := blk_frozen BK121.out 2
                  have hfz24_3 := blk_frozen BK121.out 3
                  have hfz24_4 := blk_frozen BK121.out 4
                  have hfz24_5 := blk_frozen BK121.out 5
                  have hfz24_6 := blk_frozen BK121.out 6
                  have hfz24_7 := blk_frozen BK121.out 7
                  have hfz24_8 := blk_frozen BK121.out 8
                  go_wp2
                  repeat (go_quiet (fail); try go_wp2)
                  go_ret
                  exact ⟨by first | rfl | (simp [errW_none, errW_some] <;> rfl) | (simp [*, errW_none, errW_some] <;> rfl), by repeat (first | (with_reducible first | exact HB.out | apply below_alloc | apply pw_below_drewN | apply below_drew1 | refine below_set ?_ GE121.out | refine below_set ?_ GE122.out) | exact HB.out)⟩
                · rw [if_neg c21] at H
                  have c21b0 : (((rd_T76 l1_4 x8_1).f0).toList == a0_0.toList) = false := beq_eq_false_iff_ne.mpr c21
                  have c21b1 : (((rd_T76 l1_4 x8_1).f0).toList != a0_0.toList) = true := bne_iff_ne.mpr c21
                  have H' := Aside0.mk H
                  clear H
                  have hnb25 := NB122_121.out
                  have hnc25 := NB121_122.out
                  have hcz26_0 : wr.cell? ⟨gb122, 0, none⟩ = some (.int .i64 a1_0) := (blk_cell BK122.out 0).trans rfl
                  have hcz26_1 : wr.cell? ⟨gb122, 1, none⟩ = some (.bool a1_1) := (blk_cell BK122.out 1).trans rfl
                  have hcz26_2 : wr.cell? ⟨gb122, 2, none⟩ = some (.int .i64 a1_2) := (blk_cell BK122.out 2).trans rfl
                  have hcz26_3 : wr.cell? ⟨gb122, 3, none⟩ = some (.int .i64 a1_3) := (blk_cell BK122.out 3).trans rfl
                  have hcz26_4 : wr.cell? ⟨gb122, 4, none⟩ = some (.slice A1_4 l1_4.length c1_4) := (blk_cell BK122.out 4).trans rfl
                  have hfz26_0 := blk_frozen BK122.out 0
                  have hfz26_1 := blk_frozen BK122.out 1
                  have hfz26_2 := blk_frozen BK122.out 2
                  have hfz26_3 := blk_frozen BK122.out 3
                  have hfz26_4 := blk_frozen BK122.out 4
                  have p126 : 0 ≤ (x8_1 : Int) := of_decide_eq_true (by first | (with_reducible assumption) | assumption)
                  have q126 : x8_1 < (l1_4.length : Int) := of_decide_eq_true (by first | (with_reducible assumption) | assumption)
                  obtain ⟨ad126, e126, hx126_0, hx126_1⟩ := at_T76 HR1_4.out x8_1 p126 q126
                  cases e126
                  replace hx126_0 := (HB.out.cell (World.block_lt_of_cell? w _ hx126_0)).trans hx126_0
                  replace hx126_1 := (HB.out.cell (World.block_lt_of_cell? w _ hx126_1)).trans hx126_1
                  replace p126 := eq_true p126
                  replace q126 := eq_true q126
                  have hcz27_0 : wr.cell? ⟨gb121, 0, none⟩ = some (.string a0_0) := (blk_cell BK121.out 0).trans rfl
                  have hcz27_1 : wr.cell? ⟨gb121, 1, none⟩ = some (.int .i64 a0_1) := (blk_cell BK121.out 1).trans rfl
                  have hcz27_2 : wr.cell? ⟨gb121, 2, none⟩ = some (.int .i64 a0_2) := (blk_cell BK121.out 2).trans rfl
                  have hcz27_3 : wr.cell? ⟨gb121, 3, none⟩ = some (.int .i64 a0_3) := (blk_cell BK121.out 3).trans rfl
                  have hcz27_4 : wr.cell? ⟨gb121, 4, none⟩ = some (.int .i64 a0_4) := (blk_cell BK121.out 4).trans rfl
                  have hcz27_5 : wr.cell? ⟨gb121, 5, none⟩ = some (.int .i64 a0_5) := (blk_cell BK121.out 5).trans rfl
                  have hcz27_6 : wr.cell? ⟨gb121, 6, none⟩ = some (.int .i64 a0_6) := (blk_cell BK121.out 6).trans rfl
                  have hcz27_7 : wr.cell? ⟨gb121, 7, none⟩ = some (.int .i64 a0_7) := (blk_cell BK121.out 7).trans rfl
                  have hcz27_8 : wr.cell? ⟨gb121, 8, none⟩ = some (.slice A0_8 l0_8.length c0_8) := (blk_cell BK121.out 8).trans rfl
                  have hfz27_0 := blk_frozen BK121.out 0
                  have hfz27_1 := blk_frozen BK121.out 1
                  have hfz27_2 := blk_frozen BK121.out 2
                  have hfz27_3 := blk_frozen BK121.out 3
                  have hfz27_4 := blk_frozen BK121.out 4
                  have hfz27_5 := blk_frozen BK121.out 5
                  have hfz27_6 := blk_frozen BK121.out 6
                  have hfz27_7 := blk_frozen BK121.out 7
                  have hfz27_8 := blk_frozen BK121.out 8
                  go_wp2
                  repeat (go_quiet (fail); try go_wp2)
                  go_roundg k1
                  case measure => have := HK1.out; omega
                  case rel => exact ⟨(wrap64 (x8_1 + 1)), (by first | rfl | exact congrArg Value.bool (not_empty _) | exact congrArg Value.bool (is_empty _) | (simp; done) | (simp [*]; done)), H', ⟨by have := HK1.out; omega⟩, ⟨by (with_reducible repeat (first | refine blk_drewN ?_ _ | refine blk_drew ?_ | refine blk_alloc ?_ _)); exact BK121.out⟩, ⟨by (with_reducible repeat (first | refine blk_drewN ?_ _ | refine blk_drew ?_ | refine blk_alloc ?_ _)); exact BK122.out⟩, ⟨by repeat (first | (with_reducible first | exact HB.out | apply below_alloc | apply pw_below_drewN | apply below_drew1 | refine below_set ?_ GE121.out | refine below_set ?_ GE122.out) | exact HB.out)⟩⟩
              · rw [if_neg c20] at H
                exact absurd H (by simp)
            · rw [if_neg c19] at H
              have c19b0 : decide (x8_1 < (l1_4.length : Int)) = false := decide_eq_false c19
              clear c19
              obtain rfl := Option.some.inj H
              have hnb28 := NB122_121.out
              have hnc28 := NB121_122.out
              have hcz29_0 : wr.cell? ⟨gb122, 0, none⟩ = some (.int .i64 a1_0) := (blk_cell BK122.out 0).trans rfl
              have hcz29_1 : wr.cell? ⟨gb122, 1, none⟩ = some (.bool a1_1) := (blk_cell BK122.out 1).trans rfl
              have hcz29_2 : wr.cell? ⟨gb122, 2, none⟩ = some (.int .i64 a1_2) := (blk_cell BK122.out 2).trans rfl
              have hcz29_3 : wr.cell? ⟨gb122, 3, none⟩ = some (.int .i64 a1_3) := (blk_cell BK122.out 3).trans rfl
              have hcz29_4 : wr.cell? ⟨gb122, 4, none⟩ = some (.slice A1_4 l1_4.length c1_4) := (blk_cell BK122.out 4).trans rfl
              have hfz29_0 := blk_frozen BK122.out 0
              have hfz29_1 := blk_frozen BK122.out 1
              have hfz29_2 := blk_frozen BK122.out 2
              have hfz29_3 := blk_frozen BK122.out 3
              have hfz29_4 := blk_frozen BK122.out 4
              go_wp2
              repeat (go_quiet (fail); try go_wp2)
              go_ret
              exact ⟨by first | rfl | (simp [errW_none, errW_some] <;> rfl) | (simp [*, errW_none, errW_some] <;> rfl), by repeat (first | (with_reducible first | exact HB.out | apply below_alloc | apply pw_below_drewN | apply below_drew1 | refine below_set ?_ GE121.out | refine below_set ?_ GE122.out) | exact HB.out)⟩
      · rw [if_neg c8] at H
        have c8b0 : (t125 == 0) = false := beq_eq_false_iff_ne.mpr c8
        have c8b1 : (t125 != 0) = true := bne_iff_ne.mpr c8
        obtain rfl := Option.some.inj H
        go_enter Tryz.func14, Tryz.ntmps14
        go_wp2_with (first | ((with_reducible refine gate_dst (N := 2) rfl ?_); refine box_event ?hg (N := 2) ?hd (cs := #[.string a0_0, .int .i64 a0_1, .int .i64 a0_2, .int .i64 a0_3, .int .i64 a0_4, .int .i64 a0_5, .int .i64 a0_6, .int .i64 a0_7, .slice A0_8 l0_8.length c0_8]) (t := 28) ?hr ?_; (case hd => rfl); (case hg => rfl); (case hr => first | (go_simp; done) | (go_simp; rfl)); intro gb121 hg w30 hbox hb; have n0_ := Aside0.mk (below_step (by repeat (first | (with_reducible first | exact HB.out | apply below_alloc | apply pw_below_drewN | apply below_drew1) | exact HB.out)) hb); have n1_ := Aside0.mk (hbox); have n2_ := Aside0.mk ((by rw [hg]; exact (below_size (by repeat (first | (with_reducible first | exact HB.out | apply below_alloc | apply pw_below_drewN | apply below_drew1) | exact HB.out))) : w.heap.size ≤ gb121)); have n3_ := Aside0.mk ((by rw [hg]; exact (below_size (by repeat (first | (with_reducible first | exact HB.out | apply below_alloc | apply pw_below_drewN | apply below_drew1) | exact HB.out))) : w.heap.size ≤ gb121)); clear HB; have HB := n0_; have BK121 := n1_; have GW121 := n2_; have GE121 := n3_; clear n0_ n1_ n2_ n3_; clear hb hbox hg) | ((with_reducible refine gate_dst (N := 3) rfl ?_); refine box_event ?hg (N := 3) ?hd (cs := #[.int .i64 a1_0, .bool a1_1, .int .i64 a1_2, .int .i64 a1_3, .slice A1_4 l1_4.length c1_4]) (t := 31) ?hr ?_; (case hd => rfl); (case hg => rfl); (case hr => first | (go_simp; done) | (go_simp; rfl)); intro gb122 hg w31 hbox hb; have n0_ := Aside0.mk (blk_below (g := gb121) (o := .cells #[.string a0_0, .int .i64 a0_1, .int .i64 a0_2, .int .i64 a0_3, .int .i64 a0_4, .int .i64 a0_5, .int .i64 a0_6, .int .i64 a0_7, .slice A0_8 l0_8.length c0_8] 28 (0, 0)) (by (with_reducible repeat (first | refine blk_drewN ?_ _ | refine blk_drew ?_ | refine blk_alloc ?_ _)); exact BK121.out) hb); have n1_ := Aside0.mk (below_step (by repeat (first | (with_reducible first | exact HB.out | apply below_alloc | apply pw_below_drewN | apply below_drew1 | refine below_set ?_ GE121.out) | exact HB.out)) hb); have n2_ := Aside0.mk (hbox); have n3_ := Aside0.mk ((by rw [hg]; exact (below_size (by repeat (first | (with_reducible first | exact HB.out | apply below_alloc | apply pw_below_drewN | apply below_drew1 | refine below_set ?_ GE121.out) | exact HB.out))) : w.heap.size ≤ gb122)); have n4_ := Aside0.mk ((by rw [hg]; exact (below_size (by repeat (first | (with_reducible first | exact HB.out | apply below_alloc | apply pw_below_drewN | apply below_drew1 | refine below_set ?_ GE121.out) | exact HB.out))) : w.heap.size ≤ gb122)); have n5_ := Aside0.mk ((by rw [hg]; exact Nat.ne_of_lt (blk_lt (g := gb121) (o := .cells #[.string a0_0, .int .i64 a0_1, .int .i64 a0_2, .int .i64 a0_3, .int .i64 a0_4, .int .i64 a0_5, .int .i64 a0_6, .int .i64 a0_7, .slice A0_8 l0_8.length c0_8] 28 (0, 0)) (by (with_reducible repeat (first | refine blk_drewN ?_ _ | refine blk_drew ?_ | refine blk_alloc ?_ _)); exact BK121.out)) : gb121 ≠ gb122)); have n6_ := Aside0.mk ((by rw [hg]; exact Nat.ne_of_gt (blk_lt (g := gb121) (o := .cells #[.string a0_0, .int .i64 a0_1, .int .i64 a0_2, .int .i64 a0_3, .int .i64 a0_4, .int .i64 a0_5, .int .i64 a0_6, .int .i64 a0_7, .slice A0_8 l0_8.length c0_8] 28 (0, 0)) (by (with_reducible repeat (first | refine blk_drewN ?_ _ | refine blk_drew ?_ | refine blk_alloc ?_ _)); exact BK121.out)) : gb122 ≠ gb121)); clear BK121; clear HB; have BK121 := n0_; have HB := n1_; have BK122 := n2_; have GW122 := n3_; have GE122 := n4_; have NB121_122 := n5_; have NB122_121 := n6_; clear n0_ n1_ n2_ n3_ n4_ n5_ n6_; clear hb hbox hg; have hnb32 := NB121_122.out; have hnc32 := NB122_121.out; have hcz33_0 : w31.cell? ⟨gb121, 0, none⟩ = some (.string a0_0) := (blk_cell BK121.out 0).trans rfl; have hcz33_1 : w31.cell? ⟨gb121, 1, none⟩ = some (.int .i64 a0_1) := (blk_cell BK121.out 1).trans rfl; have hcz33_2 : w31.cell? ⟨gb121, 2, none⟩ = some (.int .i64 a0_2) := (blk_cell BK121.out 2).trans rfl; have hcz33_3 : w31.cell? ⟨gb121, 3, none⟩ = some (.int .i64 a0_3) := (blk_cell BK121.out 3).trans rfl; have hcz33_4 : w31.cell? ⟨gb121, 4, none⟩ = some (.int .i64 a0_4) := (blk_cell BK121.out 4).trans rfl; have hcz33_5 : w31.cell? ⟨gb121, 5, none⟩ = some (.int .i64 a0_5) := (blk_cell BK121.out 5).trans rfl; have hcz33_6 : w31.cell? ⟨gb121, 6, none⟩ = some (.int .i64 a0_6) := (blk_cell BK121.out 6).trans rfl; have hcz33_7 : w31.cell? ⟨gb121, 7, none⟩ = some (.int .i64 a0_7) := (blk_cell BK121.out 7).trans rfl; have hcz33_8 : w31.cell? ⟨gb121, 8, none⟩ = some (.slice A0_8 l0_8.length c0_8) := (blk_cell BK121.out 8).trans rfl; have hfz33_0 := blk_frozen BK121.out 0; have hfz33_1 := blk_frozen BK121.out 1; have hfz33_2 := blk_frozen BK121.out 2; have hfz33_3 := blk_frozen BK121.out 3; have hfz33_4 := blk_frozen BK121.out 4; have hfz33_5 := blk_frozen BK121.out 5; have hfz33_6 := blk_frozen BK121.out 6; have hfz33_7 := blk_frozen BK121.out 7; have hfz33_8 := blk_frozen BK121.out 8) | (go_at_call 45; (with_reducible refine (ZA.metrolabref18_Check.calls k a0_0 a0_1 a0_2 a0_3 a0_4 a0_5 a0_6 a0_7 _ _ l0_8 t123 _ ?side1 ?side2 A3.out).mono ?_); (case side1 => repeat (first | exact (Kd.C_below HR0_8.out HB.out) | (with_reducible refine Kd.C_alloc ?_ _) | (with_reducible refine Kd.C_drewN ?_ _) | (with_reducible refine Kd.C_drew ?_))); (case side2 => exact HC0_8.out); rintro e w34 ⟨rfl, hb⟩; have n0_ := Aside0.mk (blk_below (g := gb121) (o := .cells #[.string a0_0, .int .i64 a0_1, .int .i64 a0_2, .int .i64 a0_3, .int .i64 a0_4, .int .i64 a0_5, .int .i64 a0_6, .int .i64 a0_7, .slice A0_8 l0_8.length c0_8] 28 (0, 0)) (by (with_reducible repeat (first | refine blk_drewN ?_ _ | refine blk_drew ?_ | refine blk_alloc ?_ _)); exact BK121.out) hb); have n1_ := Aside0.mk (blk_below (g := gb122) (o := .cells #[.int .i64 a1_0, .bool a1_1, .int .i64 a1_2, .int .i64 a1_3, .slice A1_4 l1_4.length c1_4] 31 (0, 0)) (by (with_reducible repeat (first | refine blk_drewN ?_ _ | refine blk_drew ?_ | refine blk_alloc ?_ _)); exact BK122.out) hb); have n2_ := Aside0.mk (below_step (by repeat (first | (with_reducible first | exact HB.out | apply below_alloc | apply pw_below_drewN | apply below_drew1 | refine below_set ?_ GE121.out | refine below_set ?_ GE122.out) | exact HB.out)) hb); clear BK121; clear BK122; clear HB; have BK121 := n0_; have BK122 := n1_; have HB := n2_; clear n0_ n1_ n2_; (try clear hb); (try clear hb2); (try clear hk); (try clear hi); have hcz35_0 : w34.cell? ⟨gb122, 0, none⟩ = some (.int .i64 a1_0) := (blk_cell BK122.out 0).trans rfl; have hcz35_1 : w34.cell? ⟨gb122, 1, none⟩ = some (.bool a1_1) := (blk_cell BK122.out 1).trans rfl; have hcz35_2 : w34.cell? ⟨gb122, 2, none⟩ = some (.int .i64 a1_2) := (blk_cell BK122.out 2).trans rfl; have hcz35_3 : w34.cell? ⟨gb122, 3, none⟩ = some (.int .i64 a1_3) := (blk_cell BK122.out 3).trans rfl; have hcz35_4 : w34.cell? ⟨gb122, 4, none⟩ = some (.slice A1_4 l1_4.length c1_4) := (blk_cell BK122.out 4).trans rfl; have hfz35_0 := blk_frozen BK122.out 0; have hfz35_1 := blk_frozen BK122.out 1; have hfz35_2 := blk_frozen BK122.out 2; have hfz35_3 := blk_frozen BK122.out 3; have hfz35_4 := blk_frozen BK122.out 4) | (go_at_call 16; (with_reducible refine (ZA.metrolabref19_Plain.calls k a1_0 a1_1 a1_2 a1_3 _ _ l1_4 t124 _ ?side1 ?side2 A5.out).mono ?_); (case side1 => repeat (first | exact (Kd.C_below HR1_4.out HB.out) | (with_reducible refine Kd.C_alloc ?_ _) | (with_reducible refine Kd.C_drewN ?_ _) | (with_reducible refine Kd.C_drew ?_))); (case side2 => exact HC1_4.out); rintro e w36 ⟨rfl, hb⟩; have n0_ := Aside0.mk (blk_below (g := gb121) (o := .cells #[.string a0_0, .int .i64 a0_1, .int .i64 a0_2, .int .i64 a0_3, .int .i64 a0_4, .int .i64 a0_5, .int .i64 a0_6, .int .i64 a0_7, .slice A0_8 l0_8.length c0_8] 28 (0, 0)) (by (with_reducible repeat (first | refine blk_drewN ?_ _ | refine blk_drew ?_ | refine blk_alloc ?_ _)); exact BK121.out) hb); have n1_ := Aside0.mk (blk_below (g := gb122) (o := .cells #[.int .i64 a1_0, .bool a1_1, .int .i64 a1_2, .int .i64 a1_3, .slice A1_4 l1_4.length c1_4] 31 (0, 0)) (by (with_reducible repeat (first | refine blk_drewN ?_ _ | refine blk_drew ?_ | refine blk_alloc ?_ _)); exact BK122.out) hb); have n2_ := Aside0.mk (below_step (by repeat (first | (with_reducible first | exact HB.out | apply below_alloc | apply pw_below_drewN | apply below_drew1 | refine below_set ?_ GE121.out | refine below_set ?_ GE122.out) | exact HB.out)) hb); clear BK121; clear BK122; clear HB; have BK121 := n0_; have BK122 := n1_; have HB := n2_; clear n0_ n1_ n2_; (try clear hb); (try clear hb2); (try clear hk); (try clear hi); have hcz37_0 : w36.cell? ⟨gb121, 0, none⟩ = some (.string a0_0) := (blk_cell BK121.out 0).trans rfl; have hcz37_1 : w36.cell? ⟨gb121, 1, none⟩ = some (.int .i64 a0_1) := (blk_cell BK121.out 1).trans rfl; have hcz37_2 : w36.cell? ⟨gb121, 2, none⟩ = some (.int .i64 a0_2) := (blk_cell BK121.out 2).trans rfl; have hcz37_3 : w36.cell? ⟨gb121, 3, none⟩ = some (.int .i64 a0_3) := (blk_cell BK121.out 3).trans rfl; have hcz37_4 : w36.cell? ⟨gb121, 4, none⟩ = some (.int .i64 a0_4) := (blk_cell BK121.out 4).trans rfl; have hcz37_5 : w36.cell? ⟨gb121, 5, none⟩ = some (.int .i64 a0_5) := (blk_cell BK121.out 5).trans rfl; have hcz37_6 : w36.cell? ⟨gb121, 6, none⟩ = some (.int .i64 a0_6) := (blk_cell BK121.out 6).trans rfl; have hcz37_7 : w36.cell? ⟨gb121, 7, none⟩ = some (.int .i64 a0_7) := (blk_cell BK121.out 7).trans rfl; have hcz37_8 : w36.cell? ⟨gb121, 8, none⟩ = some (.slice A0_8 l0_8.length c0_8) := (blk_cell BK121.out 8).trans rfl; have hfz37_0 := blk_frozen BK121.out 0; have hfz37_1 := blk_frozen BK121.out 1; have hfz37_2 := blk_frozen BK121.out 2; have hfz37_3 := blk_frozen BK121.out 3; have hfz37_4 := blk_frozen BK121.out 4; have hfz37_5 := blk_frozen BK121.out 5; have hfz37_6 := blk_frozen BK121.out 6; have hfz37_7 := blk_frozen BK121.out 7; have hfz37_8 := blk_frozen BK121.out 8; have hcz38_0 : w36.cell? ⟨gb122, 0, none⟩ = some (.int .i64 a1_0) := (blk_cell BK122.out 0).trans rfl; have hcz38_1 : w36.cell? ⟨gb122, 1, none⟩ = some (.bool a1_1) := (blk_cell BK122.out 1).trans rfl; have hcz38_2 : w36.cell? ⟨gb122, 2, none⟩ = some (.int .i64 a1_2) := (blk_cell BK122.out 2).trans rfl; have hcz38_3 : w36.cell? ⟨gb122, 3, none⟩ = some (.int .i64 a1_3) := (blk_cell BK122.out 3).trans rfl; have hcz38_4 : w36.cell? ⟨gb122, 4, none⟩ = some (.slice A1_4 l1_4.length c1_4) := (blk_cell BK122.out 4).trans rfl; have hfz38_0 := blk_frozen BK122.out 0; have hfz38_1 := blk_frozen BK122.out 1; have hfz38_2 := blk_frozen BK122.out 2; have hfz38_3 := blk_frozen BK122.out 3; have hfz38_4 := blk_frozen BK122.out 4) | (go_at_call 46; (with_reducible refine (ref_permitted.calls a0_0 a0_1 a0_2 a0_3 a0_4 a0_5 a0_6 a0_7 _ _ l0_8 a1_0 a1_1 a1_2 a1_3 _ _ l1_4 t125 _ ?side1 ?side2 ?side3 ?side4 A7.out).mono ?_); (case side1 => repeat (first | exact (Kd.C_below HR0_8.out HB.out) | (with_reducible refine Kd.C_alloc ?_ _) | (with_reducible refine Kd.C_drewN ?_ _) | (with_reducible refine Kd.C_drew ?_))); (case side2 => exact HC0_8.out); (case side3 => repeat (first | exact (Kd.C_below HR1_4.out HB.out) | (with_reducible refine Kd.C_alloc ?_ _) | (with_reducible refine Kd.C_drewN ?_ _) | (with_reducible refine Kd.C_drew ?_))); (case side4 => exact HC1_4.out); rintro e w39 ⟨rfl, hb⟩; have n0_ := Aside0.mk (blk_below (g := gb121) (o := .cells #[.string a0_0, .int .i64 a0_1, .int .i64 a0_2, .int .i64 a0_3, .int .i64 a0_4, .int .i64 a0_5, .int .i64 a0_6, .int .i64 a0_7, .slice A0_8 l0_8.length c0_8] 28 (0, 0)) (by (with_reducible repeat (first | refine blk_drewN ?_ _ | refine blk_drew ?_ | refine blk_alloc ?_ _)); exact BK121.out) hb); have n1_ := Aside0.mk (blk_below (g := gb122) (o := .cells #[.int .i64 a1_0, .bool a1_1, .int .i64 a1_2, .int .i64 a1_3, .slice A1_4 l1_4.length c1_4] 31 (0, 0)) (by (with_reducible repeat (first | refine blk_drewN ?_ _ | refine blk_drew ?_ | refine blk_alloc ?_ _)); exact BK122.out) hb); have n2_ := Aside0.mk (below_step (by repeat (first | (with_reducible first | exact HB.out | apply below_alloc | apply pw_below_drewN | apply below_drew1 | refine below_set ?_ GE121.out | refine below_set ?_ GE122.out) | exact HB.out)) hb); clear BK121; clear BK122; clear HB; have BK121 := n0_; have BK122 := n1_; have HB := n2_; clear n0_ n1_ n2_; (try clear hb); (try clear hb2); (try clear hk); (try clear hi)))
        repeat (go_quiet (first | ((with_reducible refine gate_dst (N := 2) rfl ?_); refine box_event ?hg (N := 2) ?hd (cs := #[.string a0_0, .int .i64 a0_1, .int .i64 a0_2, .int .i64 a0_3, .int .i64 a0_4, .int .i64 a0_5, .int .i64 a0_6, .int .i64 a0_7, .slice A0_8 l0_8.length c0_8]) (t := 28) ?hr ?_; (case hd => rfl); (case hg => rfl); (case hr => first | (go_simp; done) | (go_simp; rfl)); intro gb121 hg w30 hbox hb; have n0_ := Aside0.mk (below_step (by repeat (first | (with_reducible first | exact HB.out | apply below_alloc | apply pw_below_drewN | apply below_drew1) | exact HB.out)) hb); have n1_ := Aside0.mk (hbox); have n2_ := Aside0.mk ((by rw [hg]; exact (below_size (by repeat (first | (with_reducible first | exact HB.out | apply below_alloc | apply pw_below_drewN | apply below_drew1) | exact HB.out))) : w.heap.size ≤ gb121)); have n3_ := Aside0.mk ((by rw [hg]; exact (below_size (by repeat (first | (with_reducible first | exact HB.out | apply below_alloc | apply pw_below_drewN | apply below_drew1) | exact HB.out))) : w.heap.size ≤ gb121)); clear HB; have HB := n0_; have BK121 := n1_; have GW121 := n2_; have GE121 := n3_; clear n0_ n1_ n2_ n3_; clear hb hbox hg) | ((with_reducible refine gate_dst (N := 3) rfl ?_); refine box_event ?hg (N := 3) ?hd (cs := #[.int .i64 a1_0, .bool a1_1, .int .i64 a1_2, .int .i64 a1_3, .slice A1_4 l1_4.length c1_4]) (t := 31) ?hr ?_; (case hd => rfl); (case hg => rfl); (case hr => first | (go_simp; done) | (go_simp; rfl)); intro gb122 hg w31 hbox hb; have n0_ := Aside0.mk (blk_below (g := gb121) (o := .cells #[.string a0_0, .int .i64 a0_1, .int .i64 a0_2, .int .i64 a0_3, .int .i64 a0_4, .int .i64 a0_5, .int .i64 a0_6, .int .i64 a0_7, .slice A0_8 l0_8.length c0_8] 28 (0, 0)) (by (with_reducible repeat (first | refine blk_drewN ?_ _ | refine blk_drew ?_ | refine blk_alloc ?_ _)); exact BK121.out) hb); have n1_ := Aside0.mk (below_step (by repeat (first | (with_reducible first | exact HB.out | apply below_alloc | apply pw_below_drewN | apply below_drew1 | refine below_set ?_ GE121.out) | exact HB.out)) hb); have n2_ := Aside0.mk (hbox); have n3_ := Aside0.mk ((by rw [hg]; exact (below_size (by repeat (first | (with_reducible first | exact HB.out | apply below_alloc | apply pw_below_drewN | apply below_drew1 | refine below_set ?_ GE121.out) | exact HB.out))) : w.heap.size ≤ gb122)); have n4_ := Aside0.mk ((by rw [hg]; exact (below_size (by repeat (first | (with_reducible first | exact HB.out | apply below_alloc | apply pw_below_drewN | apply below_drew1 | refine below_set ?_ GE121.out) | exact HB.out))) : w.heap.size ≤ gb122)); have n5_ := Aside0.mk ((by rw [hg]; exact Nat.ne_of_lt (blk_lt (g := gb121) (o := .cells #[.string a0_0, .int .i64 a0_1, .int .i64 a0_2, .int .i64 a0_3, .int .i64 a0_4, .int .i64 a0_5, .int .i64 a0_6, .int .i64 a0_7, .slice A0_8 l0_8.length c0_8] 28 (0, 0)) (by (with_reducible repeat (first | refine blk_drewN ?_ _ | refine blk_drew ?_ | refine blk_alloc ?_ _)); exact BK121.out)) : gb121 ≠ gb122)); have n6_ := Aside0.mk ((by rw [hg]; exact Nat.ne_of_gt (blk_lt (g := gb121) (o := .cells #[.string a0_0, .int .i64 a0_1, .int .i64 a0_2, .int .i64 a0_3, .int .i64 a0_4, .int .i64 a0_5, .int .i64 a0_6, .int .i64 a0_7, .slice A0_8 l0_8.length c0_8] 28 (0, 0)) (by (with_reducible repeat (first | refine blk_drewN ?_ _ | refine blk_drew ?_ | refine blk_alloc ?_ _)); exact BK121.out)) : gb122 ≠ gb121)); clear BK121; clear HB; have BK121 := n0_; have HB := n1_; have BK122 := n2_; have GW122 := n3_; have GE122 := n4_; have NB121_122 := n5_; have NB122_121 := n6_; clear n0_ n1_ n2_ n3_ n4_ n5_ n6_; clear hb hbox hg; have hnb32 := NB121_122.out; have hnc32 := NB122_121.out; have hcz33_0 : w31.cell? ⟨gb121, 0, none⟩ = some (.string a0_0) := (blk_cell BK121.out 0).trans rfl; have hcz33_1 : w31.cell? ⟨gb121, 1, none⟩ = some (.int .i64 a0_1) := (blk_cell BK121.out 1).trans rfl; have hcz33_2 : w31.cell? ⟨gb121, 2, none⟩ = some (.int .i64 a0_2) := (blk_cell BK121.out 2).trans rfl; have hcz33_3 : w31.cell? ⟨gb121, 3, none⟩ = some (.int .i64 a0_3) := (blk_cell BK121.out 3).trans rfl; have hcz33_4 : w31.cell? ⟨gb121, 4, none⟩ = some (.int .i64 a0_4) := (blk_cell BK121.out 4).trans rfl; have hcz33_5 : w31.cell? ⟨gb121, 5, none⟩ = some (.int .i64 a0_5) := (blk_cell BK121.out 5).trans rfl; have hcz33_6 : w31.cell? ⟨gb121, 6, none⟩ = some (.int .i64 a0_6) := (blk_cell BK121.out 6).trans rfl; have hcz33_7 : w31.cell? ⟨gb121, 7, none⟩ = some (.int .i64 a0_7) := (blk_cell BK121.out 7).trans rfl; have hcz33_8 : w31.cell? ⟨gb121, 8, none⟩ = some (.slice A0_8 l0_8.length c0_8) := (blk_cell BK121.out 8).trans rfl; have hfz33_0 := blk_frozen BK121.out 0; have hfz33_1 := blk_frozen BK121.out 1; have hfz33_2 := blk_frozen BK121.out 2; have hfz33_3 := blk_frozen BK121.out 3; have hfz33_4 := blk_frozen BK121.out 4; have hfz33_5 := blk_frozen BK121.out 5; have hfz33_6 := blk_frozen BK121.out 6; have hfz33_7 := blk_frozen BK121.out 7; have hfz33_8 := blk_frozen BK121.out 8) | (go_at_call 45; (with_reducible refine (ZA.metrolabref18_Check.calls k a0_0 a0_1 a0_2 a0_3 a0_4 a0_5 a0_6 a0_7 _ _ l0_8 t123 _ ?side1 ?side2 A3.out).mono ?_); (case side1 => repeat (first | exact (Kd.C_below HR0_8.out HB.out) | (with_reducible refine Kd.C_alloc ?_ _) | (with_reducible refine Kd.C_drewN ?_ _) | (with_reducible refine Kd.C_drew ?_))); (case side2 => exact HC0_8.out); rintro e w34 ⟨rfl, hb⟩; have n0_ := Aside0.mk (blk_below (g := gb121) (o := .cells #[.string a0_0, .int .i64 a0_1, .int .i64 a0_2, .int .i64 a0_3, .int .i64 a0_4, .int .i64 a0_5, .int .i64 a0_6, .int .i64 a0_7, .slice A0_8 l0_8.length c0_8] 28 (0, 0)) (by (with_reducible repeat (first | refine blk_drewN ?_ _ | refine blk_drew ?_ | refine blk_alloc ?_ _)); exact BK121.out) hb); have n1_ := Aside0.mk (blk_below (g := gb122) (o := .cells #[.int .i64 a1_0, .bool a1_1, .int .i64 a1_2, .int .i64 a1_3, .slice A1_4 l1_4.length c1_4] 31 (0, 0)) (by (with_reducible repeat (first | refine blk_drewN ?_ _ | refine blk_drew ?_ | refine blk_alloc ?_ _)); exact BK122.out) hb); have n2_ := Aside0.mk (below_step (by repeat (first | (with_reducible first | exact HB.out | apply below_alloc | apply pw_below_drewN | apply below_drew1 | refine below_set ?_ GE121.out | refine below_set ?_ GE122.out) | exact HB.out)) hb); clear BK121; clear BK122; clear HB; have BK121 := n0_; have BK122 := n1_; have HB := n2_; clear n0_ n1_ n2_; (try clear hb); (try clear hb2); (try clear hk); (try clear hi); have hcz35_0 : w34.cell? ⟨gb122, 0, none⟩ = some (.int .i64 a1_0) := (blk_cell BK122.out 0).trans rfl; have hcz35_1 : w34.cell? ⟨gb122, 1, none⟩ = some (.bool a1_1) := (blk_cell BK122.out 1).trans rfl; have hcz35_2 : w34.cell? ⟨gb122, 2, none⟩ = some (.int .i64 a1_2) := (blk_cell BK122.out 2).trans rfl; have hcz35_3 : w34.cell? ⟨gb122, 3, none⟩ = some (.int .i64 a1_3) := (blk_cell BK122.out 3).trans rfl; have hcz35_4 : w34.cell? ⟨gb122, 4, none⟩ = some (.slice A1_4 l1_4.length c1_4) := (blk_cell BK122.out 4).trans rfl; have hfz35_0 := blk_frozen BK122.out 0; have hfz35_1 := blk_frozen BK122.out 1; have hfz35_2 := blk_frozen BK122.out 2; have hfz35_3 := blk_frozen BK122.out 3; have hfz35_4 := blk_frozen BK122.out 4) | (go_at_call 16; (with_reducible refine (ZA.metrolabref19_Plain.calls k a1_0 a1_1 a1_2 a1_3 _ _ l1_4 t124 _ ?side1 ?side2 A5.out).mono ?_); (case side1 => repeat (first | exact (Kd.C_below HR1_4.out HB.out) | (with_reducible refine Kd.C_alloc ?_ _) | (with_reducible refine Kd.C_drewN ?_ _) | (with_reducible refine Kd.C_drew ?_))); (case side2 => exact HC1_4.out); rintro e w36 ⟨rfl, hb⟩; have n0_ := Aside0.mk (blk_below (g := gb121) (o := .cells #[.string a0_0, .int .i64 a0_1, .int .i64 a0_2, .int .i64 a0_3, .int .i64 a0_4, .int .i64 a0_5, .int .i64 a0_6, .int .i64 a0_7, .slice A0_8 l0_8.length c0_8] 28 (0, 0)) (by (with_reducible repeat (first | refine blk_drewN ?_ _ | refine blk_drew ?_ | refine blk_alloc ?_ _)); exact BK121.out) hb); have n1_ := Aside0.mk (blk_below (g := gb122) (o := .cells #[.int .i64 a1_0, .bool a1_1, .int .i64 a1_2, .int .i64 a1_3, .slice A1_4 l1_4.length c1_4] 31 (0, 0)) (by (with_reducible repeat (first | refine blk_drewN ?_ _ | refine blk_drew ?_ | refine blk_alloc ?_ _)); exact BK122.out) hb); have n2_ := Aside0.mk (below_step (by repeat (first | (with_reducible first | exact HB.out | apply below_alloc | apply pw_below_drewN | apply below_drew1 | refine below_set ?_ GE121.out | refine below_set ?_ GE122.out) | exact HB.out)) hb); clear BK121; clear BK122; clear HB; have BK121 := n0_; have BK122 := n1_; have HB := n2_; clear n0_ n1_ n2_; (try clear hb); (try clear hb2); (try clear hk); (try clear hi); have hcz37_0 : w36.cell? ⟨gb121, 0, none⟩ = some (.string a0_0) := (blk_cell BK121.out 0).trans rfl; have hcz37_1 : w36.cell? ⟨gb121, 1, none⟩ = some (.int .i64 a0_1) := (blk_cell BK121.out 1).trans rfl; have hcz37_2 : w36.cell? ⟨gb121, 2, none⟩ = some (.int .i64 a0_2) := (blk_cell BK121.out 2).trans rfl; have hcz37_3 : w36.cell? ⟨gb121, 3, none⟩ = some (.int .i64 a0_3) := (blk_cell BK121.out 3).trans rfl; have hcz37_4 : w36.cell? ⟨gb121, 4, none⟩ = some (.int .i64 a0_4) := (blk_cell BK121.out 4).trans rfl; have hcz37_5 : w36.cell? ⟨gb121, 5, none⟩ = some (.int .i64 a0_5) := (blk_cell BK121.out 5).trans rfl; have hcz37_6 : w36.cell? ⟨gb121, 6, none⟩ = some (.int .i64 a0_6) := (blk_cell BK121.out 6).trans rfl; have hcz37_7 : w36.cell? ⟨gb121, 7, none⟩ = some (.int .i64 a0_7) := (blk_cell BK121.out 7).trans rfl; have hcz37_8 : w36.cell? ⟨gb121, 8, none⟩ = some (.slice A0_8 l0_8.length c0_8) := (blk_cell BK121.out 8).trans rfl; have hfz37_0 := blk_frozen BK121.out 0; have hfz37_1 := blk_frozen BK121.out 1; have hfz37_2 := blk_frozen BK121.out 2; have hfz37_3 := blk_frozen BK121.out 3; have hfz37_4 := blk_frozen BK121.out 4; have hfz37_5 := blk_frozen BK121.out 5; have hfz37_6 := blk_frozen BK121.out 6; have hfz37_7 := blk_frozen BK121.out 7; have hfz37_8 := blk_frozen BK121.out 8; have hcz38_0 : w36.cell? ⟨gb122, 0, none⟩ = some (.int .i64 a1_0) := (blk_cell BK122.out 0).trans rfl; have hcz38_1 : w36.cell? ⟨gb122, 1, none⟩ = some (.bool a1_1) := (blk_cell BK122.out 1).trans rfl; have hcz38_2 : w36.cell? ⟨gb122, 2, none⟩ = some (.int .i64 a1_2) := (blk_cell BK122.out 2).trans rfl; have hcz38_3 : w36.cell? ⟨gb122, 3, none⟩ = some (.int .i64 a1_3) := (blk_cell BK122.out 3).trans rfl; have hcz38_4 : w36.cell? ⟨gb122, 4, none⟩ = some (.slice A1_4 l1_4.length c1_4) := (blk_cell BK122.out 4).trans rfl; have hfz38_0 := blk_frozen BK122.out 0; have hfz38_1 := blk_frozen BK122.out 1; have hfz38_2 := blk_frozen BK122.out 2; have hfz38_3 := blk_frozen BK122.out 3; have hfz38_4 := blk_frozen BK122.out 4) | (go_at_call 46; (with_reducible refine (ref_permitted.calls a0_0 a0_1 a0_2 a0_3 a0_4 a0_5 a0_6 a0_7 _ _ l0_8 a1_0 a1_1 a1_2 a1_3 _ _ l1_4 t125 _ ?side1 ?side2 ?side3 ?side4 A7.out).mono ?_); (case side1 => repeat (first | exact (Kd.C_below HR0_8.out HB.out) | (with_reducible refine Kd.C_alloc ?_ _) | (with_reducible refine Kd.C_drewN ?_ _) | (with_reducible refine Kd.C_drew ?_))); (case side2 => exact HC0_8.out); (case side3 => repeat (first | exact (Kd.C_below HR1_4.out HB.out) | (with_reducible refine Kd.C_alloc ?_ _) | (with_reducible refine Kd.C_drewN ?_ _) | (with_reducible refine Kd.C_drew ?_))); (case side4 => exact HC1_4.out); rintro e w39 ⟨rfl, hb⟩; have n0_ := Aside0.mk (blk_below (g := gb121) (o := .cells #[.string a0_0, .int .i64 a0_1, .int .i64 a0_2, .int .i64 a0_3, .int .i64 a0_4, .int .i64 a0_5, .int .i64 a0_6, .int .i64 a0_7, .slice A0_8 l0_8.length c0_8] 28 (0, 0)) (by (with_reducible repeat (first | refine blk_drewN ?_ _ | refine blk_drew ?_ | refine blk_alloc ?_ _)); exact BK121.out) hb); have n1_ := Aside0.mk (blk_below (g := gb122) (o := .cells #[.int .i64 a1_0, .bool a1_1, .int .i64 a1_2, .int .i64 a1_3, .slice A1_4 l1_4.length c1_4] 31 (0, 0)) (by (with_reducible repeat (first | refine blk_drewN ?_ _ | refine blk_drew ?_ | refine blk_alloc ?_ _)); exact BK122.out) hb); have n2_ := Aside0.mk (below_step (by repeat (first | (with_reducible first | exact HB.out | apply below_alloc | apply pw_below_drewN | apply below_drew1 | refine below_set ?_ GE121.out | refine below_set ?_ GE122.out) | exact HB.out)) hb); clear BK121; clear BK122; clear HB; have BK121 := n0_; have BK122 := n1_; have HB := n2_; clear n0_ n1_ n2_; (try clear hb); (try clear hb2); (try clear hk); (try clear hi))); try go_wp2_with (first | ((with_reducible refine gate_dst (N := 2) rfl ?_); refine box_event ?hg (N := 2) ?hd (cs := #[.string a0_0, .int .i64 a0_1, .int .i64 a0_2, .int .i64 a0_3, .int .i64 a0_4, .int .i64 a0_5, .int .i64 a0_6, .int .i64 a0_7, .slice A0_8 l0_8.length c0_8]) (t := 28) ?hr ?_; (case hd => rfl); (case hg => rfl); (case hr => first | (go_simp; done) | (go_simp; rfl)); intro gb121 hg w30 hbox hb; have n0_ := Aside0.mk (below_step (by repeat (first | (with_reducible first | exact HB.out | apply below_alloc | apply pw_below_drewN | apply below_drew1) | exact HB.out)) hb); have n1_ := Aside0.mk (hbox); have n2_ := Aside0.mk ((by rw [hg]; exact (below_size (by repeat (first | (with_reducible first | exact HB.out | apply below_alloc | apply pw_below_drewN | apply below_drew1) | exact HB.out))) : w.heap.size ≤ gb121)); have n3_ := Aside0.mk ((by rw [hg]; exact (below_size (by repeat (first | (with_reducible first | exact HB.out | apply below_alloc | apply pw_below_drewN | apply below_drew1) | exact HB.out))) : w.heap.size ≤ gb121)); clear HB; have HB := n0_; have BK121 := n1_; have GW121 := n2_; have GE121 := n3_; clear n0_ n1_ n2_ n3_; clear hb hbox hg) | ((with_reducible refine gate_dst (N := 3) rfl ?_); refine box_event ?hg (N := 3) ?hd (cs := #[.int .i64 a1_0, .bool a1_1, .int .i64 a1_2, .int .i64 a1_3, .slice A1_4 l1_4.length c1_4]) (t := 31) ?hr ?_; (case hd => rfl); (case hg => rfl); (case hr => first | (go_simp; done) | (go_simp; rfl)); intro gb122 hg w31 hbox hb; have n0_ := Aside0.mk (blk_below (g := gb121) (o := .cells #[.string a0_0, .int .i64 a0_1, .int .i64 a0_2, .int .i64 a0_3, .int .i64 a0_4, .int .i64 a0_5, .int .i64 a0_6, .int .i64 a0_7, .slice A0_8 l0_8.length c0_8] 28 (0, 0)) (by (with_reducible repeat (first | refine blk_drewN ?_ _ | refine blk_drew ?_ | refine blk_alloc ?_ _)); exact BK121.out) hb); have n1_ := Aside0.mk (below_step (by repeat (first | (with_reducible first | exact HB.out | apply below_alloc | apply pw_below_drewN | apply below_drew1 | refine below_set ?_ GE121.out) | exact HB.out)) hb); have n2_ := Aside0.mk (hbox); have n3_ := Aside0.mk ((by rw [hg]; exact (below_size (by repeat (first | (with_reducible first | exact HB.out | apply below_alloc | apply pw_below_drewN | apply below_drew1 | refine below_set ?_ GE121.out) | exact HB.out))) : w.heap.size ≤ gb122)); have n4_ := Aside0.mk ((by rw [hg]; exact (below_size (by repeat (first | (with_reducible first | exact HB.out | apply below_alloc | apply pw_below_drewN | apply below_drew1 | refine below_set ?_ GE121.out) | exact HB.out))) : w.heap.size ≤ gb122)); have n5_ := Aside0.mk ((by rw [hg]; exact Nat.ne_of_lt (blk_lt (g := gb121) (o := .cells #[.string a0_0, .int .i64 a0_1, .int .i64 a0_2, .int .i64 a0_3, .int .i64 a0_4, .int .i64 a0_5, .int .i64 a0_6, .int .i64 a0_7, .slice A0_8 l0_8.length c0_8] 28 (0, 0)) (by (with_reducible repeat (first | refine blk_drewN ?_ _ | refine blk_drew ?_ | refine blk_alloc ?_ _)); exact BK121.out)) : gb121 ≠ gb122)); have n6_ := Aside0.mk ((by rw [hg]; exact Nat.ne_of_gt (blk_lt (g := gb121) (o := .cells #[.string a0_0, .int .i64 a0_1, .int .i64 a0_2, .int .i64 a0_3, .int .i64 a0_4, .int .i64 a0_5, .int .i64 a0_6, .int .i64 a0_7, .slice A0_8 l0_8.length c0_8] 28 (0, 0)) (by (with_reducible repeat (first | refine blk_drewN ?_ _ | refine blk_drew ?_ | refine blk_alloc ?_ _)); exact BK121.out)) : gb122 ≠ gb121)); clear BK121; clear HB; have BK121 := n0_; have HB := n1_; have BK122 := n2_; have GW122 := n3_; have GE122 := n4_; have NB121_122 := n5_; have NB122_121 := n6_; clear n0_ n1_ n2_ n3_ n4_ n5_ n6_; clear hb hbox hg; have hnb32 := NB121_122.out; have hnc32 := NB122_121.out; have hcz33_0 : w31.cell? ⟨gb121, 0, none⟩ = some (.string a0_0) := (blk_cell BK121.out 0).trans rfl; have hcz33_1 : w31.cell? ⟨gb121, 1, none⟩ = some (.int .i64 a0_1) := (blk_cell BK121.out 1).trans rfl; have hcz33_2 : w31.cell? ⟨gb121, 2, none⟩ = some (.int .i64 a0_2) := (blk_cell BK121.out 2).trans rfl; have hcz33_3 : w31.cell? ⟨gb121, 3, none⟩ = some (.int .i64 a0_3) := (blk_cell BK121.out 3).trans rfl; have hcz33_4 : w31.cell? ⟨gb121, 4, none⟩ = some (.int .i64 a0_4) := (blk_cell BK121.out 4).trans rfl; have hcz33_5 : w31.cell? ⟨gb121, 5, none⟩ = some (.int .i64 a0_5) := (blk_cell BK121.out 5).trans rfl; have hcz33_6 : w31.cell? ⟨gb121, 6, none⟩ = some (.int .i64 a0_6) := (blk_cell BK121.out 6).trans rfl; have hcz33_7 : w31.cell? ⟨gb121, 7, none⟩ = some (.int .i64 a0_7) := (blk_cell BK121.out 7).trans rfl; have hcz33_8 : w31.cell? ⟨gb121, 8, none⟩ = some (.slice A0_8 l0_8.length c0_8) := (blk_cell BK121.out 8).trans rfl; have hfz33_0 := blk_frozen BK121.out 0; have hfz33_1 := blk_frozen BK121.out 1; have hfz33_2 := blk_frozen BK121.out 2; have hfz33_3 := blk_frozen BK121.out 3; have hfz33_4 := blk_frozen BK121.out 4; have hfz33_5 := blk_frozen BK121.out 5; have hfz33_6 := blk_frozen BK121.out 6; have hfz33_7 := blk_frozen BK121.out 7; have hfz33_8 := blk_frozen BK121.out 8) | (go_at_call 45; (with_reducible refine (ZA.metrolabref18_Check.calls k a0_0 a0_1 a0_2 a0_3 a0_4 a0_5 a0_6 a0_7 _ _ l0_8 t123 _ ?side1 ?side2 A3.out).mono ?_); (case side1 => repeat (first | exact (Kd.C_below HR0_8.out HB.out) | (with_reducible refine Kd.C_alloc ?_ _) | (with_reducible refine Kd.C_drewN ?_ _) | (with_reducible refine Kd.C_drew ?_))); (case side2 => exact HC0_8.out); rintro e w34 ⟨rfl, hb⟩; have n0_ := Aside0.mk (blk_below (g := gb121) (o := .cells #[.string a0_0, .int .i64 a0_1, .int .i64 a0_2, .int .i64 a0_3, .int .i64 a0_4, .int .i64 a0_5, .int .i64 a0_6, .int .i64 a0_7, .slice A0_8 l0_8.length c0_8] 28 (0, 0)) (by (with_reducible repeat (first | refine blk_drewN ?_ _ | refine blk_drew ?_ | refine blk_alloc ?_ _)); exact BK121.out) hb); have n1_ := Aside0.mk (blk_below (g := gb122) (o := .cells #[.int .i64 a1_0, .bool a1_1, .int .i64 a1_2, .int .i64 a1_3, .slice A1_4 l1_4.length c1_4] 31 (0, 0)) (by (with_reducible repeat (first | refine blk_drewN ?_ _ | refine blk_drew ?_ | refine blk_alloc ?_ _)); exact BK122.out) hb); have n2_ := Aside0.mk (below_step (by repeat (first | (with_reducible first | exact HB.out | apply below_alloc | apply pw_below_drewN | apply below_drew1 | refine below_set ?_ GE121.out | refine below_set ?_ GE122.out) | exact HB.out)) hb); clear BK121; clear BK122; clear HB; have BK121 := n0_; have BK122 := n1_; have HB := n2_; clear n0_ n1_ n2_; (try clear hb); (try clear hb2); (try clear hk); (try clear hi); have hcz35_0 : w34.cell? ⟨gb122, 0, none⟩ = some (.int .i64 a1_0) := (blk_cell BK122.out 0).trans rfl; have hcz35_1 : w34.cell? ⟨gb122, 1, none⟩ = some (.bool a1_1) := (blk_cell BK122.out 1).trans rfl; have hcz35_2 : w34.cell? ⟨gb122, 2, none⟩ = some (.int .i64 a1_2) := (blk_cell BK122.out 2).trans rfl; have hcz35_3 : w34.cell? ⟨gb122, 3, none⟩ = some (.int .i64 a1_3) := (blk_cell BK122.out 3).trans rfl; have hcz35_4 : w34.cell? ⟨gb122, 4, none⟩ = some (.slice A1_4 l1_4.length c1_4) := (blk_cell BK122.out 4).trans rfl; have hfz35_0 := blk_frozen BK122.out 0; have hfz35_1 := blk_frozen BK122.out 1; have hfz35_2 := blk_frozen BK122.out 2; have hfz35_3 := blk_frozen BK122.out 3; have hfz35_4 := blk_frozen BK122.out 4) | (go_at_call 16; (with_reducible refine (ZA.metrolabref19_Plain.calls k a1_0 a1_1 a1_2 a1_3 _ _ l1_4 t124 _ ?side1 ?side2 A5.out).mono ?_); (case side1 => repeat (first | exact (Kd.C_below HR1_4.out HB.out) | (with_reducible refine Kd.C_alloc ?_ _) | (with_reducible refine Kd.C_drewN ?_ _) | (with_reducible refine Kd.C_drew ?_))); (case side2 => exact HC1_4.out); rintro e w36 ⟨rfl, hb⟩; have n0_ := Aside0.mk (blk_below (g := gb121) (o := .cells #[.string a0_0, .int .i64 a0_1, .int .i64 a0_2, .int .i64 a0_3, .int .i64 a0_4, .int .i64 a0_5, .int .i64 a0_6, .int .i64 a0_7, .slice A0_8 l0_8.length c0_8] 28 (0, 0)) (by (with_reducible repeat (first | refine blk_drewN ?_ _ | refine blk_drew ?_ | refine blk_alloc ?_ _)); exact BK121.out) hb); have n1_ := Aside0.mk (blk_below (g := gb122) (o := .cells #[.int .i64 a1_0, .bool a1_1, .int .i64 a1_2, .int .i64 a1_3, .slice A1_4 l1_4.length c1_4] 31 (0, 0)) (by (with_reducible repeat (first | refine blk_drewN ?_ _ | refine blk_drew ?_ | refine blk_alloc ?_ _)); exact BK122.out) hb); have n2_ := Aside0.mk (below_step (by repeat (first | (with_reducible first | exact HB.out | apply below_alloc | apply pw_below_drewN | apply below_drew1 | refine below_set ?_ GE121.out | refine below_set ?_ GE122.out) | exact HB.out)) hb); clear BK121; clear BK122; clear HB; have BK121 := n0_; have BK122 := n1_; have HB := n2_; clear n0_ n1_ n2_; (try clear hb); (try clear hb2); (try clear hk); (try clear hi); have hcz37_0 : w36.cell? ⟨gb121, 0, none⟩ = some (.string a0_0) := (blk_cell BK121.out 0).trans rfl; have hcz37_1 : w36.cell? ⟨gb121, 1, none⟩ = some (.int .i64 a0_1) := (blk_cell BK121.out 1).trans rfl; have hcz37_2 : w36.cell? ⟨gb121, 2, none⟩ = some (.int .i64 a0_2) := (blk_cell BK121.out 2).trans rfl; have hcz37_3 : w36.cell? ⟨gb121, 3, none⟩ = some (.int .i64 a0_3) := (blk_cell BK121.out 3).trans rfl; have hcz37_4 : w36.cell? ⟨gb121, 4, none⟩ = some (.int .i64 a0_4) := (blk_cell BK121.out 4).trans rfl; have hcz37_5 : w36.cell? ⟨gb121, 5, none⟩ = some (.int .i64 a0_5) := (blk_cell BK121.out 5).trans rfl; have hcz37_6 : w36.cell? ⟨gb121, 6, none⟩ = some (.int .i64 a0_6) := (blk_cell BK121.out 6).trans rfl; have hcz37_7 : w36.cell? ⟨gb121, 7, none⟩ = some (.int .i64 a0_7) := (blk_cell BK121.out 7).trans rfl; have hcz37_8 : w36.cell? ⟨gb121, 8, none⟩ = some (.slice A0_8 l0_8.length c0_8) := (blk_cell BK121.out 8).trans rfl; have hfz37_0 := blk_frozen BK121.out 0; have hfz37_1 := blk_frozen BK121.out 1; have hfz37_2 := blk_frozen BK121.out 2; have hfz37_3 := blk_frozen BK121.out 3; have hfz37_4 := blk_frozen BK121.out 4; have hfz37_5 := blk_frozen BK121.out 5; have hfz37_6 := blk_frozen BK121.out 6; have hfz37_7 := blk_frozen BK121.out 7; have hfz37_8 := blk_frozen BK121.out 8; have hcz38_0 : w36.cell? ⟨gb122, 0, none⟩ = some (.int .i64 a1_0) := (blk_cell BK122.out 0).trans rfl; have hcz38_1 : w36.cell? ⟨gb122, 1, none⟩ = some (.bool a1_1) := (blk_cell BK122.out 1).trans rfl; have hcz38_2 : w36.cell? ⟨gb122, 2, none⟩ = some (.int .i64 a1_2) := (blk_cell BK122.out 2).trans rfl; have hcz38_3 : w36.cell? ⟨gb122, 3, none⟩ = some (.int .i64 a1_3) := (blk_cell BK122.out 3).trans rfl; have hcz38_4 : w36.cell? ⟨gb122, 4, none⟩ = some (.slice A1_4 l1_4.length c1_4) := (blk_cell BK122.out 4).trans rfl; have hfz38_0 := blk_frozen BK122.out 0; have hfz38_1 := blk_frozen BK122.out 1; have hfz38_2 := blk_frozen BK122.out 2; have hfz38_3 := blk_frozen BK122.out 3; have hfz38_4 := blk_frozen BK122.out 4) | (go_at_call 46; (with_reducible refine (ref_permitted.calls a0_0 a0_1 a0_2 a0_3 a0_4 a0_5 a0_6 a0_7 _ _ l0_8 a1_0 a1_1 a1_2 a1_3 _ _ l1_4 t125 _ ?side1 ?side2 ?side3 ?side4 A7.out).mono ?_); (case side1 => repeat (first | exact (Kd.C_below HR0_8.out HB.out) | (with_reducible refine Kd.C_alloc ?_ _) | (with_reducible refine Kd.C_drewN ?_ _) | (with_reducible refine Kd.C_drew ?_))); (case side2 => exact HC0_8.out); (case side3 => repeat (first | exact (Kd.C_below HR1_4.out HB.out) | (with_reducible refine Kd.C_alloc ?_ _) | (with_reducible refine Kd.C_drewN ?_ _) | (with_reducible refine Kd.C_drew ?_))); (case side4 => exact HC1_4.out); rintro e w39 ⟨rfl, hb⟩; have n0_ := Aside0.mk (blk_below (g := gb121) (o := .cells #[.string a0_0, .int .i64 a0_1, .int .i64 a0_2, .int .i64 a0_3, .int .i64 a0_4, .int .i64 a0_5, .int .i64 a0_6, .int .i64 a0_7, .slice A0_8 l0_8.length c0_8] 28 (0, 0)) (by (with_reducible repeat (first | refine blk_drewN ?_ _ | refine blk_drew ?_ | refine blk_alloc ?_ _)); exact BK121.out) hb); have n1_ := Aside0.mk (blk_below (g := gb122) (o := .cells #[.int .i64 a1_0, .bool a1_1, .int .i64 a1_2, .int .i64 a1_3, .slice A1_4 l1_4.length c1_4] 31 (0, 0)) (by (with_reducible repeat (first | refine blk_drewN ?_ _ | refine blk_drew ?_ | refine blk_alloc ?_ _)); exact BK122.out) hb); have n2_ := Aside0.mk (below_step (by repeat (first | (with_reducible first | exact HB.out | apply below_alloc | apply pw_below_drewN | apply below_drew1 | refine below_set ?_ GE121.out | refine below_set ?_ GE122.out) | exact HB.out)) hb); clear BK121; clear BK122; clear HB; have BK121 := n0_; have BK122 := n1_; have HB := n2_; clear n0_ n1_ n2_; (try clear hb); (try clear hb2); (try clear hk); (try clear hi))))
        go_ret
        exact ⟨by first | rfl | (simp [errW_none, errW_some] <;> rfl) | (simp [*, errW_none, errW_some] <;> rfl), by repeat (first | (with_reducible first | exact HB.out | apply below_alloc | apply pw_below_drewN | apply below_drew1 | refine below_set ?_ GE121.out | refine below_set ?_ GE122.out) | exact HB.out)⟩
    · rw [if_neg c6] at H
      have c6b0 : (t124 == 0) = false := beq_eq_false_iff_ne.mpr c6
      have c6b1 : (t124 != 0) = true := bne_iff_ne.mpr c6
      obtain rfl := Option.some.inj H
      go_enter Tryz.func14, Tryz.ntmps14
      go_wp2_with (first | ((with_reducible refine gate_dst (N := 2) rfl ?_); refine box_event ?hg (N := 2) ?hd (cs := #[.string a0_0, .int .i64 a0_1, .int .i64 a0_2, .int .i64 a0_3, .int .i64 a0_4, .int .i64 a0_5, .int .i64 a0_6, .int .i64 a0_7, .slice A0_8 l0_8.length c0_8]) (t := 28) ?hr ?_; (case hd => rfl); (case hg => rfl); (case hr => first | (go_simp; done) | (go_simp; rfl)); intro gb121 hg w40 hbox hb; have n0_ := Aside0.mk (below_step (by repeat (first | (with_reducible first | exact HB.out | apply below_alloc | apply pw_below_drewN | apply below_drew1) | exact HB.out)) hb); have n1_ := Aside0.mk (hbox); have n2_ := Aside0.mk ((by rw [hg]; exact (below_size (by repeat (first | (with_reducible first | exact HB.out | apply below_alloc | apply pw_below_drewN | apply below_drew1) | exact HB.out))) : w.heap.size ≤ gb121)); have n3_ := Aside0.mk ((by rw [hg]; exact (below_size (by repeat (first | (with_reducible first | exact HB.out | apply below_alloc | apply pw_below_drewN | apply below_drew1) | exact HB.out))) : w.heap.size ≤ gb121)); clear HB; have HB := n0_; have BK121 := n1_; have GW121 := n2_; have GE121 := n3_; clear n0_ n1_ n2_ n3_; clear hb hbox hg) | ((with_reducible refine gate_dst (N := 3) rfl ?_); refine box_event ?hg (N := 3) ?hd (cs := #[.int .i64 a1_0, .bool a1_1, .int .i64 a1_2, .int .i64 a1_3, .slice A1_4 l1_4.length c1_4]) (t := 31) ?hr ?_; (case hd => rfl); (case hg => rfl); (case hr => first | (go_simp; done) | (go_simp; rfl)); intro gb122 hg w41 hbox hb; have n0_ := Aside0.mk (blk_below (g := gb121) (o := .cells #[.string a0_0, .int .i64 a0_1, .int .i64 a0_2, .int .i64 a0_3, .int .i64 a0_4, .int .i64 a0_5, .int .i64 a0_6, .int .i64 a0_7, .slice A0_8 l0_8.length c0_8] 28 (0, 0)) (by (with_reducible repeat (first | refine blk_drewN ?_ _ | refine blk_drew ?_ | refine blk_alloc ?_ _)); exact BK121.out) hb); have n1_ := Aside0.mk (below_step (by repeat (first | (with_reducible first | exact HB.out | apply below_alloc | apply pw_below_drewN | apply below_drew1 | refine below_set ?_ GE121.out) | exact HB.out)) hb); have n2_ := Aside0.mk (hbox); have n3_ := Aside0.mk ((by rw [hg]; exact (below_size (by repeat (first | (with_reducible first | exact HB.out | apply below_alloc | apply pw_below_drewN | apply below_drew1 | refine below_set ?_ GE121.out) | exact HB.out))) : w.heap.size ≤ gb122)); have n4_ := Aside0.mk ((by rw [hg]; exact (below_size (by repeat (first | (with_reducible first | exact HB.out | apply below_alloc | apply pw_below_drewN | apply below_drew1 | refine below_set ?_ GE121.out) | exact HB.out))) : w.heap.size ≤ gb122)); have n5_ := Aside0.mk ((by rw [hg]; exact Nat.ne_of_lt (blk_lt (g := gb121) (o := .cells #[.string a0_0, .int .i64 a0_1, .int .i64 a0_2, .int .i64 a0_3, .int .i64 a0_4, .int .i64 a0_5, .int .i64 a0_6, .int .i64 a0_7, .slice A0_8 l0_8.length c0_8] 28 (0, 0)) (by (with_reducible repeat (first | refine blk_drewN ?_ _ | refine blk_drew ?_ | refine blk_alloc ?_ _)); exact BK121.out)) : gb121 ≠ gb122)); have n6_ := Aside0.mk ((by rw [hg]; exact Nat.ne_of_gt (blk_lt (g := gb121) (o := .cells #[.string a0_0, .int .i64 a0_1, .int .i64 a0_2, .int .i64 a0_3, .int .i64 a0_4, .int .i64 a0_5, .int .i64 a0_6, .int .i64 a0_7, .slice A0_8 l0_8.length c0_8] 28 (0, 0)) (by (with_reducible repeat (first | refine blk_drewN ?_ _ | refine blk_drew ?_ | refine blk_alloc ?_ _)); exact BK121.out)) : gb122 ≠ gb121)); clear BK121; clear HB; have BK121 := n0_; have HB := n1_; have BK122 := n2_; have GW122 := n3_; have GE122 := n4_; have NB121_122 := n5_; have NB122_121 := n6_; clear n0_ n1_ n2_ n3_ n4_ n5_ n6_; clear hb hbox hg; have hnb42 := NB121_122.out; have hnc42 := NB122_121.out; have hcz43_0 : w41.cell? ⟨gb121, 0, none⟩ = some (.string a0_0) := (blk_cell BK121.out 0).trans rfl; have hcz43_1 : w41.cell? ⟨gb121, 1, none⟩ = some (.int .i64 a0_1) := (blk_cell BK121.out 1).trans rfl; have hcz43_2 : w41.cell? ⟨gb121, 2, none⟩ = some (.int .i64 a0_2) := (blk_cell BK121.out 2).trans rfl; have hcz43_3 : w41.cell? ⟨gb121, 3, none⟩ = some (.int .i64 a0_3) := (blk_cell BK121.out 3).trans rfl; have hcz43_4 : w41.cell? ⟨gb121, 4, none⟩ = some (.int .i64 a0_4) := (blk_cell BK121.out 4).trans rfl; have hcz43_5 : w41.cell? ⟨gb121, 5, none⟩ = some (.int .i64 a0_5) := (blk_cell BK121.out 5).trans rfl; have hcz43_6 : w41.cell? ⟨gb121, 6, none⟩ = some (.int .i64 a0_6) := (blk_cell BK121.out 6).trans rfl; have hcz43_7 : w41.cell? ⟨gb121, 7, none⟩ = some (.int .i64 a0_7) := (blk_cell BK121.out 7).trans rfl; have hcz43_8 : w41.cell? ⟨gb121, 8, none⟩ = some (.slice A0_8 l0_8.length c0_8) := (blk_cell BK121.out 8).trans rfl; have hfz43_0 := blk_frozen BK121.out 0; have hfz43_1 := blk_frozen BK121.out 1; have hfz43_2 := blk_frozen BK121.out 2; have hfz43_3 := blk_frozen BK121.out 3; have hfz43_4 := blk_frozen BK121.out 4; have hfz43_5 := blk_frozen BK121.out 5; have hfz43_6 := blk_frozen BK121.out 6; have hfz43_7 := blk_frozen BK121.out 7; have hfz43_8 := blk_frozen BK121.out 8) | (go_at_call 45; (with_reducible refine (ZA.metrolabref18_Check.calls k a0_0 a0_1 a0_2 a0_3 a0_4 a0_5 a0_6 a0_7 _ _ l0_8 t123 _ ?side1 ?side2 A3.out).mono ?_); (case side1 => repeat (first | exact (Kd.C_below HR0_8.out HB.out) | (with_reducible refine Kd.C_alloc ?_ _) | (with_reducible refine Kd.C_drewN ?_ _) | (with_reducible refine Kd.C_drew ?_))); (case side2 => exact HC0_8.out); rintro e w44 ⟨rfl, hb⟩; have n0_ := Aside0.mk (blk_below (g := gb121) (o := .cells #[.string a0_0, .int .i64 a0_1, .int .i64 a0_2, .int .i64 a0_3, .int .i64 a0_4, .int .i64 a0_5, .int .i64 a0_6, .int .i64 a0_7, .slice A0_8 l0_8.length c0_8] 28 (0, 0)) (by (with_reducible repeat (first | refine blk_drewN ?_ _ | refine blk_drew ?_ | refine blk_alloc ?_ _)); exact BK121.out) hb); have n1_ := Aside0.mk (blk_below (g := gb122) (o := .cells #[.int .i64 a1_0, .bool a1_1, .int .i64 a1_2, .int .i64 a1_3, .slice A1_4 l1_4.length c1_4] 31 (0, 0)) (by (with_reducible repeat (first | refine blk_drewN ?_ _ | refine blk_drew ?_ | refine blk_alloc ?_ _)); exact BK122.out) hb); have n2_ := Aside0.mk (below_step (by repeat (first | (with_reducible first | exact HB.out | apply below_alloc | apply pw_below_drewN | apply below_drew1 | refine below_set ?_ GE121.out | refine below_set ?_ GE122.out) | exact HB.out)) hb); clear BK121; clear BK122; clear HB; have BK121 := n0_; have BK122 := n1_; have HB := n2_; clear n0_ n1_ n2_; (try clear hb); (try clear hb2); (try clear hk); (try clear hi); have hcz45_0 : w44.cell? ⟨gb122, 0, none⟩ = some (.int .i64 a1_0) := (blk_cell BK122.out 0).trans rfl; have hcz45_1 : w44.cell? ⟨gb122, 1, none⟩ = some (.bool a1_1) := (blk_cell BK122.out 1).trans rfl; have hcz45_2 : w44.cell? ⟨gb122, 2, none⟩ = some (.int .i64 a1_2) := (blk_cell BK122.out 2).trans rfl; have hcz45_3 : w44.cell? ⟨gb122, 3, none⟩ = some (.int .i64 a1_3) := (blk_cell BK122.out 3).trans rfl; have hcz45_4 : w44.cell? ⟨gb122, 4, none⟩ = some (.slice A1_4 l1_4.length c1_4) := (blk_cell BK122.out 4).trans rfl; have hfz45_0 := blk_frozen BK122.out 0; have hfz45_1 := blk_frozen BK122.out 1; have hfz45_2 := blk_frozen BK122.out 2; have hfz45_3 := blk_frozen BK122.out 3; have hfz45_4 := blk_frozen BK122.out 4) | (go_at_call 16; (with_reducible refine (ZA.metrolabref19_Plain.calls k a1_0 a1_1 a1_2 a1_3 _ _ l1_4 t124 _ ?side1 ?side2 A5.out).mono ?_); (case side1 => repeat (first | exact (Kd.C_below HR1_4.out HB.out) | (with_reducible refine Kd.C_alloc ?_ _) | (with_reducible refine Kd.C_drewN ?_ _) | (with_reducible refine Kd.C_drew ?_))); (case side2 => exact HC1_4.out); rintro e w46 ⟨rfl, hb⟩; have n0_ := Aside0.mk (blk_below (g := gb121) (o := .cells #[.string a0_0, .int .i64 a0_1, .int .i64 a0_2, .int .i64 a0_3, .int .i64 a0_4, .int .i64 a0_5, .int .i64 a0_6, .int .i64 a0_7, .slice A0_8 l0_8.length c0_8] 28 (0, 0)) (by (with_reducible repeat (first | refine blk_drewN ?_ _ | refine blk_drew ?_ | refine blk_alloc ?_ _)); exact BK121.out) hb); have n1_ := Aside0.mk (blk_below (g := gb122) (o := .cells #[.int .i64 a1_0, .bool a1_1, .int .i64 a1_2, .int .i64 a1_3, .slice A1_4 l1_4.length c1_4] 31 (0, 0)) (by (with_reducible repeat (first | refine blk_drewN ?_ _ | refine blk_drew ?_ | refine blk_alloc ?_ _)); exact BK122.out) hb); have n2_ := Aside0.mk (below_step (by repeat (first | (with_reducible first | exact HB.out | apply below_alloc | apply pw_below_drewN | apply below_drew1 | refine below_set ?_ GE121.out | refine below_set ?_ GE122.out) | exact HB.out)) hb); clear BK121; clear BK122; clear HB; have BK121 := n0_; have BK122 := n1_; have HB := n2_; clear n0_ n1_ n2_; (try clear hb); (try clear hb2); (try clear hk); (try clear hi)))
      repeat (go_quiet (first | ((with_reducible refine gate_dst (N := 2) rfl ?_); refine box_event ?hg (N := 2) ?hd (cs := #[.string a0_0, .int .i64 a0_1, .int .i64 a0_2, .int .i64 a0_3, .int .i64 a0_4, .int .i64 a0_5, .int .i64 a0_6, .int .i64 a0_7, .slice A0_8 l0_8.length c0_8]) (t := 28) ?hr ?_; (case hd => rfl); (case hg => rfl); (case hr => first | (go_simp; done) | (go_simp; rfl)); intro gb121 hg w40 hbox hb; have n0_ := Aside0.mk (below_step (by repeat (first | (with_reducible first | exact HB.out | apply below_alloc | apply pw_below_drewN | apply below_drew1) | exact HB.out)) hb); have n1_ := Aside0.mk (hbox); have n2_ := Aside0.mk ((by rw [hg]; exact (below_size (by repeat (first | (with_reducible first | exact HB.out | apply below_alloc | apply pw_below_drewN | apply below_drew1) | exact HB.out))) : w.heap.size ≤ gb121)); have n3_ := Aside0.mk ((by rw [hg]; exact (below_size (by repeat (first | (with_reducible first | exact HB.out | apply below_alloc | apply pw_below_drewN | apply below_drew1) | exact HB.out))) : w.heap.size ≤ gb121)); clear HB; have HB := n0_; have BK121 := n1_; have GW121 := n2_; have GE121 := n3_; clear n0_ n1_ n2_ n3_; clear hb hbox hg) | ((with_reducible refine gate_dst (N := 3) rfl ?_); refine box_event ?hg (N := 3) ?hd (cs := #[.int .i64 a1_0, .bool a1_1, .int .i64 a1_2, .int .i64 a1_3, .slice A1_4 l1_4.length c1_4]) (t := 31) ?hr ?_; (case hd => rfl); (case hg => rfl); (case hr => first | (go_simp; done) | (go_simp; rfl)); intro gb122 hg w41 hbox hb; have n0_ := Aside0.mk (blk_below (g := gb121) (o := .cells #[.string a0_0, .int .i64 a0_1, .int .i64 a0_2, .int .i64 a0_3, .int .i64 a0_4, .int .i64 a0_5, .int .i64 a0_6, .int .i64 a0_7, .slice A0_8 l0_8.length c0_8] 28 (0, 0)) (by (with_reducible repeat (first | refine blk_drewN ?_ _ | refine blk_drew ?_ | refine blk_alloc ?_ _)); exact BK121.out) hb); have n1_ := Aside0.mk (below_step (by repeat (first | (with_reducible first | exact HB.out | apply below_alloc | apply pw_below_drewN | apply below_drew1 | refine below_set ?_ GE121.out) | exact HB.out)) hb); have n2_ := Aside0.mk (hbox); have n3_ := Aside0.mk ((by rw [hg]; exact (below_size (by repeat (first | (with_reducible first | exact HB.out | apply below_alloc | apply pw_below_drewN | apply below_drew1 | refine below_set ?_ GE121.out) | exact HB.out))) : w.heap.size ≤ gb122)); have n4_ := Aside0.mk ((by rw [hg]; exact (below_size (by repeat (first | (with_reducible first | exact HB.out | apply below_alloc | apply pw_below_drewN | apply below_drew1 | refine below_set ?_ GE121.out) | exact HB.out))) : w.heap.size ≤ gb122)); have n5_ := Aside0.mk ((by rw [hg]; exact Nat.ne_of_lt (blk_lt (g := gb121) (o := .cells #[.string a0_0, .int .i64 a0_1, .int .i64 a0_2, .int .i64 a0_3, .int .i64 a0_4, .int .i64 a0_5, .int .i64 a0_6, .int .i64 a0_7, .slice A0_8 l0_8.length c0_8] 28 (0, 0)) (by (with_reducible repeat (first | refine blk_drewN ?_ _ | refine blk_drew ?_ | refine blk_alloc ?_ _)); exact BK121.out)) : gb121 ≠ gb122)); have n6_ := Aside0.mk ((by rw [hg]; exact Nat.ne_of_gt (blk_lt (g := gb121) (o := .cells #[.string a0_0, .int .i64 a0_1, .int .i64 a0_2, .int .i64 a0_3, .int .i64 a0_4, .int .i64 a0_5, .int .i64 a0_6, .int .i64 a0_7, .slice A0_8 l0_8.length c0_8] 28 (0, 0)) (by (with_reducible repeat (first | refine blk_drewN ?_ _ | refine blk_drew ?_ | refine blk_alloc ?_ _)); exact BK121.out)) : gb122 ≠ gb121)); clear BK121; clear HB; have BK121 := n0_; have HB := n1_; have BK122 := n2_; have GW122 := n3_; have GE122 := n4_; have NB121_122 := n5_; have NB122_121 := n6_; clear n0_ n1_ n2_ n3_ n4_ n5_ n6_; clear hb hbox hg; have hnb42 := NB121_122.out; have hnc42 := NB122_121.out; have hcz43_0 : w41.cell? ⟨gb121, 0, none⟩ = some (.string a0_0) := (blk_cell BK121.out 0).trans rfl; have hcz43_1 : w41.cell? ⟨gb121, 1, none⟩ = some (.int .i64 a0_1) := (blk_cell BK121.out 1).trans rfl; have hcz43_2 : w41.cell? ⟨gb121, 2, none⟩ = some (.int .i64 a0_2) := (blk_cell BK121.out 2).trans rfl; have hcz43_3 : w41.cell? ⟨gb121, 3, none⟩ = some (.int .i64 a0_3) := (blk_cell BK121.out 3).trans rfl; have hcz43_4 : w41.cell? ⟨gb121, 4, none⟩ = some (.int .i64 a0_4) := (blk_cell BK121.out 4).trans rfl; have hcz43_5 : w41.cell? ⟨gb121, 5, none⟩ = some (.int .i64 a0_5) := (blk_cell BK121.out 5).trans rfl; have hcz43_6 : w41.cell? ⟨gb121, 6, none⟩ = some (.int .i64 a0_6) := (blk_cell BK121.out 6).trans rfl; have hcz43_7 : w41.cell? ⟨gb121, 7, none⟩ = some (.int .i64 a0_7) := (blk_cell BK121.out 7).trans rfl; have hcz43_8 : w41.cell? ⟨gb121, 8, none⟩ = some (.slice A0_8 l0_8.length c0_8) := (blk_cell BK121.out 8).trans rfl; have hfz43_0 := blk_frozen BK121.out 0; have hfz43_1 := blk_frozen BK121.out 1; have hfz43_2 := blk_frozen BK121.out 2; have hfz43_3 := blk_frozen BK121.out 3; have hfz43_4 := blk_frozen BK121.out 4; have hfz43_5 := blk_frozen BK121.out 5; have hfz43_6 := blk_frozen BK121.out 6; have hfz43_7 := blk_frozen BK121.out 7; have hfz43_8 := blk_frozen BK121.out 8) | (go_at_call 45; (with_reducible refine (ZA.metrolabref18_Check.calls k a0_0 a0_1 a0_2 a0_3 a0_4 a0_5 a0_6 a0_7 _ _ l0_8 t123 _ ?side1 ?side2 A3.out).mono ?_); (case side1 => repeat (first | exact (Kd.C_below HR0_8.out HB.out) | (with_reducible refine Kd.C_alloc ?_ _) | (with_reducible refine Kd.C_drewN ?_ _) | (with_reducible refine Kd.C_drew ?_))); (case side2 => exact HC0_8.out); rintro e w44 ⟨rfl, hb⟩; have n0_ := Aside0.mk (blk_below (g := gb121) (o := .cells #[.string a0_0, .int .i64 a0_1, .int .i64 a0_2, .int .i64 a0_3, .int .i64 a0_4, .int .i64 a0_5, .int .i64 a0_6, .int .i64 a0_7, .slice A0_8 l0_8.length c0_8] 28 (0, 0)) (by (with_reducible repeat (first | refine blk_drewN ?_ _ | refine blk_drew ?_ | refine blk_alloc ?_ _)); exact BK121.out) hb); have n1_ := Aside0.mk (blk_below (g := gb122) (o := .cells #[.int .i64 a1_0, .bool a1_1, .int .i64 a1_2, .int .i64 a1_3, .slice A1_4 l1_4.length c1_4] 31 (0, 0)) (by (with_reducible repeat (first | refine blk_drewN ?_ _ | refine blk_drew ?_ | refine blk_alloc ?_ _)); exact BK122.out) hb); have n2_ := Aside0.mk (below_step (by repeat (first | (with_reducible first | exact HB.out | apply below_alloc | apply pw_below_drewN | apply below_drew1 | refine below_set ?_ GE121.out | refine below_set ?_ GE122.out) | exact HB.out)) hb); clear BK121; clear BK122; clear HB; have BK121 := n0_; have BK122 := n1_; have HB := n2_; clear n0_ n1_ n2_; (try clear hb); (try clear hb2); (try clear hk); (try clear hi); have hcz45_0 : w44.cell? ⟨gb122, 0, none⟩ = some (.int .i64 a1_0) := (blk_cell BK122.out 0).trans rfl; have hcz45_1 : w44.cell? ⟨gb122, 1, none⟩ = some (.bool a1_1) := (blk_cell BK122.out 1).trans rfl; have hcz45_2 : w44.cell? ⟨gb122, 2, none⟩ = some (.int .i64 a1_2) := (blk_cell BK122.out 2).trans rfl; have hcz45_3 : w44.cell? ⟨gb122, 3, none⟩ = some (.int .i64 a1_3) := (blk_cell BK122.out 3).trans rfl; have hcz45_4 : w44.cell? ⟨gb122, 4, none⟩ = some (.slice A1_4 l1_4.length c1_4) := (blk_cell BK122.out 4).trans rfl; have hfz45_0 := blk_frozen BK122.out 0; have hfz45_1 := blk_frozen BK122.out 1; have hfz45_2 := blk_frozen BK122.out 2; have hfz45_3 := blk_frozen BK122.out 3; have hfz45_4 := blk_frozen BK122.out 4) | (go_at_call 16; (with_reducible refine (ZA.metrolabref19_Plain.calls k a1_0 a1_1 a1_2 a1_3 _ _ l1_4 t124 _ ?side1 ?side2 A5.out).mono ?_); (case side1 => repeat (first | exact (Kd.C_below HR1_4.out HB.out) | (with_reducible refine Kd.C_alloc ?_ _) | (with_reducible refine Kd.C_drewN ?_ _) | (with_reducible refine Kd.C_drew ?_))); (case side2 => exact HC1_4.out); rintro e w46 ⟨rfl, hb⟩; have n0_ := Aside0.mk (blk_below (g := gb121) (o := .cells #[.string a0_0, .int .i64 a0_1, .int .i64 a0_2, .int .i64 a0_3, .int .i64 a0_4, .int .i64 a0_5, .int .i64 a0_6, .int .i64 a0_7, .slice A0_8 l0_8.length c0_8] 28 (0, 0)) (by (with_reducible repeat (first | refine blk_drewN ?_ _ | refine blk_drew ?_ | refine blk_alloc ?_ _)); exact BK121.out) hb); have n1_ := Aside0.mk (blk_below (g := gb122) (o := .cells #[.int .i64 a1_0, .bool a1_1, .int .i64 a1_2, .int .i64 a1_3, .slice A1_4 l1_4.length c1_4] 31 (0, 0)) (by (with_reducible repeat (first | refine blk_drewN ?_ _ | refine blk_drew ?_ | refine blk_alloc ?_ _)); exact BK122.out) hb); have n2_ := Aside0.mk (below_step (by repeat (first | (with_reducible first | exact HB.out | apply below_alloc | apply pw_below_drewN | apply below_drew1 | refine below_set ?_ GE121.out | refine below_set ?_ GE122.out) | exact HB.out)) hb); clear BK121; clear BK122; clear HB; have BK121 := n0_; have BK122 := n1_; have HB := n2_; clear n0_ n1_ n2_; (try clear hb); (try clear hb2); (try clear hk); (try clear hi))); try go_wp2_with (first | ((with_reducible refine gate_dst (N := 2) rfl ?_); refine box_event ?hg (N := 2) ?hd (cs := #[.string a0_0, .int .i64 a0_1, .int .i64 a0_2, .int .i64 a0_3, .int .i64 a0_4, .int .i64 a0_5, .int .i64 a0_6, .int .i64 a0_7, .slice A0_8 l0_8.length c0_8]) (t := 28) ?hr ?_; (case hd => rfl); (case hg => rfl); (case hr => first | (go_simp; done) | (go_simp; rfl)); intro gb121 hg w40 hbox hb; have n0_ := Aside0.mk (below_step (by repeat (first | (with_reducible first | exact HB.out | apply below_alloc | apply pw_below_drewN | apply below_drew1) | exact HB.out)) hb); have n1_ := Aside0.mk (hbox); have n2_ := Aside0.mk ((by rw [hg]; exact (below_size (by repeat (first | (with_reducible first | exact HB.out | apply below_alloc | apply pw_below_drewN | apply below_drew1) | exact HB.out))) : w.heap.size ≤ gb121)); have n3_ := Aside0.mk ((by rw [hg]; exact (below_size (by repeat (first | (with_reducible first | exact HB.out | apply below_alloc | apply pw_below_drewN | apply below_drew1) | exact HB.out))) : w.heap.size ≤ gb121)); clear HB; have HB := n0_; have BK121 := n1_; have GW121 := n2_; have GE121 := n3_; clear n0_ n1_ n2_ n3_; clear hb hbox hg) | ((with_reducible refine gate_dst (N := 3) rfl ?_); refine box_event ?hg (N := 3) ?hd (cs := #[.int .i64 a1_0, .bool a1_1, .int .i64 a1_2, .int .i64 a1_3, .slice A1_4 l1_4.length c1_4]) (t := 31) ?hr ?_; (case hd => rfl); (case hg => rfl); (case hr => first | (go_simp; done) | (go_simp; rfl)); intro gb122 hg w41 hbox hb; have n0_ := Aside0.mk (blk_below (g := gb121) (o := .cells #[.string a0_0, .int .i64 a0_1, .int .i64 a0_2, .int .i64 a0_3, .int .i64 a0_4, .int .i64 a0_5, .int .i64 a0_6, .int .i64 a0_7, .slice A0_8 l0_8.length c0_8] 28 (0, 0)) (by (with_reducible repeat (first | refine blk_drewN ?_ _ | refine blk_drew ?_ | refine blk_alloc ?_ _)); exact BK121.out) hb); have n1_ := Aside0.mk (below_step (by repeat (first | (with_reducible first | exact HB.out | apply below_alloc | apply pw_below_drewN | apply below_drew1 | refine below_set ?_ GE121.out) | exact HB.out)) hb); have n2_ := Aside0.mk (hbox); have n3_ := Aside0.mk ((by rw [hg]; exact (below_size (by repeat (first | (with_reducible first | exact HB.out | apply below_alloc | apply pw_below_drewN | apply below_drew1 | refine below_set ?_ GE121.out) | exact HB.out))) : w.heap.size ≤ gb122)); have n4_ := Aside0.mk ((by rw [hg]; exact (below_size (by repeat (first | (with_reducible first | exact HB.out | apply below_alloc | apply pw_below_drewN | apply below_drew1 | refine below_set ?_ GE121.out) | exact HB.out))) : w.heap.size ≤ gb122)); have n5_ := Aside0.mk ((by rw [hg]; exact Nat.ne_of_lt (blk_lt (g := gb121) (o := .cells #[.string a0_0, .int .i64 a0_1, .int .i64 a0_2, .int .i64 a0_3, .int .i64 a0_4, .int .i64 a0_5, .int .i64 a0_6, .int .i64 a0_7, .slice A0_8 l0_8.length c0_8] 28 (0, 0)) (by (with_reducible repeat (first | refine blk_drewN ?_ _ | refine blk_drew ?_ | refine blk_alloc ?_ _)); exact BK121.out)) : gb121 ≠ gb122)); have n6_ := Aside0.mk ((by rw [hg]; exact Nat.ne_of_gt (blk_lt (g := gb121) (o := .cells #[.string a0_0, .int .i64 a0_1, .int .i64 a0_2, .int .i64 a0_3, .int .i64 a0_4, .int .i64 a0_5, .int .i64 a0_6, .int .i64 a0_7, .slice A0_8 l0_8.length c0_8] 28 (0, 0)) (by (with_reducible repeat (first | refine blk_drewN ?_ _ | refine blk_drew ?_ | refine blk_alloc ?_ _)); exact BK121.out)) : gb122 ≠ gb121)); clear BK121; clear HB; have BK121 := n0_; have HB := n1_; have BK122 := n2_; have GW122 := n3_; have GE122 := n4_; have NB121_122 := n5_; have NB122_121 := n6_; clear n0_ n1_ n2_ n3_ n4_ n5_ n6_; clear hb hbox hg; have hnb42 := NB121_122.out; have hnc42 := NB122_121.out; have hcz43_0 : w41.cell? ⟨gb121, 0, none⟩ = some (.string a0_0) := (blk_cell BK121.out 0).trans rfl; have hcz43_1 : w41.cell? ⟨gb121, 1, none⟩ = some (.int .i64 a0_1) := (blk_cell BK121.out 1).trans rfl; have hcz43_2 : w41.cell? ⟨gb121, 2, none⟩ = some (.int .i64 a0_2) := (blk_cell BK121.out 2).trans rfl; have hcz43_3 : w41.cell? ⟨gb121, 3, none⟩ = some (.int .i64 a0_3) := (blk_cell BK121.out 3).trans rfl; have hcz43_4 : w41.cell? ⟨gb121, 4, none⟩ = some (.int .i64 a0_4) := (blk_cell BK121.out 4).trans rfl; have hcz43_5 : w41.cell? ⟨gb121, 5, none⟩ = some (.int .i64 a0_5) := (blk_cell BK121.out 5).trans rfl; have hcz43_6 : w41.cell? ⟨gb121, 6, none⟩ = some (.int .i64 a0_6) := (blk_cell BK121.out 6).trans rfl; have hcz43_7 : w41.cell? ⟨gb121, 7, none⟩ = some (.int .i64 a0_7) := (blk_cell BK121.out 7).trans rfl; have hcz43_8 : w41.cell? ⟨gb121, 8, none⟩ = some (.slice A0_8 l0_8.length c0_8) := (blk_cell BK121.out 8).trans rfl; have hfz43_0 := blk_frozen BK121.out 0; have hfz43_1 := blk_frozen BK121.out 1; have hfz43_2 := blk_frozen BK121.out 2; have hfz43_3 := blk_frozen BK121.out 3; have hfz43_4 := blk_frozen BK121.out 4; have hfz43_5 := blk_frozen BK121.out 5; have hfz43_6 := blk_frozen BK121.out 6; have hfz43_7 := blk_frozen BK121.out 7; have hfz43_8 := blk_frozen BK121.out 8) | (go_at_call 45; (with_reducible refine (ZA.metrolabref18_Check.calls k a0_0 a0_1 a0_2 a0_3 a0_4 a0_5 a0_6 a0_7 _ _ l0_8 t123 _ ?side1 ?side2 A3.out).mono ?_); (case side1 => repeat (first | exact (Kd.C_below HR0_8.out HB.out) | (with_reducible refine Kd.C_alloc ?_ _) | (with_reducible refine Kd.C_drewN ?_ _) | (with_reducible refine Kd.C_drew ?_))); (case side2 => exact HC0_8.out); rintro e w44 ⟨rfl, hb⟩; have n0_ := Aside0.mk (blk_below (g := gb121) (o := .cells #[.string a0_0, .int .i64 a0_1, .int .i64 a0_2, .int .i64 a0_3, .int .i64 a0_4, .int .i64 a0_5, .int .i64 a0_6, .int .i64 a0_7, .slice A0_8 l0_8.length c0_8] 28 (0, 0)) (by (with_reducible repeat (first | refine blk_drewN ?_ _ | refine blk_drew ?_ | refine blk_alloc ?_ _)); exact BK121.out) hb); have n1_ := Aside0.mk (blk_below (g := gb122) (o := .cells #[.int .i64 a1_0, .bool a1_1, .int .i64 a1_2, .int .i64 a1_3, .slice A1_4 l1_4.length c1_4] 31 (0, 0)) (by (with_reducible repeat (first | refine blk_drewN ?_ _ | refine blk_drew ?_ | refine blk_alloc ?_ _)); exact BK122.out) hb); have n2_ := Aside0.mk (below_step (by repeat (first | (with_reducible first | exact HB.out | apply below_alloc | apply pw_below_drewN | apply below_drew1 | refine below_set ?_ GE121.out | refine below_set ?_ GE122.out) | exact HB.out)) hb); clear BK121; clear BK122; clear HB; have BK121 := n0_; have BK122 := n1_; have HB := n2_; clear n0_ n1_ n2_; (try clear hb); (try clear hb2); (try clear hk); (try clear hi); have hcz45_0 : w44.cell? ⟨gb122, 0, none⟩ = some (.int .i64 a1_0) := (blk_cell BK122.out 0).trans rfl; have hcz45_1 : w44.cell? ⟨gb122, 1, none⟩ = some (.bool a1_1) := (blk_cell BK122.out 1).trans rfl; have hcz45_2 : w44.cell? ⟨gb122, 2, none⟩ = some (.int .i64 a1_2) := (blk_cell BK122.out 2).trans rfl; have hcz45_3 : w44.cell? ⟨gb122, 3, none⟩ = some (.int .i64 a1_3) := (blk_cell BK122.out 3).trans rfl; have hcz45_4 : w44.cell? ⟨gb122, 4, none⟩ = some (.slice A1_4 l1_4.length c1_4) := (blk_cell BK122.out 4).trans rfl; have hfz45_0 := blk_frozen BK122.out 0; have hfz45_1 := blk_frozen BK122.out 1; have hfz45_2 := blk_frozen BK122.out 2; have hfz45_3 := blk_frozen BK122.out 3; have hfz45_4 := blk_frozen BK122.out 4) | (go_at_call 16; (with_reducible refine (ZA.metrolabref19_Plain.calls k a1_0 a1_1 a1_2 a1_3 _ _ l1_4 t124 _ ?side1 ?side2 A5.out).mono ?_); (case side1 => repeat (first | exact (Kd.C_below HR1_4.out HB.out) | (with_reducible refine Kd.C_alloc ?_ _) | (with_reducible refine Kd.C_drewN ?_ _) | (with_reducible refine Kd.C_drew ?_))); (case side2 => exact HC1_4.out); rintro e w46 ⟨rfl, hb⟩; have n0_ := Aside0.mk (blk_below (g := gb121) (o := .cells #[.string a0_0, .int .i64 a0_1, .int .i64 a0_2, .int .i64 a0_3, .int .i64 a0_4, .int .i64 a0_5, .int .i64 a0_6, .int .i64 a0_7, .slice A0_8 l0_8.length c0_8] 28 (0, 0)) (by (with_reducible repeat (first | refine blk_drewN ?_ _ | refine blk_drew ?_ | refine blk_alloc ?_ _)); exact BK121.out) hb); have n1_ := Aside0.mk (blk_below (g := gb122) (o := .cells #[.int .i64 a1_0, .bool a1_1, .int .i64 a1_2, .int .i64 a1_3, .slice A1_4 l1_4.length c1_4] 31 (0, 0)) (by (with_reducible repeat (first | refine blk_drewN ?_ _ | refine blk_drew ?_ | refine blk_alloc ?_ _)); exact BK122.out) hb); have n2_ := Aside0.mk (below_step (by repeat (first | (with_reducible first | exact HB.out | apply below_alloc | apply pw_below_drewN | apply below_drew1 | refine below_set ?_ GE121.out | refine below_set ?_ GE122.out) | exact HB.out)) hb); clear BK121; clear BK122; clear HB; have BK121 := n0_; have BK122 := n1_; have HB := n2_; clear n0_ n1_ n2_; (try clear hb); (try clear hb2); (try clear hk); (try clear hi))))
      go_ret
      exact ⟨by first | rfl | (simp [errW_none, errW_some] <;> rfl) | (simp [*, errW_none, errW_some] <;> rfl), by repeat (first | (with_reducible first | exact HB.out | apply below_alloc | apply pw_below_drewN | apply below_drew1 | refine below_set ?_ GE121.out | refine below_set ?_ GE122.out) | exact HB.out)⟩
  · rw [if_neg c4] at H
    have c4b0 : (t123 == 0) = false := beq_eq_false_iff_ne.mpr c4
    have c4b1 : (t123 != 0) = true := bne_iff_ne.mpr c4
    obtain rfl := Option.some.inj H
    go_enter Tryz.func14, Tryz.ntmps14
    go_wp2_with (first | ((with_reducible refine gate_dst (N := 2) rfl ?_); refine box_event ?hg (N := 2) ?hd (cs := #[.string a0_0, .int .i64 a0_1, .int .i64 a0_2, .int .i64 a0_3, .int .i64 a0_4, .int .i64 a0_5, .int .i64 a0_6, .int .i64 a0_7, .slice A0_8 l0_8.length c0_8]) (t := 28) ?hr ?_; (case hd => rfl); (case hg => rfl); (case hr => first | (go_simp; done) | (go_simp; rfl)); intro gb121 hg w47 hbox hb; have n0_ := Aside0.mk (below_step (by repeat (first | (with_reducible first | exact HB.out | apply below_alloc | apply pw_below_drewN | apply below_drew1) | exact HB.out)) hb); have n1_ := Aside0.mk (hbox); have n2_ := Aside0.mk ((by rw [hg]; exact (below_size (by repeat (first | (with_reducible first | exact HB.out | apply below_alloc | apply pw_below_drewN | apply below_drew1) | exact HB.out))) : w.heap.size ≤ gb121)); have n3_ := Aside0.mk ((by rw [hg]; exact (below_size (by repeat (first | (with_reducible first | exact HB.out | apply below_alloc | apply pw_below_drewN | apply below_drew1) | exact HB.out))) : w.heap.size ≤ gb121)); clear HB; have HB := n0_; have BK121 := n1_; have GW121 := n2_; have GE121 := n3_; clear n0_ n1_ n2_ n3_; clear hb hbox hg) | ((with_reducible refine gate_dst (N := 3) rfl ?_); refine box_event ?hg (N := 3) ?hd (cs := #[.int .i64 a1_0, .bool a1_1, .int .i64 a1_2, .int .i64 a1_3, .slice A1_4 l1_4.length c1_4]) (t := 31) ?hr ?_; (case hd => rfl); (case hg => rfl); (case hr => first | (go_simp; done) | (go_simp; rfl)); intro gb122 hg w48 hbox hb; have n0_ := Aside0.mk (blk_below (g := gb121) (o := .cells #[.string a0_0, .int .i64 a0_1, .int .i64 a0_2, .int .i64 a0_3, .int .i64 a0_4, .int .i64 a0_5, .int .i64 a0_6, .int .i64 a0_7, .slice A0_8 l0_8.length c0_8] 28 (0, 0)) (by (with_reducible repeat (first | refine blk_drewN ?_ _ | refine blk_drew ?_ | refine blk_alloc ?_ _)); exact BK121.out) hb); have n1_ := Aside0.mk (below_step (by repeat (first | (with_reducible first | exact HB.out | apply below_alloc | apply pw_below_drewN | apply below_drew1 | refine below_set ?_ GE121.out) | exact HB.out)) hb); have n2_ := Aside0.mk (hbox); have n3_ := Aside0.mk ((by rw [hg]; exact (below_size (by repeat (first | (with_reducible first | exact HB.out | apply below_alloc | apply pw_below_drewN | apply below_drew1 | refine below_set ?_ GE121.out) | exact HB.out))) : w.heap.size ≤ gb122)); have n4_ := Aside0.mk ((by rw [hg]; exact (below_size (by repeat (first | (with_reducible first | exact HB.out | apply below_alloc | apply pw_below_drewN | apply below_drew1 | refine below_set ?_ GE121.out) | exact HB.out))) : w.heap.size ≤ gb122)); have n5_ := Aside0.mk ((by rw [hg]; exact Nat.ne_of_lt (blk_lt (g := gb121) (o := .cells #[.string a0_0, .int .i64 a0_1, .int .i64 a0_2, .int .i64 a0_3, .int .i64 a0_4, .int .i64 a0_5, .int .i64 a0_6, .int .i64 a0_7, .slice A0_8 l0_8.length c0_8] 28 (0, 0)) (by (with_reducible repeat (first | refine blk_drewN ?_ _ | refine blk_drew ?_ | refine blk_alloc ?_ _)); exact BK121.out)) : gb121 ≠ gb122)); have n6_ := Aside0.mk ((by rw [hg]; exact Nat.ne_of_gt (blk_lt (g := gb121) (o := .cells #[.string a0_0, .int .i64 a0_1, .int .i64 a0_2, .int .i64 a0_3, .int .i64 a0_4, .int .i64 a0_5, .int .i64 a0_6, .int .i64 a0_7, .slice A0_8 l0_8.length c0_8] 28 (0, 0)) (by (with_reducible repeat (first | refine blk_drewN ?_ _ | refine blk_drew ?_ | refine blk_alloc ?_ _)); exact BK121.out)) : gb122 ≠ gb121)); clear BK121; clear HB; have BK121 := n0_; have HB := n1_; have BK122 := n2_; have GW122 := n3_; have GE122 := n4_; have NB121_122 := n5_; have NB122_121 := n6_; clear n0_ n1_ n2_ n3_ n4_ n5_ n6_; clear hb hbox hg; have hnb49 := NB121_122.out; have hnc49 := NB122_121.out; have hcz50_0 : w48.cell? ⟨gb121, 0, none⟩ = some (.string a0_0) := (blk_cell BK121.out 0).trans rfl; have hcz50_1 : w48.cell? ⟨gb121, 1, none⟩ = some (.int .i64 a0_1) := (blk_cell BK121.out 1).trans rfl; have hcz50_2 : w48.cell? ⟨gb121, 2, none⟩ = some (.int .i64 a0_2) := (blk_cell BK121.out 2).trans rfl; have hcz50_3 : w48.cell? ⟨gb121, 3, none⟩ = some (.int .i64 a0_3) := (blk_cell BK121.out 3).trans rfl; have hcz50_4 : w48.cell? ⟨gb121, 4, none⟩ = some (.int .i64 a0_4) := (blk_cell BK121.out 4).trans rfl; have hcz50_5 : w48.cell? ⟨gb121, 5, none⟩ = some (.int .i64 a0_5) := (blk_cell BK121.out 5).trans rfl; have hcz50_6 : w48.cell? ⟨gb121, 6, none⟩ = some (.int .i64 a0_6) := (blk_cell BK121.out 6).trans rfl; have hcz50_7 : w48.cell? ⟨gb121, 7, none⟩ = some (.int .i64 a0_7) := (blk_cell BK121.out 7).trans rfl; have hcz50_8 : w48.cell? ⟨gb121, 8, none⟩ = some (.slice A0_8 l0_8.length c0_8) := (blk_cell BK121.out 8).trans rfl; have hfz50_0 := blk_frozen BK121.out 0; have hfz50_1 := blk_frozen BK121.out 1; have hfz50_2 := blk_frozen BK121.out 2; have hfz50_3 := blk_frozen BK121.out 3; have hfz50_4 := blk_frozen BK121.out 4; have hfz50_5 := blk_frozen BK121.out 5; have hfz50_6 := blk_frozen BK121.out 6; have hfz50_7 := blk_frozen BK121.out 7; have hfz50_8 := blk_frozen BK121.out 8) | (go_at_call 45; (with_reducible refine (ZA.metrolabref18_Check.calls k a0_0 a0_1 a0_2 a0_3 a0_4 a0_5 a0_6 a0_7 _ _ l0_8 t123 _ ?side1 ?side2 A3.out).mono ?_); (case side1 => repeat (first | exact (Kd.C_below HR0_8.out HB.out) | (with_reducible refine Kd.C_alloc ?_ _) | (with_reducible refine Kd.C_drewN ?_ _) | (with_reducible refine Kd.C_drew ?_))); (case side2 => exact HC0_8.out); rintro e w51 ⟨rfl, hb⟩; have n0_ := Aside0.mk (blk_below (g := gb121) (o := .cells #[.string a0_0, .int .i64 a0_1, .int .i64 a0_2, .int .i64 a0_3, .int .i64 a0_4, .int .i64 a0_5, .int .i64 a0_6, .int .i64 a0_7, .slice A0_8 l0_8.length c0_8] 28 (0, 0)) (by (with_reducible repeat (first | refine blk_drewN ?_ _ | refine blk_drew ?_ | refine blk_alloc ?_ _)); exact BK121.out) hb); have n1_ := Aside0.mk (blk_below (g := gb122) (o := .cells #[.int .i64 a1_0, .bool a1_1, .int .i64 a1_2, .int .i64 a1_3, .slice A1_4 l1_4.length c1_4] 31 (0, 0)) (by (with_reducible repeat (first | refine blk_drewN ?_ _ | refine blk_drew ?_ | refine blk_alloc ?_ _)); exact BK122.out) hb); have n2_ := Aside0.mk (below_step (by repeat (first | (with_reducible first | exact HB.out | apply below_alloc | apply pw_below_drewN | apply below_drew1 | refine below_set ?_ GE121.out | refine below_set ?_ GE122.out) | exact HB.out)) hb); clear BK121; clear BK122; clear HB; have BK121 := n0_; have BK122 := n1_; have HB := n2_; clear n0_ n1_ n2_; (try clear hb); (try clear hb2); (try clear hk); (try clear hi)))
    repeat (go_quiet (first | ((with_reducible refine gate_dst (N := 2) rfl ?_); refine box_event ?hg (N := 2) ?hd (cs := #[.string a0_0, .int .i64 a0_1, .int .i64 a0_2, .int .i64 a0_3, .int .i64 a0_4, .int .i64 a0_5, .int .i64 a0_6, .int .i64 a0_7, .slice A0_8 l0_8.length c0_8]) (t := 28) ?hr ?_; (case hd => rfl); (case hg => rfl); (case hr => first | (go_simp; done) | (go_simp; rfl)); intro gb121 hg w47 hbox hb; have n0_ := Aside0.mk (below_step (by repeat (first | (with_reducible first | exact HB.out | apply below_alloc | apply pw_below_drewN | apply below_drew1) | exact HB.out)) hb); have n1_ := Aside0.mk (hbox); have n2_ := Aside0.mk ((by rw [hg]; exact (below_size (by repeat (first | (with_reducible first | exact HB.out | apply below_alloc | apply pw_below_drewN | apply below_drew1) | exact HB.out))) : w.heap.size ≤ gb121)); have n3_ := Aside0.mk ((by rw [hg]; exact (below_size (by repeat (first | (with_reducible first | exact HB.out | apply below_alloc | apply pw_below_drewN | apply below_drew1) | exact HB.out))) : w.heap.size ≤ gb121)); clear HB; have HB := n0_; have BK121 := n1_; have GW121 := n2_; have GE121 := n3_; clear n0_ n1_ n2_ n3_; clear hb hbox hg) | ((with_reducible refine gate_dst (N := 3) rfl ?_); refine box_event ?hg (N := 3) ?hd (cs := #[.int .i64 a1_0, .bool a1_1, .int .i64 a1_2, .int .i64 a1_3, .slice A1_4 l1_4.length c1_4]) (t := 31) ?hr ?_; (case hd => rfl); (case hg => rfl); (case hr => first | (go_simp; done) | (go_simp; rfl)); intro gb122 hg w48 hbox hb; have n0_ := Aside0.mk (blk_below (g := gb121) (o := .cells #[.string a0_0, .int .i64 a0_1, .int .i64 a0_2, .int .i64 a0_3, .int .i64 a0_4, .int .i64 a0_5, .int .i64 a0_6, .int .i64 a0_7, .slice A0_8 l0_8.length c0_8] 28 (0, 0)) (by (with_reducible repeat (first | refine blk_drewN ?_ _ | refine blk_drew ?_ | refine blk_alloc ?_ _)); exact BK121.out) hb); have n1_ := Aside0.mk (below_step (by repeat (first | (with_reducible first | exact HB.out | apply below_alloc | apply pw_below_drewN | apply below_drew1 | refine below_set ?_ GE121.out) | exact HB.out)) hb); have n2_ := Aside0.mk (hbox); have n3_ := Aside0.mk ((by rw [hg]; exact (below_size (by repeat (first | (with_reducible first | exact HB.out | apply below_alloc | apply pw_below_drewN | apply below_drew1 | refine below_set ?_ GE121.out) | exact HB.out))) : w.heap.size ≤ gb122)); have n4_ := Aside0.mk ((by rw [hg]; exact (below_size (by repeat (first | (with_reducible first | exact HB.out | apply below_alloc | apply pw_below_drewN | apply below_drew1 | refine below_set ?_ GE121.out) | exact HB.out))) : w.heap.size ≤ gb122)); have n5_ := Aside0.mk ((by rw [hg]; exact Nat.ne_of_lt (blk_lt (g := gb121) (o := .cells #[.string a0_0, .int .i64 a0_1, .int .i64 a0_2, .int .i64 a0_3, .int .i64 a0_4, .int .i64 a0_5, .int .i64 a0_6, .int .i64 a0_7, .slice A0_8 l0_8.length c0_8] 28 (0, 0)) (by (with_reducible repeat (first | refine blk_drewN ?_ _ | refine blk_drew ?_ | refine blk_alloc ?_ _)); exact BK121.out)) : gb121 ≠ gb122)); have n6_ := Aside0.mk ((by rw [hg]; exact Nat.ne_of_gt (blk_lt (g := gb121) (o := .cells #[.string a0_0, .int .i64 a0_1, .int .i64 a0_2, .int .i64 a0_3, .int .i64 a0_4, .int .i64 a0_5, .int .i64 a0_6, .int .i64 a0_7, .slice A0_8 l0_8.length c0_8] 28 (0, 0)) (by (with_reducible repeat (first | refine blk_drewN ?_ _ | refine blk_drew ?_ | refine blk_alloc ?_ _)); exact BK121.out)) : gb122 ≠ gb121)); clear BK121; clear HB; have BK121 := n0_; have HB := n1_; have BK122 := n2_; have GW122 := n3_; have GE122 := n4_; have NB121_122 := n5_; have NB122_121 := n6_; clear n0_ n1_ n2_ n3_ n4_ n5_ n6_; clear hb hbox hg; have hnb49 := NB121_122.out; have hnc49 := NB122_121.out; have hcz50_0 : w48.cell? ⟨gb121, 0, none⟩ = some (.string a0_0) := (blk_cell BK121.out 0).trans rfl; have hcz50_1 : w48.cell? ⟨gb121, 1, none⟩ = some (.int .i64 a0_1) := (blk_cell BK121.out 1).trans rfl; have hcz50_2 : w48.cell? ⟨gb121, 2, none⟩ = some (.int .i64 a0_2) := (blk_cell BK121.out 2).trans rfl; have hcz50_3 : w48.cell? ⟨gb121, 3, none⟩ = some (.int .i64 a0_3) := (blk_cell BK121.out 3).trans rfl; have hcz50_4 : w48.cell? ⟨gb121, 4, none⟩ = some (.int .i64 a0_4) := (blk_cell BK121.out 4).trans rfl; have hcz50_5 : w48.cell? ⟨gb121, 5, none⟩ = some (.int .i64 a0_5) := (blk_cell BK121.out 5).trans rfl; have hcz50_6 : w48.cell? ⟨gb121, 6, none⟩ = some (.int .i64 a0_6) := (blk_cell BK121.out 6).trans rfl; have hcz50_7 : w48.cell? ⟨gb121, 7, none⟩ = some (.int .i64 a0_7) := (blk_cell BK121.out 7).trans rfl; have hcz50_8 : w48.cell? ⟨gb121, 8, none⟩ = some (.slice A0_8 l0_8.length c0_8) := (blk_cell BK121.out 8).trans rfl; have hfz50_0 := blk_frozen BK121.out 0; have hfz50_1 := blk_frozen BK121.out 1; have hfz50_2 := blk_frozen BK121.out 2; have hfz50_3 := blk_frozen BK121.out 3; have hfz50_4 := blk_frozen BK121.out 4; have hfz50_5 := blk_frozen BK121.out 5; have hfz50_6 := blk_frozen BK121.out 6; have hfz50_7 := blk_frozen BK121.out 7; have hfz50_8 := blk_frozen BK121.out 8) | (go_at_call 45; (with_reducible refine (ZA.metrolabref18_Check.calls k a0_0 a0_1 a0_2 a0_3 a0_4 a0_5 a0_6 a0_7 _ _ l0_8 t123 _ ?side1 ?side2 A3.out).mono ?_); (case side1 => repeat (first | exact (Kd.C_below HR0_8.out HB.out) | (with_reducible refine Kd.C_alloc ?_ _) | (with_reducible refine Kd.C_drewN ?_ _) | (with_reducible refine Kd.C_drew ?_))); (case side2 => exact HC0_8.out); rintro e w51 ⟨rfl, hb⟩; have n0_ := Aside0.mk (blk_below (g := gb121) (o := .cells #[.string a0_0, .int .i64 a0_1, .int .i64 a0_2, .int .i64 a0_3, .int .i64 a0_4, .int .i64 a0_5, .int .i64 a0_6, .int .i64 a0_7, .slice A0_8 l0_8.length c0_8] 28 (0, 0)) (by (with_reducible repeat (first | refine blk_drewN ?_ _ | refine blk_drew ?_ | refine blk_alloc ?_ _)); exact BK121.out) hb); have n1_ := Aside0.mk (blk_below (g := gb122) (o := .cells #[.int .i64 a1_0, .bool a1_1, .int .i64 a1_2, .int .i64 a1_3, .slice A1_4 l1_4.length c1_4] 31 (0, 0)) (by (with_reducible repeat (first | refine blk_drewN ?_ _ | refine blk_drew ?_ | refine blk_alloc ?_ _)); exact BK122.out) hb); have n2_ := Aside0.mk (below_step (by repeat (first | (with_reducible first | exact HB.out | apply below_alloc | apply pw_below_drewN | apply below_drew1 | refine below_set ?_ GE121.out | refine below_set ?_ GE122.out) | exact HB.out)) hb); clear BK121; clear BK122; clear HB; have BK121 := n0_; have BK122 := n1_; have HB := n2_; clear n0_ n1_ n2_; (try clear hb); (try clear hb2); (try clear hk); (try clear hi))); try go_wp2_with (first | ((with_reducible refine gate_dst (N := 2) rfl ?_); refine box_event ?hg (N := 2) ?hd (cs := #[.string a0_0, .int .i64 a0_1, .int .i64 a0_2, .int .i64 a0_3, .int .i64 a0_4, .int .i64 a0_5, .int .i64 a0_6, .int .i64 a0_7, .slice A0_8 l0_8.length c0_8]) (t := 28) ?hr ?_; (case hd => rfl); (case hg => rfl); (case hr => first | (go_simp; done) | (go_simp; rfl)); intro gb121 hg w47 hbox hb; have n0_ := Aside0.mk (below_step (by repeat (first | (with_reducible first | exact HB.out | apply below_alloc | apply pw_below_drewN | apply below_drew1) | exact HB.out)) hb); have n1_ := Aside0.mk (hbox); have n2_ := Aside0.mk ((by rw [hg]; exact (below_size (by repeat (first | (with_reducible first | exact HB.out | apply below_alloc | apply pw_below_drewN | apply below_drew1) | exact HB.out))) : w.heap.size ≤ gb121)); have n3_ := Aside0.mk ((by rw [hg]; exact (below_size (by repeat (first | (with_reducible first | exact HB.out | apply below_alloc | apply pw_below_drewN | apply below_drew1) | exact HB.out))) : w.heap.size ≤ gb121)); clear HB; have HB := n0_; have BK121 := n1_; have GW121 := n2_; have GE121 := n3_; clear n0_ n1_ n2_ n3_; clear hb hbox hg) | ((with_reducible refine gate_dst (N := 3) rfl ?_); refine box_event ?hg (N := 3) ?hd (cs := #[.int .i64 a1_0, .bool a1_1, .int .i64 a1_2, .int .i64 a1_3, .slice A1_4 l1_4.length c1_4]) (t := 31) ?hr ?_; (case hd => rfl); (case hg => rfl); (case hr => first | (go_simp; done) | (go_simp; rfl)); intro gb122 hg w48 hbox hb; have n0_ := Aside0.mk (blk_below (g := gb121) (o := .cells #[.string a0_0, .int .i64 a0_1, .int .i64 a0_2, .int .i64 a0_3, .int .i64 a0_4, .int .i64 a0_5, .int .i64 a0_6, .int .i64 a0_7, .slice A0_8 l0_8.length c0_8] 28 (0, 0)) (by (with_reducible repeat (first | refine blk_drewN ?_ _ | refine blk_drew ?_ | refine blk_alloc ?_ _)); exact BK121.out) hb); have n1_ := Aside0.mk (below_step (by repeat (first | (with_reducible first | exact HB.out | apply below_alloc | apply pw_below_drewN | apply below_drew1 | refine below_set ?_ GE121.out) | exact HB.out)) hb); have n2_ := Aside0.mk (hbox); have n3_ := Aside0.mk ((by rw [hg]; exact (below_size (by repeat (first | (with_reducible first | exact HB.out | apply below_alloc | apply pw_below_drewN | apply below_drew1 | refine below_set ?_ GE121.out) | exact HB.out))) : w.heap.size ≤ gb122)); have n4_ := Aside0.mk ((by rw [hg]; exact (below_size (by repeat (first | (with_reducible first | exact HB.out | apply below_alloc | apply pw_below_drewN | apply below_drew1 | refine below_set ?_ GE121.out) | exact HB.out))) : w.heap.size ≤ gb122)); have n5_ := Aside0.mk ((by rw [hg]; exact Nat.ne_of_lt (blk_lt (g := gb121) (o := .cells #[.string a0_0, .int .i64 a0_1, .int .i64 a0_2, .int .i64 a0_3, .int .i64 a0_4, .int .i64 a0_5, .int .i64 a0_6, .int .i64 a0_7, .slice A0_8 l0_8.length c0_8] 28 (0, 0)) (by (with_reducible repeat (first | refine blk_drewN ?_ _ | refine blk_drew ?_ | refine blk_alloc ?_ _)); exact BK121.out)) : gb121 ≠ gb122)); have n6_ := Aside0.mk ((by rw [hg]; exact Nat.ne_of_gt (blk_lt (g := gb121) (o := .cells #[.string a0_0, .int .i64 a0_1, .int .i64 a0_2, .int .i64 a0_3, .int .i64 a0_4, .int .i64 a0_5, .int .i64 a0_6, .int .i64 a0_7, .slice A0_8 l0_8.length c0_8] 28 (0, 0)) (by (with_reducible repeat (first | refine blk_drewN ?_ _ | refine blk_drew ?_ | refine blk_alloc ?_ _)); exact BK121.out)) : gb122 ≠ gb121)); clear BK121; clear HB; have BK121 := n0_; have HB := n1_; have BK122 := n2_; have GW122 := n3_; have GE122 := n4_; have NB121_122 := n5_; have NB122_121 := n6_; clear n0_ n1_ n2_ n3_ n4_ n5_ n6_; clear hb hbox hg; have hnb49 := NB121_122.out; have hnc49 := NB122_121.out; have hcz50_0 : w48.cell? ⟨gb121, 0, none⟩ = some (.string a0_0) := (blk_cell BK121.out 0).trans rfl; have hcz50_1 : w48.cell? ⟨gb121, 1, none⟩ = some (.int .i64 a0_1) := (blk_cell BK121.out 1).trans rfl; have hcz50_2 : w48.cell? ⟨gb121, 2, none⟩ = some (.int .i64 a0_2) := (blk_cell BK121.out 2).trans rfl; have hcz50_3 : w48.cell? ⟨gb121, 3, none⟩ = some (.int .i64 a0_3) := (blk_cell BK121.out 3).trans rfl; have hcz50_4 : w48.cell? ⟨gb121, 4, none⟩ = some (.int .i64 a0_4) := (blk_cell BK121.out 4).trans rfl; have hcz50_5 : w48.cell? ⟨gb121, 5, none⟩ = some (.int .i64 a0_5) := (blk_cell BK121.out 5).trans rfl; have hcz50_6 : w48.cell? ⟨gb121, 6, none⟩ = some (.int .i64 a0_6) := (blk_cell BK121.out 6).trans rfl; have hcz50_7 : w48.cell? ⟨gb121, 7, none⟩ = some (.int .i64 a0_7) := (blk_cell BK121.out 7).trans rfl; have hcz50_8 : w48.cell? ⟨gb121, 8, none⟩ = some (.slice A0_8 l0_8.length c0_8) := (blk_cell BK121.out 8).trans rfl; have hfz50_0 := blk_frozen BK121.out 0; have hfz50_1 := blk_frozen BK121.out 1; have hfz50_2 := blk_frozen BK121.out 2; have hfz50_3 := blk_frozen BK121.out 3; have hfz50_4 := blk_frozen BK121.out 4; have hfz50_5 := blk_frozen BK121.out 5; have hfz50_6 := blk_frozen BK121.out 6; have hfz50_7 := blk_frozen BK121.out 7; have hfz50_8 := blk_frozen BK121.out 8) | (go_at_call 45; (with_reducible refine (ZA.metrolabref18_Check.calls k a0_0 a0_1 a0_2 a0_3 a0_4 a0_5 a0_6 a0_7 _ _ l0_8 t123 _ ?side1 ?side2 A3.out).mono ?_); (case side1 => repeat (first | exact (Kd.C_below HR0_8.out HB.out) | (with_reducible refine Kd.C_alloc ?_ _) | (with_reducible refine Kd.C_drewN ?_ _) | (with_reducible refine Kd.C_drew ?_))); (case side2 => exact HC0_8.out); rintro e w51 ⟨rfl, hb⟩; have n0_ := Aside0.mk (blk_below (g := gb121) (o := .cells #[.string a0_0, .int .i64 a0_1, .int .i64 a0_2, .int .i64 a0_3, .int .i64 a0_4, .int .i64 a0_5, .int .i64 a0_6, .int .i64 a0_7, .slice A0_8 l0_8.length c0_8] 28 (0, 0)) (by (with_reducible repeat (first | refine blk_drewN ?_ _ | refine blk_drew ?_ | refine blk_alloc ?_ _)); exact BK121.out) hb); have n1_ := Aside0.mk (blk_below (g := gb122) (o := .cells #[.int .i64 a1_0, .bool a1_1, .int .i64 a1_2, .int .i64 a1_3, .slice A1_4 l1_4.length c1_4] 31 (0, 0)) (by (with_reducible repeat (first | refine blk_drewN ?_ _ | refine blk_drew ?_ | refine blk_alloc ?_ _)); exact BK122.out) hb); have n2_ := Aside0.mk (below_step (by repeat (first | (with_reducible first | exact HB.out | apply below_alloc | apply pw_below_drewN | apply below_drew1 | refine below_set ?_ GE121.out | refine below_set ?_ GE122.out) | exact HB.out)) hb); clear BK121; clear BK122; clear HB; have BK121 := n0_; have BK122 := n1_; have HB := n2_; clear n0_ n1_ n2_; (try clear hb); (try clear hb2); (try clear hk); (try clear hi))))
    go_ret
    exact ⟨by first | rfl | (simp [errW_none, errW_some] <;> rfl) | (simp [*, errW_none, errW_some] <;> rfl), by repeat (first | (with_reducible first | exact HB.out | apply below_alloc | apply pw_below_drewN | apply below_drew1 | refine below_set ?_ GE121.out | refine below_set ?_ GE122.out) | exact HB.out)⟩
end Go.Proofs.YtkohjcfmcliioaaGreatDoor.ZU
namespace Go.Proofs.YtkohjcfmcliioaaGreatDoor.ZU
open Go.Proofs.YtkohjcfmcliioaaGreatDoor.ZA (errW errW_none errW_some S76 z76 k76 k76_open k76_mkM rd_T76 at_T76 S31 z31 k31 k31_open k31_mk rd_T31 at_T31)
open Go.RowKit Go.Proofs.YtkohjcfmcliioaaGreatDoorW.PrintWords Go.Proofs.YtkohjcfmcliioaaGreatDoorW.PrintLast Go.Proofs.YtkohjcfmcliioaaGreatDoorW.PrintMore
attribute [local go_sem] max2_int min2_int max_two min_two max_three min_three max_four min_four   -- for this text's walks alone
set_option linter.unusedVariables false
set_option linter.unusedSimpArgs false
mutual
def metrolabref19_All.l0 : Nat → Int → ByteArray → Int → Int → Int → Int → Int → Int → Int → List (S31) → Option (Int)
  | 0, _, _, _, _, _, _, _, _, _, _ => none
  | k + 1, x4, x128000, x128001, x128002, x128003, x128004, x128005, x128006, x128007, x128008 => if x4 < (x128008.length : Int) then (if 0 ≤ x4 then ((metrolabref19_Check.f k x128000 x128001 x128002 x128003 x128004 x128005 x128006 x128007 x128008 ((rd_T31 x128008 x4).f0) ((rd_T31 x128008 x4).f1) ((rd_T31 x128008 x4).f2) ((rd_T31 x128008 x4).f3) ((rd_T31 x128008 x4).f4)).bind fun t130 => (if t130 = 0 then (metrolabref19_All.l1 k x4 0 x128000 x128001 x128002 x128003 x128004 x128005 x128006 x128007 x128008) else (some t130))) else (none)) else (some 0)
def metrolabref19_All.l1 : Nat → Int → Int → ByteArray → Int → Int → Int → Int → Int → Int → Int → List (S31) → Option (Int)
  | 0, _, _, _, _, _, _, _, _, _, _, _ => none
  | k + 1, x4, x6, x128000, x128001, x128002, x128003, x128004, x128005, x128006, x128007, x128008 => if x6 < x4 then (if 0 ≤ x6 then (if x6 < (x128008.length : Int) then (if 0 ≤ x4 then (if x4 < (x128008.length : Int) then (if ((rd_T31 x128008 x6).f0) = ((rd_T31 x128008 x4).f0) then (some 7) else (metrolabref19_All.l1 k x4 (wrap64 (x6 + 1)) x128000 x128001 x128002 x128003 x128004 x128005 x128006 x128007 x128008)) else (none)) else (none)) else (none)) else (none)) else (metrolabref19_All.l0 k (wrap64 (x4 + 1)) x128000 x128001 x128002 x128003 x128004 x128005 x128006 x128007 x128008)
end
def metrolabref19_All.f (k : Nat) (a0_0 : ByteArray) (a0_1 : Int) (a0_2 : Int) (a0_3 : Int) (a0_4 : Int) (a0_5 : Int) (a0_6 : Int) (a0_7 : Int) (l0_8 : List (S31)) : Option (Int) := (ZA.metrolabref18_Check.f k a0_0 a0_1 a0_2 a0_3 a0_4 a0_5 a0_6 a0_7 l0_8).bind fun t128 => (if t128 = 0 then (if (l0_8.length : Int) > 8 then (some 5) else (metrolabref19_All.l0 k 0 a0_0 a0_1 a0_2 a0_3 a0_4 a0_5 a0_6 a0_7 l0_8)) else (some t128))
theorem metrolabref19_All.mono_l : ∀ k, (∀ y0 y1 y2 y3 y4 y5 y6 y7 y8 y9, LeO (metrolabref19_All.l0 k y0 y1 y2 y3 y4 y5 y6 y7 y8 y9) (metrolabref19_All.l0 (k + 1) y0 y1 y2 y3 y4 y5 y6 y7 y8 y9)) ∧ (∀ y0 y1 y2 y3 y4 y5 y6 y7 y8 y9 y10, LeO (metrolabref19_All.l1 k y0 y1 y2 y3 y4 y5 y6 y7 y8 y9 y10) (metrolabref19_All.l1 (k + 1) y0 y1 y2 y3 y4 y5 y6 y7 y8 y9 y10))
  | 0 => ⟨fun _ _ _ _ _ _ _ _ _ _ r h => by simp [metrolabref19_All.l0] at h, fun _ _ _ _ _ _ _ _ _ _ _ r h => by simp [metrolabref19_All.l1] at h⟩
  | k + 1 => by
    obtain ⟨ih0, ih1⟩ := metrolabref19_All.mono_l k
    refine ⟨?_, ?_⟩
    · intro y0 y1 y2 y3 y4 y5 y6 y7 y8 y9
      unfold metrolabref19_All.l0
      repeat' first
      | (with_reducible exact ih0 _ _ _ _ _ _ _ _ _ _)
      | (with_reducible exact ih1 _ _ _ _ _ _ _ _ _ _ _)
      | (with_reducible exact ZA.metrolabref18_Check.mono _ _ _ _ _ _ _ _ _ _)
      | (with_reducible exact metrolabref19_Check.mono _ _ _ _ _ _ _ _ _ _ _ _ _ _ _)
      | (with_reducible exact LeO.refl _)
      | (with_reducible exact LeO.none _)
      | (with_reducible refine LeO.ite ?_ ?_)
      | (with_reducible refine LeO.bind ?_ (fun _ => ?_))
      | exact ih0 _ _ _ _ _ _ _ _ _ _
      | exact ih1 _ _ _ _ _ _ _ _ _ _ _
      | exact ZA.metrolabref18_Check.mono _ _ _ _ _ _ _ _ _ _
      | exact metrolabref19_Check.mono _ _ _ _ _ _ _ _ _ _ _ _ _ _ _
      | exact LeO.none _
      | refine LeO.ite ?_ ?_
      | refine LeO.bind ?_ (fun _ => ?_)
    · intro y0 y1 y2 y3 y4 y5 y6 y7 y8 y9 y10
      unfold metrolabref19_All.l1
      repeat' first
      | (with_reducible exact ih0 _ _ _ _ _ _ _ _ _ _)
      | (with_reducible exact ih1 _ _ _ _ _ _ _ _ _ _ _)
      | (with_reducible exact ZA.metrolabref18_Check.mono _ _ _ _ _ _ _ _ _ _)
      | (with_reducible exact metrolabref19_Check.mono _ _ _ _ _ _ _ _ _ _ _ _ _ _ _)
      | (with_reducible exact LeO.refl _)
      | (with_reducible exact LeO.none _)
      | (with_reducible refine LeO.ite ?_ ?_)
      | (with_reducible refine LeO.bind ?_ (fun _ => ?_))
      | exact ih0 _ _ _ _ _ _ _ _ _ _
      | exact ih1 _ _ _ _ _ _ _ _ _ _ _
      | exact ZA.metrolabref18_Check.mono _ _ _ _ _ _ _ _ _ _
      | exact metrolabref19_Check.mono _ _ _ _ _ _ _ _ _ _ _ _ _ _ _
      | exact LeO.none _
      | refine LeO.ite ?_ ?_
      | refine LeO.bind ?_ (fun _ => ?_)
theorem metrolabref19_All.mono : ∀ a0 a1 a2 a3 a4 a5 a6 a7 a8 k, LeO (metrolabref19_All.f k a0 a1 a2 a3 a4 a5 a6 a7 a8) (metrolabref19_All.f (k + 1) a0 a1 a2 a3 a4 a5 a6 a7 a8) := by
  intro a0 a1 a2 a3 a4 a5 a6 a7 a8 k
  obtain ⟨ih0, ih1⟩ := metrolabref19_All.mono_l k
  unfold metrolabref19_All.f
  repeat' first
      | (with_reducible exact ih0 _ _ _ _ _ _ _ _ _ _)
      | (with_reducible exact ih1 _ _ _ _ _ _ _ _ _ _ _)
      | (with_reducible exact ZA.metrolabref18_Check.mono _ _ _ _ _ _ _ _ _ _)
      | (with_reducible exact metrolabref19_Check.mono _ _ _ _ _ _ _ _ _ _ _ _ _ _ _)
      | (with_reducible exact LeO.refl _)
      | (with_reducible exact LeO.none _)
      | (with_reducible refine LeO.ite ?_ ?_)
      | (with_reducible refine LeO.bind ?_ (fun _ => ?_))
      | exact ih0 _ _ _ _ _ _ _ _ _ _
      | exact ih1 _ _ _ _ _ _ _ _ _ _ _
      | exact ZA.metrolabref18_Check.mono _ _ _ _ _ _ _ _ _ _
      | exact metrolabref19_Check.mono _ _ _ _ _ _ _ _ _ _ _ _ _ _ _
      | exact LeO.none _
      | refine LeO.ite ?_ ?_
      | refine LeO.bind ?_ (fun _ => ?_)
end Go.Proofs.YtkohjcfmcliioaaGreatDoor.ZU
namespace Go.Proofs.YtkohjcfmcliioaaGreatDoor.ZU
open Go.Proofs.YtkohjcfmcliioaaGreatDoor.ZA (errW errW_none errW_some S76 z76 k76 k76_open k76_mkM rd_T76 at_T76 S31 z31 k31 k31_open k31_mk rd_T31 at_T31)
open Go.RowKit Go.Proofs.YtkohjcfmcliioaaGreatDoorW.PrintWords Go.Proofs.YtkohjcfmcliioaaGreatDoorW.PrintLast Go.Proofs.YtkohjcfmcliioaaGreatDoorW.PrintMore
attribute [local go_sem] max2_int min2_int max_two min_two max_three min_three max_four min_four   -- for this text's walks alone
set_option linter.unusedVariables false
set_option linter.unusedSimpArgs false
def metrolabref19_Virtual.f (k : Nat) (a0_0 : ByteArray) (a0_1 : Int) (a0_2 : Int) (a0_3 : Int) (a0_4 : Int) (a0_5 : Int) (a0_6 : Int) (a0_7 : Int) (l0_8 : List (S31)) (a1_0 : Int) (a1_1 : Bool) (a1_2 : Int) (a1_3 : Int) (l1_4 : List (S76)) : Option (Int × Int) := (metrolabref19_Check.f k a0_0 a0_1 a0_2 a0_3 a0_4 a0_5 a0_6 a0_7 l0_8 a1_0 a1_1 a1_2 a1_3 l1_4).bind fun t135 => (if t135 = 0 then (if a1_3 = 0 then (some (0, 14)) else ((ZA.metrolabref18_Maximum.f k a0_0 a0_1 a0_2 a0_3 a0_4 a0_5 a0_6 a0_7 l0_8).bind fun bt136 => (if a1_3 = 2 then ((ZA.metrolabref18_Least.f k a0_0 a0_1 a0_2 a0_3 a0_4 a0_5 a0_6 a0_7 l0_8).bind fun bt138 => ((ZA.metrolabref18_Hollow.f a0_0 a0_1 a0_2 a0_3 a0_4 a0_5 a0_6 a0_7 l0_8).bind fun t140 => (if t140 = true then (some (wrap64 (bt138.1 - (wrap64 (-a1_2))), 0)) else (some (wrap64 (bt138.1 + (wrap64 (-a1_2))), 0))))) else ((ZA.metrolabref18_Hollow.f a0_0 a0_1 a0_2 a0_3 a0_4 a0_5 a0_6 a0_7 l0_8).bind fun t141 => (if t141 = true then (some (wrap64 (bt136.1 - a1_2), 0)) else (some (wrap64 (bt136.1 + a1_2), 0))))))) else (some (0, t135)))
theorem metrolabref19_Virtual.mono : ∀ a0 a1 a2 a3 a4 a5 a6 a7 a8 a9 a10 a11 a12 a13 k, LeO (metrolabref19_Virtual.f k a0 a1 a2 a3 a4 a5 a6 a7 a8 a9 a10 a11 a12 a13) (metrolabref19_Virtual.f (k + 1) a0 a1 a2 a3 a4 a5 a6 a7 a8 a9 a10 a11 a12 a13) := by
  intro a0 a1 a2 a3 a4 a5 a6 a7 a8 a9 a10 a11 a12 a13 k
  unfold metrolabref19_Virtual.f
  repeat' first
      | (with_reducible exact ZA.metrolabref18_Least.mono _ _ _ _ _ _ _ _ _ _)
      | (with_reducible exact ZA.metrolabref18_Maximum.mono _ _ _ _ _ _ _ _ _ _)
      | (with_reducible exact metrolabref19_Check.mono _ _ _ _ _ _ _ _ _ _ _ _ _ _ _)
      | (with_reducible exact LeO.refl _)
      | (with_reducible exact LeO.none _)
      | (with_reducible refine LeO.ite ?_ ?_)
      | (with_reducible refine LeO.bind ?_ (fun _ => ?_))
      | exact ZA.metrolabref18_Least.mono _ _ _ _ _ _ _ _ _ _
      | exact ZA.metrolabref18_Maximum.mono _ _ _ _ _ _ _ _ _ _
      | exact metrolabref19_Check.mono _ _ _ _ _ _ _ _ _ _ _ _ _ _ _
      | exact LeO.none _
      | refine LeO.ite ?_ ?_
      | refine LeO.bind ?_ (fun _ => ?_)
def metrolabref19_Bonus.f (k : Nat) (a0_0 : ByteArray) (a0_1 : Int) (a0_2 : Int) (a0_3 : Int) (a0_4 : Int) (a0_5 : Int) (a0_6 : Int) (a0_7 : Int) (l0_8 : List (S31)) (a1_0 : Int) (a1_1 : Bool) (a1_2 : Int) (a1_3 : Int) (l1_4 : List (S76)) (a2 : Int) : Option (Int × Int) := (metrolabref19_Check.f k a0_0 a0_1 a0_2 a0_3 a0_4 a0_5 a0_6 a0_7 l0_8 a1_0 a1_1 a1_2 a1_3 l1_4).bind fun t144 => (if t144 = 0 then (if a0_1 = 0 then (some (0, 14)) else ((ZA.metrolabref17_Has.f a0_6 a0_7 a2).bind fun t145 => (if t145 = true then (if a1_3 = 0 then (some (0, 0)) else ((ZA.metrolabref18_Maximum.f k a0_0 a0_1 a0_2 a0_3 a0_4 a0_5 a0_6 a0_7 l0_8).bind fun bt146 => (if a1_3 = 2 then ((ZA.metrolabref18_Least.f k a0_0 a0_1 a0_2 a0_3 a0_4 a0_5 a0_6 a0_7 l0_8).bind fun bt148 => (some (mx (wrap64 (a2 - bt148.1)) (wrap64 (bt148.1 - a2)), 0))) else (some (mx (wrap64 (a2 - bt146.1)) (wrap64 (bt146.1 - a2)), 0))))) else (some (0, 2))))) else (some (0, t144)))
theorem metrolabref19_Bonus.mono : ∀ a0 a1 a2 a3 a4 a5 a6 a7 a8 a9 a10 a11 a12 a13 a14 k, LeO (metrolabref19_Bonus.f k a0 a1 a2 a3 a4 a5 a6 a7 a8 a9 a10 a11 a12 a13 a14) (metrolabref19_Bonus.f (k + 1) a0 a1 a2 a3 a4 a5 a6 a7 a8 a9 a10 a11 a12 a13 a14) := by
  intro a0 a1 a2 a3 a4 a5 a6 a7 a8 a9 a10 a11 a12 a13 a14 k
  unfold metrolabref19_Bonus.f
  repeat' first
      | (with_reducible exact ZA.metrolabref18_Least.mono _ _ _ _ _ _ _ _ _ _)
      | (with_reducible exact ZA.metrolabref18_Maximum.mono _ _ _ _ _ _ _ _ _ _)
      | (with_reducible exact metrolabref19_Check.mono _ _ _ _ _ _ _ _ _ _ _ _ _ _ _)
      | (with_reducible exact LeO.refl _)
      | (with_reducible exact LeO.none _)
      | (with_reducible refine LeO.ite ?_ ?_)
      | (with_reducible refine LeO.bind ?_ (fun _ => ?_))
      | exact ZA.metrolabref18_Least.mono _ _ _ _ _ _ _ _ _ _
      | exact ZA.metrolabref18_Maximum.mono _ _ _ _ _ _ _ _ _ _
      | exact metrolabref19_Check.mono _ _ _ _ _ _ _ _ _ _ _ _ _ _ _
      | exact LeO.none _
      | refine LeO.ite ?_ ?_
      | refine LeO.bind ?_ (fun _ => ?_)
def metrolabref19_Datums.f (k : Nat) (a0_0 : ByteArray) (a0_1 : Int) (a0_2 : Int) (a0_3 : Int) (a0_4 : Int) (a0_5 : Int) (a0_6 : Int) (a0_7 : Int) (l0_8 : List (S31)) : Option (List ByteArray × Int) := (metrolabref19_All.f k a0_0 a0_1 a0_2 a0_3 a0_4 a0_5 a0_6 a0_7 l0_8).bind fun t151 => (if t151 = 0 then ((ZA.metrolabref19_Named.f k a0_0 a0_1 a0_2 a0_3 a0_4 a0_5 a0_6 a0_7 l0_8).bind fun t152 => (some (t152, 0))) else (some (([] : List ByteArray), t151)))
theorem metrolabref19_Datums.mono : ∀ a0 a1 a2 a3 a4 a5 a6 a7 a8 k, LeO (metrolabref19_Datums.f k a0 a1 a2 a3 a4 a5 a6 a7 a8) (metrolabref19_Datums.f (k + 1) a0 a1 a2 a3 a4 a5 a6 a7 a8) := by
  intro a0 a1 a2 a3 a4 a5 a6 a7 a8 k
  unfold metrolabref19_Datums.f
  repeat' first
      | (with_reducible exact ZA.metrolabref19_Named.mono _ _ _ _ _ _ _ _ _ _)
      | (with_reducible exact metrolabref19_All.mono _ _ _ _ _ _ _ _ _ _)
      | (with_reducible exact LeO.refl _)
      | (with_reducible exact LeO.none _)
      | (with_reducible refine LeO.ite ?_ ?_)
      | (with_reducible refine LeO.bind ?_ (fun _ => ?_))
      | exact ZA.metrolabref19_Named.mono _ _ _ _ _ _ _ _ _ _
      | exact metrolabref19_All.mono _ _ _ _ _ _ _ _ _ _
      | exact LeO.none _
      | refine LeO.ite ?_ ?_
      | refine LeO.bind ?_ (fun _ => ?_)
def cmp_isNaN_string.f (a0 : ByteArray) : Option (Bool) := some (a0.toList != a0.toList)
def cmp_Less_string.f (a0 : ByteArray) (a1 : ByteArray) : Option (Bool) := (cmp_isNaN_string.f a0).bind fun t155 => (if t155 = true then ((cmp_isNaN_string.f a1).bind fun t156 => (if t156 = true then (some (Op.bytesLess a0.toList a1.toList)) else (some true))) else (some (Op.bytesLess a0.toList a1.toList)))
def slices_IsSorted_string_string.l0 : Nat → List ByteArray → Int → Option (Bool)
  | 0, _, _ => none
  | k + 1, x0, x3 => if x3 > 0 then (if 0 ≤ x3 then (if x3 < (x0.length : Int) then (if 0 ≤ (wrap64 (x3 - 1)) then (if (wrap64 (x3 - 1)) < (x0.length : Int) then ((cmp_Less_string.f (rdOf ByteArray.empty x0 x3) (rdOf ByteArray.empty x0 (wrap64 (x3 - 1)))).bind fun t159 => (if t159 = true then (some false) else (slices_IsSorted_string_string.l0 k x0 (wrap64 (x3 - 1))))) else (none)) else (none)) else (none)) else (none)) else (some true)
def slices_IsSorted_string_string.f (k : Nat) (l0 : List ByteArray) : Option (Bool) := slices_IsSorted_string_string.l0 k l0 (wrap64 ((l0.length : Int) - 1))
theorem slices_IsSorted_string_string.mono_l : ∀ k, (∀ y0 y1, LeO (slices_IsSorted_string_string.l0 k y0 y1) (slices_IsSorted_string_string.l0 (k + 1) y0 y1))
  | 0 => fun _ _ r h => by simp [slices_IsSorted_string_string.l0] at h
  | k + 1 => by
    have ih0 := slices_IsSorted_string_string.mono_l k
    · intro y0 y1
      unfold slices_IsSorted_string_string.l0
      repeat' first
      | (with_reducible exact ih0 _ _)
      | (with_reducible exact LeO.refl _)
      | (with_reducible exact LeO.none _)
      | (with_reducible refine LeO.ite ?_ ?_)
      | (with_reducible refine LeO.bind ?_ (fun _ => ?_))
      | exact ih0 _ _
      | exact LeO.none _
      | refine LeO.ite ?_ ?_
      | refine LeO.bind ?_ (fun _ => ?_)
theorem slices_IsSorted_string_string.mono : ∀ a0 k, LeO (slices_IsSorted_string_string.f k a0) (slices_IsSorted_string_string.f (k + 1) a0) := by
  intro a0 k
  have ih0 := slices_IsSorted_string_string.mono_l k
  unfold slices_IsSorted_string_string.f
  repeat' first
      | (with_reducible exact ih0 _ _)
      | (with_reducible exact LeO.refl _)
      | (with_reducible exact LeO.none _)
      | (with_reducible refine LeO.ite ?_ ?_)
      | (with_reducible refine LeO.bind ?_ (fun _ => ?_))
      | exact ih0 _ _
      | exact LeO.none _
      | refine LeO.ite ?_ ?_
      | refine LeO.bind ?_ (fun _ => ?_)
def slices_Index_string_string.l0 : Nat → List ByteArray → ByteArray → Int → Int → Option (Int)
  | 0, _, _, _, _ => none
  | k + 1, x0, x1, x7, x8 => if x8 < x7 then (if 0 ≤ x8 then (if x8 < (x0.length : Int) then (if x1.toList = (rdOf ByteArray.empty x0 x8).toList then (some x8) else (slices_Index_string_string.l0 k x0 x1 x7 (wrap64 (x8 + 1)))) else (none)) else (none)) else (some (-1))
def slices_Index_string_string.f (k : Nat) (l0 : List ByteArray) (a1 : ByteArray) : Option (Int) := slices_Index_string_string.l0 k l0 a1 (l0.length : Int) 0
theorem slices_Index_string_string.mono_l : ∀ k, (∀ y0 y1 y2 y3, LeO (slices_Index_string_string.l0 k y0 y1 y2 y3) (slices_Index_string_string.l0 (k + 1) y0 y1 y2 y3))
  | 0 => fun _ _ _ _ r h => by simp [slices_Index_string_string.l0] at h
  | k + 1 => by
    have ih0 := slices_Index_string_string.mono_l k
    · intro y0 y1 y2 y3
      unfold slices_Index_string_string.l0
      repeat' first
      | (with_reducible exact ih0 _ _ _ _)
      | (with_reducible exact LeO.refl _)
      | (with_reducible exact LeO.none _)
      | (with_reducible refine LeO.ite ?_ ?_)
      | (with_reducible refine LeO.bind ?_ (fun _ => ?_))
      | exact ih0 _ _ _ _
      | exact LeO.none _
      | refine LeO.ite ?_ ?_
      | refine LeO.bind ?_ (fun _ => ?_)
theorem slices_Index_string_string.mono : ∀ a0 a1 k, LeO (slices_Index_string_string.f k a0 a1) (slices_Index_string_string.f (k + 1) a0 a1) := by
  intro a0 a1 k
  have ih0 := slices_Index_string_string.mono_l k
  unfold slices_Index_string_string.f
  repeat' first
      | (with_reducible exact ih0 _ _ _ _)
      | (with_reducible exact LeO.refl _)
      | (with_reducible exact LeO.none _)
      | (with_reducible refine LeO.ite ?_ ?_)
      | (with_reducible refine LeO.bind ?_ (fun _ => ?_))
      | exact ih0 _ _ _ _
      | exact LeO.none _
      | refine LeO.ite ?_ ?_
      | refine LeO.bind ?_ (fun _ => ?_)
def slices_Contains_string_string.f (k : Nat) (l0 : List ByteArray) (a1 : ByteArray) : Option (Bool) := (slices_Index_string_string.f k l0 a1).bind fun t161 => (some (decide (t161 ≥ 0)))
theorem slices_Contains_string_string.mono : ∀ a0 a1 k, LeO (slices_Contains_string_string.f k a0 a1) (slices_Contains_string_string.f (k + 1) a0 a1) := by
  intro a0 a1 k
  unfold slices_Contains_string_string.f
  repeat' first
      | (with_reducible exact slices_Index_string_string.mono _ _ _)
      | (with_reducible exact LeO.refl _)
      | (with_reducible exact LeO.none _)
      | (with_reducible refine LeO.ite ?_ ?_)
      | (with_reducible refine LeO.bind ?_ (fun _ => ?_))
      | exact slices_Index_string_string.mono _ _ _
      | exact LeO.none _
      | refine LeO.ite ?_ ?_
      | refine LeO.bind ?_ (fun _ => ?_)
def slices_Equal_string_string.l0 : Nat → List ByteArray → List ByteArray → Int → Int → Option (Bool)
  | 0, _, _, _, _ => none
  | k + 1, x0, x1, x12, x13 => if x13 < x12 then (if 0 ≤ x13 then (if x13 < (x0.length : Int) then (if x13 < (x1.length : Int) then (if (rdOf ByteArray.empty x0 x13).toList = (rdOf ByteArray.empty x1 x13).toList then (slices_Equal_string_string.l0 k x0 x1 x12 (wrap64 (x13 + 1))) else (some false)) else (none)) else (none)) else (none)) else (some true)
def slices_Equal_string_string.f (k : Nat) (l0 : List ByteArray) (l1 : List ByteArray) : Option (Bool) := if (l0.length : Int) = (l1.length : Int) then (slices_Equal_string_string.l0 k l0 l1 (l0.length : Int) 0) else (some false)
theorem slices_Equal_string_string.mono_l : ∀ k, (∀ y0 y1 y2 y3, LeO (slices_Equal_string_string.l0 k y0 y1 y2 y3) (slices_Equal_string_string.l0 (k + 1) y0 y1 y2 y3))
  | 0 => fun _ _ _ _ r h => by simp [slices_Equal_string_string.l0] at h
  | k + 1 => by
    have ih0 := slices_Equal_string_string.mono_l k
    · intro y0 y1 y2 y3
      unfold slices_Equal_string_string.l0
      repeat' first
      | (with_reducible exact ih0 _ _ _ _)
      | (with_reducible exact LeO.refl _)
      | (with_reducible exact LeO.none _)
      | (with_reducible refine LeO.ite ?_ ?_)
      | (with_reducible refine LeO.bind ?_ (fun _ => ?_))
      | exact ih0 _ _ _ _
      | exact LeO.none _
      | refine LeO.ite ?_ ?_
      | refine LeO.bind ?_ (fun _ => ?_)
theorem slices_Equal_string_string.mono : ∀ a0 a1 k, LeO (slices_Equal_string_string.f k a0 a1) (slices_Equal_string_string.f (k + 1) a0 a1) := by
  intro a0 a1 k
  have ih0 := slices_Equal_string_string.mono_l k
  unfold slices_Equal_string_string.f
  repeat' first
      | (with_reducible exact ih0 _ _ _ _)
      | (with_reducible exact LeO.refl _)
      | (with_reducible exact LeO.none _)
      | (with_reducible refine LeO.ite ?_ ?_)
      | (with_reducible refine LeO.bind ?_ (fun _ => ?_))
      | exact ih0 _ _ _ _
      | exact LeO.none _
      | refine LeO.ite ?_ ?_
      | refine LeO.bind ?_ (fun _ => ?_)
end Go.Proofs.YtkohjcfmcliioaaGreatDoor.ZU
set_option linter.unusedVariables false
set_option linter.unusedSimpArgs false
namespace Go.Proofs.YtkohjcfmcliioaaGreatDoor
open Go Go.RowKit Go.Proofs.YtkohjcfmcliioaaGreatDoorW.PrintWords Go.Proofs.YtkohjcfmcliioaaGreatDoorW.PrintLast Go.Proofs.YtkohjcfmcliioaaGreatDoorW.PrintMore
open Go.Proofs.YtkohjcfmcliioaaGreatDoor.ZA (S76 S31 k31 k76)
def cutB (s : ByteArray) (p : List UInt8) : ByteArray := ⟨(Lib.trimSuffix s.data.toList p).toArray⟩
/-- A word without its mark, and the material condition. -/
def unmS (s : ByteArray) : ByteArray × Int :=
  if Lib.hasSuffix s.data.toList [40, 77, 41] = true then (cutB s [40, 77, 41], 1) else if Lib.hasSuffix s.data.toList [40, 76, 41] = true then (cutB s [40, 76, 41], 2) else (s, 0)
theorem unm_f (s : ByteArray) (h : s.size ≤ 4096) : ZU.frame_unmarked.f 5 s = some (unmS s) := by
  have h1 : frame_marked.f (⟨#[]⟩ : ByteArray) 1 = some ⟨#[40, 77, 41]⟩ := by decide
  have h2 : frame_marked.f (⟨#[]⟩ : ByteArray) 2 = some ⟨#[40, 76, 41]⟩ := by decide
  have c1 : strings_CutSuffix.f s ⟨#[40, 77, 41]⟩ = some (cutB s [40, 77, 41], Lib.hasSuffix s.data.toList [40, 77, 41]) := if_pos (by omega)
  have c2 : strings_CutSuffix.f s ⟨#[40, 76, 41]⟩ = some (cutB s [40, 76, 41], Lib.hasSuffix s.data.toList [40, 76, 41]) := if_pos (by omega)
  have w1 : wrap64 (1 + 1) = 2 := IntWalk.wrap64_in _ (by decide)
  have w2 : wrap64 (2 + 1) = 3 := IntWalk.wrap64_in _ (by decide)
  unfold ZU.frame_unmarked.f unmS
  simp only [ZU.frame_unmarked.l0, h1, h2, c1, c2, w1, w2, Option.bind_some, show (1 : Int) < 3 by decide, show (2 : Int) < 3 by decide, show ¬ (3 : Int) < 3 by decide, if_true, if_false]
  split
  · rfl
  · split
    · rfl
    · rfl
theorem unmS_size (s : ByteArray) : (unmS s).1.size ≤ s.size := by
  have h : ∀ p, (cutB s p).size ≤ s.size := fun p => by
    unfold cutB Lib.trimSuffix
    show (Array.size _) ≤ s.data.size
    rw [List.size_toArray, ← Array.length_toList]
    split
    · rw [List.length_take]; omega
    · exact Nat.le_refl _
  unfold unmS
  split
  · exact h _
  · split
    · exact h _
    · exact Nat.le_refl _
def UnmR (s : ByteArray) (W : World) (e : Ending) (w' : World) : Prop := e = .returned (.tuple #[.string (unmS s).1, .int .i64 (unmS s).2]) ∧ Below W.heap.size W w'
theorem unm_any (s : ByteArray) (h : s.size ≤ 4096) (W : World) : Calls Tryz.prog 66 #[.string s] W (UnmR s W) :=
  ZU.frame_unmarked.calls 5 s (unmS s).1 (unmS s).2 W (unm_f s h)
/-- The words of a text, between blanks. -/
def wsS (s : ByteArray) : List ByteArray := Lib.splitB ⟨#[32]⟩ 0 (Lib.countB s ⟨#[32]⟩) s
theorem wsS_length (s : ByteArray) : (wsS s).length = Lib.countB s ⟨#[32]⟩ + 1 := Lib.splitB_all _ (by decide) 0 _ s rfl
theorem wsS_le (s : ByteArray) : (wsS s).length ≤ s.size + 1 := by
  rw [wsS_length]
  have := Lib.countB_le ⟨#[32]⟩ (by decide) s.size s (Nat.le_refl _)
  omega
theorem splitB_size (sep : ByteArray) : ∀ (k : Nat) (s : ByteArray), ∀ x ∈ Lib.splitB sep 0 k s, x.size ≤ s.size
  | 0, s, x, hx => by
    rw [Lib.splitB_zero] at hx
    rw [List.mem_singleton.1 hx]
    exact Nat.le_refl _
  | k + 1, s, x, hx => by
    unfold Lib.splitB at hx
    split at hx
    · rw [List.mem_singleton.1 hx]; exact Nat.le_refl _
    · rcases List.mem_cons.1 hx with rfl | hx
      · rw [ByteArray.size_extract]; omega
      · have := splitB_size sep k _ x hx
        rw [ByteArray.size_extract] at this
        omega
theorem wsS_size (s : ByteArray) : ∀ x ∈ wsS s, x.size ≤ s.size := splitB_size _ _ s
def SplitR (s : ByteArray) (W : World) (e : Ending) (w' : World) : Prop := e = .returned (.slice (some ⟨W.heap.size, 0, none⟩) (wsS s).length (wsS s).length) ∧ w' = W.alloc (.cells ((wsS s).map Value.string).toArray 9)
theorem split_any (s : ByteArray) (h : s.size ≤ 4096) (W : World) (HE : Env W) : Calls Tryz.prog 61 #[.string s, .string ⟨#[32]⟩] W (SplitR s W) := by
  obtain ⟨_, ⟨m, hm⟩, _⟩ := HE
  unfold SplitR
  rw [wsS_length]
  exact Tryz.strings_Split s ⟨#[32]⟩ m W (by omega) hm (by decide)
/-- xs[1:] of a slice that is full. -/
theorem slice_one (t e : TypeId) (ht : Tryz.prog.underlying t = some (.slice e)) (hs : (Tryz.prog.info? e).map (·.size) = some 1) (bw o m : Nat) (W : World) :
    (Instr.slice t (.slice (some ⟨bw, o, none⟩) (m + 1) (m + 1)) (some (.int .i64 1)) none none).run Tryz.prog W = .ok (.slice (some ⟨bw, if m = 0 then o else o + 1, none⟩) m m) W := by
  cases hq : Tryz.prog.info? e with
  | none => simp [hq] at hs
  | some i =>
    have hi : i.size = 1 := by simpa [hq] using hs
    by_cases hm : m = 0
    · subst hm
      simp [Instr.slice, Instr.sliceBounds, run_underlying ht, sizeOf, typeInfo, hq, go_sem]
    · simp [Instr.slice, Instr.sliceBounds, run_underlying ht, sizeOf, typeInfo, hq, hi, go_sem, hm, Addr.add]
      intro h
      omega
/-- What the words behind the first (and 'disc') give: tolerance, material condition, datums. -/
def stX : List ByteArray → Int × Int × List S76
  | [] => (0, 0, [])
  | w :: r => (atoiV (unmS w).1, (unmS w).2, r.map fun x => ⟨(unmS x).1, (unmS x).2⟩)
theorem stX_snoc (w : ByteArray) (r : List ByteArray) (x : ByteArray) : stX ((w :: r) ++ [x]) = ((stX (w :: r)).1, (stX (w :: r)).2.1, (stX (w :: r)).2.2 ++ [⟨(unmS x).1, (unmS x).2⟩]) := by
  simp [stX]
def isDisc (w : ByteArray) : Bool := w.toList == [100, 105, 115, 99]
/-- The words that tell tolerance and datums, and whether the zone is round. -/
def discS : List ByteArray → Bool × List ByteArray
  | [] => (false, [])
  | w :: r => if isDisc w = true then (true, r) else (false, w :: r)
def kindS (w0 : ByteArray) : Int := idxS fun r => (⟨r.word⟩ : ByteArray).toList == w0.toList
structure GuessS where
  kind : Int
  disc : Bool
  tol : Int
  mat : Int
  ds : List S76
/-- The frame that a text may have. -/
def guessS (s : ByteArray) : GuessS :=
  match wsS s with
  | [] => ⟨-1, false, 0, 0, []⟩
  | w0 :: t => ⟨kindS w0, (discS t).1, (stX (discS t).2).1, (stX (discS t).2).2.1, (stX (discS t).2).2.2⟩
def parseS (s : ByteArray) : GuessS × Int :=
  if 4096 < s.size then (⟨0, false, 0, 0, []⟩, 17)
  else if (textS (guessS s).kind (guessS s).disc (guessS s).tol (guessS s).mat (guessS s).ds).2 ≠ 0 ∨ (textS (guessS s).kind (guessS s).disc (guessS s).tol (guessS s).mat (guessS s).ds).1.toList ≠ s.toList then (⟨0, false, 0, 0, []⟩, 4)
  else (guessS s, 0)
def zero31 : Array Value := #[.int .i64 0, .bool false, .int .i64 0, .int .i64 0, .slice none 0 0]
/-- What a call of frame.Parse returns: the frame's datums are a row of the call's own. -/
def ParseR (g : GuessS) (er : Int) (w : World) (e : Ending) (w' : World) : Prop :=
  ∃ v : Value, e = .returned (.tuple #[.agg #[.int .i64 g.kind, .bool g.disc, .int .i64 g.tol, .int .i64 g.mat, v], .int .i64 er]) ∧ Kd.R k76 76 w' w.heap.size (fun _ => True) v g.ds ∧ Below w.heap.size w w'
theorem size_31 : (Tryz.prog.info? 31).map (·.size) = some zero31.size := by kernel_rfl
theorem results_cell_tmp {P : Program} {fn : Func} {p q : Tmp} {ty : TypeId} (h : fn.results = #[.cell p ty, .tmp q]) (tmps : Array Value) (w : World) (g : Nat) (t : TypeId) (cs : Array Value) (fr : Nat × Nat) (d : TypeDesc)
    (hp : tmps.getD p undef = .pointer (some ⟨g, 0, none⟩)) (hg : w.heap[g]? = some (.cells cs t fr))
    (hu : P.underlying ty = some d) (hd : (match d with | .struct _ | .array _ _ => true | _ => false) = true) (hi : (P.info? ty).map (·.size) = some cs.size) :
    (results fn tmps).run P w = .ok (.tuple #[.agg cs, tmps.getD q undef]) w := by
  have hp' : tmps[p]?.getD undef = .pointer (some ⟨g, 0, none⟩) := by simpa using hp
  simp [results, h, hp', asAddr, run_loadVar_row w g t ty cs fr d hg hu hd hi]
set_option maxRecDepth 100000 in
theorem parse_long (s : ByteArray) (h : 4096 < s.size) (w : World) : Calls Tryz.prog 25 #[.string s] w (ParseR ⟨0, false, 0, 0, []⟩ 17 w) := by
  have d : decide ((s.size : Int) > 4096) = true := decide_eq_true (by omega)
  have h' : (s.size : Int) > 4096 := by omega
  clear h
  go_enter Tryz.func25, Tryz.ntmps25
  go_wp2_with fail
  exact bodyPost_ret (results_cell_tmp (p := 2) (q := 3) (ty := 31) rfl _ _ w.heap.size 31 zero31 (0, 0) _ rfl (heap_alloc_new _ _) Tryz.underlying31 rfl size_31) rfl ⟨.slice none 0 0, rfl, Kd.R_nil _ _ _ _ _, (Below.refl _ w).alloc (Nat.le_refl _) _⟩
end Go.Proofs.YtkohjcfmcliioaaGreatDoor
set_option linter.unusedVariables false
set_option linter.unusedSimpArgs false
namespace Go.Proofs.YtkohjcfmcliioaaGreatDoor
open Go Go.RowKit Go.Proofs.YtkohjcfmcliioaaGreatDoorW.PrintWords Go.Proofs.YtkohjcfmcliioaaGreatDoorW.PrintLast Go.Proofs.YtkohjcfmcliioaaGreatDoorW.PrintMore
open Go.Proofs.YtkohjcfmcliioaaGreatDoor.ZA (S76 S31 k31 k76)
theorem alloc_facts (W : World) (o : Obj) : Below W.heap.size W (W.alloc o) ∧ (W.alloc o).heap[W.heap.size]? = some o ∧ (W.alloc o).heap.size = W.heap.size + 1 := ⟨(Below.refl _ _).alloc (Nat.le_refl _) _, heap_alloc_new W o, by simp⟩
theorem discS_cons (w : ByteArray) (r : List ByteArray) : (discS (w :: r)).1 = isDisc w ∧ (discS (w :: r)).2 = if isDisc w = true then r else w :: r := by
  cases h : isDisc w <;> simp [discS, h]
def wordsV (ws : List ByteArray) : Array Value := (ws.map Value.string).toArray
def frameV (kind : Int) (disc : Bool) (tol mat : Int) (v : Value) : Array Value := #[.int .i64 kind, .bool disc, .int .i64 tol, .int .i64 mat, v]
theorem discS_le (t : List ByteArray) : (discS t).2.length ≤ t.length := by
  cases t with
  | nil => exact Nat.le_refl _
  | cons a r =>
    rw [(discS_cons a r).2]
    split <;> simp
theorem wordsV_mem (ws : List ByteArray) (j : Nat) (x : ByteArray) (h : (wordsV ws)[j]? = some (.string x)) : x ∈ ws := by
  unfold wordsV at h
  rw [List.getElem?_toArray, List.getElem?_map] at h
  cases hq : ws[j]? with
  | none => rw [hq] at h; cases h
  | some y =>
    rw [hq] at h
    cases h
    exact List.mem_of_getElem? hq
theorem stX_one (t : List ByteArray) (x : ByteArray) (h : 0 < t.length) (hx : x = t[0]) : stX (t.take (0 + 1)) = (atoiV (unmS x).1, (unmS x).2, []) := by
  subst hx
  cases t with
  | nil => exact absurd h (by decide)
  | cons a r => rfl
theorem stX_take (t : List ByteArray) (x : ByteArray) (i : Nat) (h : i < t.length) (h0 : 0 < i) (hx : x = t[i]) :
    stX (t.take (i + 1)) = ((stX (t.take i)).1, (stX (t.take i)).2.1, (stX (t.take i)).2.2 ++ [⟨(unmS x).1, (unmS x).2⟩]) := by
  subst hx
  rw [List.take_succ_eq_append_getElem h]
  cases t with
  | nil => exact absurd h (by simp)
  | cons a r =>
    obtain ⟨j, rfl⟩ : ∃ j, i = j + 1 := ⟨i - 1, by omega⟩
    rw [List.take_succ_cons]
    exact stX_snoc _ _ _
theorem stX_len (t : List ByteArray) : (stX t).2.2.length ≤ t.length := by
  cases t <;> simp [stX]
def set5 (W : World) (b : Nat) (v0 v1 v2 v3 v4 : Value) : World :=
  ((((W.setCell ⟨b, 0, none⟩ v0).setCell ⟨b, 1, none⟩ v1).setCell ⟨b, 2, none⟩ v2).setCell ⟨b, 3, none⟩ v3).setCell ⟨b, 4, none⟩ v4
theorem set5_heap (W : World) (b : Nat) (v0 v1 v2 v3 v4 c0 c1 c2 c3 c4 : Value) (t : TypeId) (h : W.heap[b]? = some (.cells #[c0, c1, c2, c3, c4] t (0, 0))) :
    (set5 W b v0 v1 v2 v3 v4).heap[b]? = some (.cells #[v0, v1, v2, v3, v4] t (0, 0)) := by
  have h0 : (W.setCell ⟨b, 0, none⟩ v0).heap[b]? = some (.cells #[v0, c1, c2, c3, c4] t (0, 0)) := (heap_setCell_same _ b 0 _ _ v0 h).trans rfl
  have h1 : ((W.setCell ⟨b, 0, none⟩ v0).setCell ⟨b, 1, none⟩ v1).heap[b]? = some (.cells #[v0, v1, c2, c3, c4] t (0, 0)) := (heap_setCell_same _ b 1 _ _ v1 h0).trans rfl
  have h2 : (((W.setCell ⟨b, 0, none⟩ v0).setCell ⟨b, 1, none⟩ v1).setCell ⟨b, 2, none⟩ v2).heap[b]? = some (.cells #[v0, v1, v2, c3, c4] t (0, 0)) := (heap_setCell_same _ b 2 _ _ v2 h1).trans rfl
  have h3 : ((((W.setCell ⟨b, 0, none⟩ v0).setCell ⟨b, 1, none⟩ v1).setCell ⟨b, 2, none⟩ v2).setCell ⟨b, 3, none⟩ v3).heap[b]? = some (.cells #[v0, v1, v2, v3, c4] t (0, 0)) := (heap_setCell_same _ b 3 _ _ v3 h2).trans rfl
  exact (heap_setCell_same _ b 4 _ _ v4 h3).trans rfl
theorem set5_below {B : Nat} {w W : World} (h : Below B w W) {b : Nat} (hb : B ≤ b) (v0 v1 v2 v3 v4 : Value) : Below B w (set5 W b v0 v1 v2 v3 v4) :=
  ((((h.setCell (p := ⟨b, 0, none⟩) hb v0).setCell (p := ⟨b, 1, none⟩) hb v1).setCell (p := ⟨b, 2, none⟩) hb v2).setCell (p := ⟨b, 3, none⟩) hb v3).setCell (p := ⟨b, 4, none⟩) hb v4
theorem set5_R {W : World} {base : Nat} {v : Value} {ds : List S76} (h : Kd.R k76 76 W base (fun _ => True) v ds) {b : Nat} {cs : Array Value} (hb : W.heap[b]? = some (.cells cs 31 (0, 0))) (v0 v1 v2 v3 v4 : Value) :
    Kd.R k76 76 (set5 W b v0 v1 v2 v3 v4) base (fun _ => True) v ds :=
  Kd.R_mono (Kd.R_far (p := ⟨b, 4, none⟩) (Kd.R_far (p := ⟨b, 3, none⟩) (Kd.R_far (p := ⟨b, 2, none⟩) (Kd.R_far (p := ⟨b, 1, none⟩) (Kd.R_far (p := ⟨b, 0, none⟩) (Kd.R_types h hb (by decide)) (fun _ hk => hk.2) v0) (fun _ hk => hk.2) v1) (fun _ hk => hk.2) v2) (fun _ hk => hk.2) v3) (fun _ hk => hk.2) v4) (fun _ _ => trivial)
theorem parse_end (g : GuessS) (er : Int) (w W : World) (b : Nat) (hD : W.heap[b]? = some (.cells zero31 31 (0, 0))) (hB : Below w.heap.size w W) (hb : w.heap.size ≤ b) (k : Int) (d : Bool) (t m : Int) (v : Value) (ds : List S76)
    (hR : Kd.R k76 76 W w.heap.size (fun _ => True) v ds) (hg : Hid (g = ⟨k, d, t, m, ds⟩)) (tmps : Array Value) (h2 : tmps.getD 2 undef = .pointer (some ⟨b, 0, none⟩)) (h3 : tmps.getD 3 undef = .int .i64 er) :
    bodyPost Tryz.prog Tryz.f25 (ParseR g er w) .ret ⟨tmps, []⟩ (set5 W b (.int .i64 k) (.bool d) (.int .i64 t) (.int .i64 m) v) :=
  bodyPost_ret (results_cell_tmp (p := 2) (q := 3) (ty := 31) rfl _ _ b 31 #[.int .i64 k, .bool d, .int .i64 t, .int .i64 m, v] (0, 0) _ h2 (set5_heap W b _ _ _ _ _ _ _ _ _ _ _ hD) Tryz.underlying31 rfl size_31) rfl
    ⟨v, by rw [h3, hg.out], by rw [hg.out]; exact set5_R hR hD _ _ _ _ _, set5_below hB hb _ _ _ _ _⟩
set_option maxRecDepth 100000 in
set_option maxHeartbeats 2000000 in
theorem parse_main (s : ByteArray) (h : s.size ≤ 4096) (w : World) (HE : Env w) (w0 : ByteArray) (t1 : List ByteArray) (hws : wsS s = w0 :: t1) (g : GuessS) (er : Int) (hres : Hid (parseS s = (g, er))) :
    Calls Tryz.prog 25 #[.string s] w (ParseR g er w) := by
  have d : decide ((s.size : Int) > 4096) = false := decide_eq_false (by omega)
  have h' : ¬ ((s.size : Int) > 4096) := by omega
  have HS := Hid.mk' h
  have HEnv := Hid.mk' HE
  have HWS := Hid.mk' hws
  clear h HE hws
  go_enter Tryz.func25, Tryz.ntmps25
  go_upto_region 3 with fail
  obtain ⟨b2, hb2⟩ : ∃ b2, b2 = w.heap.size := ⟨_, rfl⟩
  obtain ⟨hB1, hG1, hZ1⟩ := alloc_facts w (.cells zero31 31)
  change Code.wp _ _ _ _ (w.alloc (.cells zero31 31))
  generalize w.alloc (.cells zero31 31) = w1 at hB1 hG1 hZ1 ⊢
  rw [← hb2] at hG1 hZ1 ⊢
  have HB1 := Hid.mk' hB1
  have HG1 := Hid.mk' hG1
  have Hb2 := Hid.mk' hb2
  clear hB1 hG1 hb2
  have hE1 := Hid.mk' (HEnv.out.below HB1.out)
  have hSp := Hid.mk' (split_any s HS.out w1 hE1.out)
  go_wp2_with fail
  refine hSp.out.mono ?_
  rintro e w2 ⟨rfl, hw2⟩
  rw [HWS.out] at hw2 ⊢
  obtain ⟨n, hn⟩ : ∃ n, n = t1.length := ⟨_, rfl⟩
  rw [show (w0 :: t1).length = n + 1 by rw [hn]; rfl]
  have Hn := Hid.mk' hn
  obtain ⟨hB2, hG2, hZ2⟩ := alloc_facts w1 (.cells (wordsV (w0 :: t1)) 9)
  change w2 = w1.alloc (.cells (wordsV (w0 :: t1)) 9) at hw2
  rw [← hw2] at hB2 hG2 hZ2
  obtain ⟨bw, hbw⟩ : ∃ bw, bw = w1.heap.size := ⟨_, rfl⟩
  rw [← hbw] at hG2 hZ2 hZ1 ⊢
  have HG2b := Hid.mk' ((hB2.block b2 (by omega)).trans HG1.out)
  have HB2 := Hid.mk' (below_step HB1.out hB2)
  have HGw := Hid.mk' hG2
  have hlt1 : b2 < bw := by omega
  have hlt2 : bw < w2.heap.size := by omega
  clear hw2 hn hB2 hG2 hbw hSp HB1 HG1 hE1 hZ1 hZ2 d h'
  go_upto_region 4 with fail
  obtain ⟨hB3, hG3, hZ3⟩ := alloc_facts w2 (.cells #[.slice (some ⟨bw, 0, none⟩) (n + 1) (n + 1)] 63)
  generalize w2.alloc (.cells #[.slice (some ⟨bw, 0, none⟩) (n + 1) (n + 1)] 63) = w3 at hB3 hG3 hZ3 ⊢
  have HG2b3 := Hid.mk' ((hB3.block b2 (Nat.lt_trans hlt1 hlt2)).trans HG2b.out)
  have HGw3 := Hid.mk' ((hB3.block bw hlt2).trans HGw.out)
  have HB3 := Hid.mk' (below_step HB2.out hB3)
  obtain ⟨b4, hb4⟩ : ∃ b4, b4 = w2.heap.size := ⟨_, rfl⟩
  rw [← hb4] at hG3 hZ3 hlt2 ⊢
  have HG43 := Hid.mk' hG3
  have hlt3 : b4 < w3.heap.size := by omega
  clear hB3 hG3 hZ3 hb4 HB2 HGw HG2b
  go_step
  refine goesL_ (some 18) rfl rfl Tryz.func40 (by kernel_rfl) rfl #[] rfl (by (try simp only [List.map_toArray, List.map_cons, List.map_nil]); first | done | rfl) ?_
  refine (rows_any w3).mono ?_
  rintro e w4 ⟨rfl, hB4⟩
  refine ⟨_, rfl, ?_⟩
  have HG2b4 := Hid.mk' ((hB4.block b2 (Nat.lt_trans hlt1 (Nat.lt_trans hlt2 hlt3))).trans HG2b3.out)
  have HGw4 := Hid.mk' ((hB4.block bw (Nat.lt_trans hlt2 hlt3)).trans HGw3.out)
  have HG44 := Hid.mk' ((hB4.block b4 hlt3).trans HG43.out)
  have HB4 := Hid.mk' (below_step HB3.out hB4)
  have hlt4 : b4 < w4.heap.size := Nat.lt_of_lt_of_le hlt3 hB4.size
  clear hB4 HG2b3 HGw3 HG43 HB3 hlt3
  refine wpList_val (.pointer (some ⟨w4.heap.size, 0, none⟩)) (w4.alloc (.cells zerosC.toArray 81)) (by rfl) (by kernel_rfl) ?_
  obtain ⟨hB5, hG5, hZ5⟩ := alloc_facts w4 (.cells zerosC.toArray 81)
  generalize w4.alloc (.cells zerosC.toArray 81) = w5 at hB5 hG5 hZ5 ⊢
  have HG2b5 := Hid.mk' ((hB5.block b2 (by omega)).trans HG2b4.out)
  have HGw5 := Hid.mk' ((hB5.block bw (by omega)).trans HGw4.out)
  have HG45 := Hid.mk' ((hB5.block b4 hlt4).trans HG44.out)
  have HB5 := Hid.mk' (below_step HB4.out hB5)
  have hb5w : w.heap.size ≤ w4.heap.size := HB4.out.size
  obtain ⟨b5, hb5⟩ : ∃ b5, b5 = w4.heap.size := ⟨_, rfl⟩
  rw [← hb5] at hG5 hZ5 hlt4 hb5w ⊢
  clear hB5 hb5 HG2b4 HGw4 HG44 HB4
  refine wpList_store_row (by rfl) 81 (.tmp 5) (.tmp 18) (by rfl) b5 rowsC.toArray (by kernel_rfl) (by kernel_rfl) 81 zerosC.toArray hG5 size_rows len_rows one_rows ?_
  have hG6 := setRow_heap w5 b5 _ rowsC.toArray _ _ hG5
  have HG2b6 := Hid.mk' ((setRow_other w5 b5 b2 rowsC.toArray (by omega)).trans HG2b5.out)
  have HGw6 := Hid.mk' ((setRow_other w5 b5 bw rowsC.toArray (by omega)).trans HGw5.out)
  have HG46 := Hid.mk' ((setRow_other w5 b5 b4 rowsC.toArray (by omega)).trans HG45.out)
  have HB6 := Hid.mk' (below_setRow HB5.out hb5w rowsC.toArray)
  have hZ6 : (w5.setRow b5 rowsC.toArray).heap.size = w5.heap.size := by simp
  generalize w5.setRow b5 rowsC.toArray = w6 at hG6 HG2b6 HGw6 HG46 HB6 hZ6 ⊢
  have HG6 := Hid.mk' hG6
  have hlt5 : b5 < w6.heap.size := by omega
  clear hG5 hG6 hZ5 hZ6 HG2b5 HGw5 HG45 HB5 hb5w
  simp only [Act.put, List.setIfInBounds_toArray, List.set_cons_zero, List.set_cons_succ]
  go_upto_region 5 with fail
  have h4c : w6.cell? ⟨b4, 0, none⟩ = some (.slice (some ⟨bw, 0, none⟩) (n + 1) (n + 1)) := (cell_of_blk HG46.out 0).trans rfl
  have hwc : w6.cell? ⟨bw, 0, none⟩ = some (.string w0) := (cell_of_blk HGw6.out 0).trans rfl
  have hI := Hid.mk' (index_R 63 #[.pointer (some ⟨b4, 0, none⟩)] (fun r => (⟨r.word⟩ : ByteArray).toList == w0.toList) (enters_of Tryz.func63 (by kernel_rfl) rfl) b5 w6 (parse_pred w0 b4 bw (n + 1) (n + 1) w6 (by omega) (by omega) h4c (by omega) hwc) hlt5 HG6.out (kindS w0) (Hid.mk' rfl))
  clear h4c hwc
  go_wp2_with fail
  refine hI.out.mono ?_
  rintro e w7 ⟨rfl, hB7⟩
  have HG2b7 := Hid.mk' ((hB7.block b2 (by omega)).trans HG2b6.out)
  have HGw7 := Hid.mk' ((hB7.block bw (by omega)).trans HGw6.out)
  have HG47 := Hid.mk' ((hB7.block b4 (by omega)).trans HG46.out)
  have HB7 := Hid.mk' (below_step HB6.out hB7)
  have hlt7 : b5 < w7.heap.size := Nat.lt_of_lt_of_le hlt5 hB7.size
  generalize hkd : kindS w0 = kd
  have Hkd := Hid.mk' hkd
  clear hB7 HG2b6 HGw6 HG46 HB6 HG6 hlt5 hI hkd
  go_upto_region 6 with fail
  obtain ⟨hB8, hG8, hZ8⟩ := alloc_facts w7 (.cells (frameV kd false 0 0 (.slice none 0 0)) 31)
  change Code.wp _ _ _ _ (w7.alloc (.cells (frameV kd false 0 0 (.slice none 0 0)) 31))
  generalize w7.alloc (.cells (frameV kd false 0 0 (.slice none 0 0)) 31) = w8 at hB8 hG8 hZ8 ⊢
  have HG2b8 := Hid.mk' ((hB8.block b2 (by omega)).trans HG2b7.out)
  have HGw8 := Hid.mk' ((hB8.block bw (by omega)).trans HGw7.out)
  have HG48 := Hid.mk' ((hB8.block b4 (by omega)).trans HG47.out)
  have HB8 := Hid.mk' (below_step HB7.out hB8)
  have hb8w : w.heap.size ≤ w7.heap.size := HB7.out.size
  obtain ⟨b6, hb6⟩ : ∃ b6, b6 = w7.heap.size := ⟨_, rfl⟩
  rw [← hb6] at hG8 hZ8 hlt7 hb8w ⊢
  have HG68 := Hid.mk' hG8
  have hlt8 : b6 < w8.heap.size := by omega
  clear hB8 hG8 hZ8 hb6 HG2b7 HGw7 HG47 HB7
  have h4c : w8.cell? ⟨b4, 0, none⟩ = some (.slice (some ⟨bw, 0, none⟩) (n + 1) (n + 1)) := (cell_of_blk HG48.out 0).trans rfl
  have h4f : w8.frozen? ⟨b4, 0, none⟩ = false := frozen_of_row w8 b4 0 _ _ HG48.out
  have hs1 := fun W => slice_one 63 9 Tryz.underlying63 (by kernel_rfl) bw 0 n W
  generalize hof : (if n = 0 then 0 else 0 + 1) = of1 at hs1
  have Hof := Hid.mk' hof
  clear hof
  go_upto_region 7 with fail
  have hG9 := heap_setCell_same w8 b4 0 _ _ (.slice (some ⟨bw, of1, none⟩) n n) HG48.out
  have HG49 := Hid.mk' (show (w8.setCell ⟨b4, 0, none⟩ (.slice (some ⟨bw, of1, none⟩) n n)).heap[b4]? = some (.cells #[.slice (some ⟨bw, of1, none⟩) n n] 63 (0, 0)) from hG9.trans rfl)
  have HG2b9 := Hid.mk' ((heap_setCell_other w8 ⟨b4, 0, none⟩ b2 (.slice (some ⟨bw, of1, none⟩) n n) (by show b2 ≠ b4; omega)).trans HG2b8.out)
  have HGw9 := Hid.mk' ((heap_setCell_other w8 ⟨b4, 0, none⟩ bw (.slice (some ⟨bw, of1, none⟩) n n) (by show bw ≠ b4; omega)).trans HGw8.out)
  have HG69 := Hid.mk' ((heap_setCell_other w8 ⟨b4, 0, none⟩ b6 (.slice (some ⟨bw, of1, none⟩) n n) (by show b6 ≠ b4; omega)).trans HG68.out)
  have hb2w : w.heap.size ≤ b2 := Nat.le_of_eq Hb2.out.symm
  have HB9 := Hid.mk' (HB8.out.setCell (p := ⟨b4, 0, none⟩) (by show w.heap.size ≤ b4; omega) (.slice (some ⟨bw, of1, none⟩) n n))
  have hZ9 : (w8.setCell ⟨b4, 0, none⟩ (.slice (some ⟨bw, of1, none⟩) n n)).heap.size = w8.heap.size := by simp
  generalize w8.setCell ⟨b4, 0, none⟩ (.slice (some ⟨bw, of1, none⟩) n n) = w9 at HG49 HG2b9 HGw9 HG69 HB9 hZ9 ⊢
  have hlt9 : b6 < w9.heap.size := by omega
  clear hG9 hZ9 hlt8 h4c h4f hs1 HG2b8 HGw8 HG48 HB8 HG68
  have h4c : w9.cell? ⟨b4, 0, none⟩ = some (.slice (some ⟨bw, of1, none⟩) n n) := (cell_of_blk HG49.out 0).trans rfl
  obtain ⟨dB, hdB⟩ : ∃ b, b = (discS t1).1 := ⟨_, rfl⟩
  have HdB := Hid.mk' hdB
  clear hdB
  go_cut [33] (fun s33 wx => s33 = .bool dB ∧ w9 = wx)
  case first =>
    cases t1 with
    | nil =>
      have hn0 : n = 0 := Hn.out
      subst hn0
      have hq : Hid (dB = false) := Hid.mk' HdB.out
      go_wp2_with fail
      go_meet
      case rel => exact ⟨by rw [hq.out], rfl⟩
    | cons w1' t2 =>
      have hn1 : (0 : Int) < (n : Int) := by have := Hn.out; simp at this; omega
      have hof1 : of1 = 1 := by have := Hof.out; rw [if_neg (by omega)] at this; exact this.symm
      subst hof1
      have hwc : w9.cell? ⟨bw, 1, none⟩ = some (.string w1') := (cell_of_blk HGw9.out 1).trans rfl
      have hq : Hid (dB = isDisc w1') := Hid.mk' (HdB.out.trans (discS_cons w1' t2).1)
      go_wp2_with fail
      go_meet
      case rel => exact ⟨by rw [hq.out]; rfl, rfl⟩
  case rest =>
    obtain ⟨rfl, rfl⟩ := hcut
    obtain ⟨t2, ht2⟩ : ∃ t2, t2 = (discS t1).2 := ⟨_, rfl⟩
    have Ht2 := Hid.mk' ht2
    clear ht2
    go_upto_if 33 with fail
    go_cut [] (fun wx => ∃ o2 : Nat, Hid (wx.heap[b4]? = some (.cells #[.slice (some ⟨bw, o2, none⟩) t2.length t2.length] 63 (0, 0))) ∧ Hid (∀ j (h : j < t2.length), (wordsV (w0 :: t1))[o2 + j]? = some (.string t2[j])) ∧
      Hid (wx.heap[b6]? = some (.cells (frameV kd dB 0 0 (.slice none 0 0)) 31 (0, 0))) ∧ Hid (wx.heap[b2]? = some (.cells zero31 31 (0, 0))) ∧ Hid (wx.heap[bw]? = some (.cells (wordsV (w0 :: t1)) 9 (0, 0))) ∧ Hid (Below w.heap.size w wx) ∧ Hid (b6 < wx.heap.size))
    case first =>
      cases dB with
      | false =>
        have ht : t2 = t1 := by
          have h1 := Ht2.out
          have h2 := HdB.out
          cases t1 with
          | nil => exact h1
          | cons a r =>
            rw [(discS_cons a r).1] at h2
            rw [h1, (discS_cons a r).2, if_neg (by rw [← h2]; decide)]
        go_wp2_with fail
        go_meet
        case rel =>
          refine ⟨of1, ?_, ?_, HG69, HG2b9, HGw9, HB9, Hid.mk' hlt9⟩
          · rw [ht, ← Hn.out]; exact HG49
          · refine Hid.mk' fun j hj => ?_
            rw [ht] at hj
            have h0 : of1 = 1 := by
              have := Hof.out
              rw [if_neg (by have := Hn.out; omega)] at this
              exact this.symm
            subst ht
            rw [h0, Nat.add_comm 1 j]
            simp [wordsV, List.getElem?_eq_getElem hj]
      | true =>
        obtain ⟨w1', r2, rfl⟩ : ∃ a r, t1 = a :: r := by
          cases t1 with
          | nil => exact absurd HdB.out (by decide)
          | cons a r => exact ⟨a, r, rfl⟩
        obtain ⟨m, rfl⟩ : ∃ m, n = m + 1 := ⟨r2.length, Hn.out⟩
        have hof1 : of1 = 1 := by have := Hof.out; rw [if_neg (by omega)] at this; exact this.symm
        subst hof1
        have ht : t2 = r2 := by
          have h1 := Ht2.out
          have h2 := HdB.out
          rw [(discS_cons w1' r2).1] at h2
          rw [h1, (discS_cons w1' r2).2, if_pos h2.symm]
        have hml : m = r2.length := by have := Hn.out; simp at this; exact this
        have Hml := Hid.mk' hml
        have Ht := Hid.mk' ht
        clear hml ht
        have hs1 := fun W => slice_one 63 9 Tryz.underlying63 (by kernel_rfl) bw 1 m W
        generalize hof : (if m = 0 then 1 else 1 + 1) = of2 at hs1
        have Hof2 := Hid.mk' hof
        clear hof
        go_step
        refine start_ (n := 5) (S := fun w' => w'.cell? ⟨b4, 0, none⟩ = some (.slice (some ⟨bw, 1, none⟩) (m + 1) (m + 1))) (ds := [4]) #[false, false, false, false, false] (by kernel_rfl) rfl rfl ?hS (fun hHeld => ?_)
        case hS => exact h4c
        have HG4d := Hid.mk' (show w9.drew.heap[b4]? = _ from HG49.out)
        have HG2d := Hid.mk' (show w9.drew.heap[b2]? = _ from HG2b9.out)
        have HGwd := Hid.mk' (show w9.drew.heap[bw]? = _ from HGw9.out)
        have HG6d := Hid.mk' (show w9.drew.heap[b6]? = _ from HG69.out)
        have HBd := Hid.mk' (below_drew1 HB9.out)
        have hltd : b6 < w9.drew.heap.size := hlt9
        clear HG49 HG2b9 HGw9 HG69 HB9 hlt9 h4c
        generalize w9.drew = wd at hHeld HG4d HG2d HGwd HG6d HBd hltd ⊢
        refine take_ (i := 0) (N := some 34) (v := ?_) (a' := ?_) #[true, false, false, false, false] rfl rfl (by kernel_rfl) (fun _ _ _ h => h) (Or.inl ⟨by rfl, ?_⟩) hHeld ?_ ?_
        rotate_left
        · intro w' s0
          go_simp
          with_reducible rfl
        rotate_left
        · simp only [Act.put, List.setIfInBounds_toArray, List.set_cons_zero, List.set_cons_succ, i64_w, i32_w]
          rfl
        refine pure_ (i := 1) (N := some 35) (v := ?_) (a' := ?_) #[true, true, false, false, false] rfl rfl (by kernel_rfl) (fun _ _ _ h => h) (Or.inl ⟨by rfl, ?_⟩) ?_ ?_
        rotate_left
        · intro w'
          go_simp
          with_reducible rfl
        rotate_left
        · simp only [Act.put, List.setIfInBounds_toArray, List.set_cons_zero, List.set_cons_succ, i64_w, i32_w]
          rfl
        refine pure_ (i := 2) (N := some 36) (v := ?_) (a' := ?_) #[true, true, true, false, false] rfl rfl (by kernel_rfl) (fun _ _ _ h => h) (Or.inl ⟨by rfl, ?_⟩) ?_ ?_
        rotate_left
        · intro w'
          go_simp
          with_reducible rfl
        rotate_left
        · simp only [Act.put, List.setIfInBounds_toArray, List.set_cons_zero, List.set_cons_succ, i64_w, i32_w]
          rfl
        have h6c : wd.cell? ⟨b6, 1, none⟩ = some (.bool false) := (cell_of_blk HG6d.out 1).trans rfl
        have h6f : wd.frozen? ⟨b6, 1, none⟩ = false := frozen_of_row wd b6 1 _ _ HG6d.out
        refine one_ (i := 3) (N := none) #[true, true, true, true, false] rfl rfl (by kernel_rfl) (by decide) (fun K hK => ?_)
        refine skip_ (w1 := wd.setCell ⟨b6, 1, none⟩ (.bool true)) (by rfl) rfl ?_ ?_
        · go_simp
        have hS9 : (wd.setCell ⟨b6, 1, none⟩ (.bool true)).cell? ⟨b4, 0, none⟩ = some (.slice (some ⟨bw, 1, none⟩) (m + 1) (m + 1)) :=
          (cell_of_blk ((heap_setCell_other wd ⟨b6, 1, none⟩ b4 (.bool true) (by show b4 ≠ b6; omega)).trans HG4d.out) 0).trans rfl
        refine hK.out _ _ hS9 (fun hHeld => ?_)
        clear hK K hS9 h6c h6f
        have HG4e := Hid.mk' ((heap_setCell_other wd ⟨b6, 1, none⟩ b4 (.bool true) (by show b4 ≠ b6; omega)).trans HG4d.out)
        have HG2e := Hid.mk' ((heap_setCell_other wd ⟨b6, 1, none⟩ b2 (.bool true) (by show b2 ≠ b6; omega)).trans HG2d.out)
        have HGwe := Hid.mk' ((heap_setCell_other wd ⟨b6, 1, none⟩ bw (.bool true) (by show bw ≠ b6; omega)).trans HGwd.out)
        have HG6e := Hid.mk' ((heap_setCell_same wd b6 1 _ _ (.bool true) HG6d.out).trans (show _ = some (Obj.cells (frameV kd true 0 0 (.slice none 0 0)) 31 (0, 0)) from rfl))
        have HBe := Hid.mk' (HBd.out.setCell (p := ⟨b6, 1, none⟩) (by show w.heap.size ≤ b6; omega) (.bool true))
        have hlte : b6 < (wd.setCell ⟨b6, 1, none⟩ (.bool true)).heap.size := by simp; exact hltd
        clear HG4d HG2d HGwd HG6d HBd hltd
        generalize wd.setCell ⟨b6, 1, none⟩ (.bool true) = we at hHeld HG4e HG2e HGwe HG6e HBe hlte ⊢
        have h4c : we.cell? ⟨b4, 0, none⟩ = some (.slice (some ⟨bw, 1, none⟩) (m + 1) (m + 1)) := hHeld
        have h4f : we.frozen? ⟨b4, 0, none⟩ = false := frozen_of_row we b4 0 _ _ HG4e.out
        refine last_ (i := 4) (N := none) #[true, true, true, true, true] rfl rfl (by kernel_rfl) (by decide) (fun K hK => ?_)
        refine skip_ (w1 := we.setCell ⟨b4, 0, none⟩ (.slice (some ⟨bw, of2, none⟩) m m)) (by rfl) rfl ?_ ?_
        · go_simp
        refine hK.out _ _ ?_
        clear hK K h4c h4f
        have HG4f := Hid.mk' ((heap_setCell_same we b4 0 _ _ (.slice (some ⟨bw, of2, none⟩) m m) HG4e.out).trans (show _ = some (Obj.cells #[.slice (some ⟨bw, of2, none⟩) m m] 63 (0, 0)) from rfl))
        have HG2f := Hid.mk' ((heap_setCell_other we ⟨b4, 0, none⟩ b2 (.slice (some ⟨bw, of2, none⟩) m m) (by show b2 ≠ b4; omega)).trans HG2e.out)
        have HGwf := Hid.mk' ((heap_setCell_other we ⟨b4, 0, none⟩ bw (.slice (some ⟨bw, of2, none⟩) m m) (by show bw ≠ b4; omega)).trans HGwe.out)
        have HG6f := Hid.mk' ((heap_setCell_other we ⟨b4, 0, none⟩ b6 (.slice (some ⟨bw, of2, none⟩) m m) (by show b6 ≠ b4; omega)).trans HG6e.out)
        have HBf := Hid.mk' (HBe.out.setCell (p := ⟨b4, 0, none⟩) (by show w.heap.size ≤ b4; omega) (.slice (some ⟨bw, of2, none⟩) m m))
        have hltf : b6 < (we.setCell ⟨b4, 0, none⟩ (.slice (some ⟨bw, of2, none⟩) m m)).heap.size := by simp; exact hlte
        generalize we.setCell ⟨b4, 0, none⟩ (.slice (some ⟨bw, of2, none⟩) m m) = wf at HG4f HG2f HGwf HG6f HBf hltf ⊢
        refine done_ (by kernel_rfl) ?_
        go_wp2_with fail
        go_meet
        case rel =>
          refine ⟨of2, ?_, ?_, HG6f, HG2f, HGwf, HBf, Hid.mk' hltf⟩
          · rw [Ht.out, ← Hml.out]; exact HG4f
          · refine Hid.mk' fun j hj => ?_
            have ht := Ht.out
            subst ht
            have h0 : of2 = 2 := by
              have := Hof2.out
              rw [if_neg (by have := Hml.out; omega)] at this
              exact this.symm
            rw [h0, Nat.add_comm 2 j]
            simp [wordsV, List.getElem?_eq_getElem hj]
    case rest =>
      obtain ⟨o2, hA, hB, hC, hD, hE, hF, hG⟩ := hcut
      obtain ⟨k, hk⟩ : ∃ k, k = t2.length := ⟨_, rfl⟩
      rw [← hk] at hA
      have Hk := Hid.mk' hk
      have h4c' : wc.cell? ⟨b4, 0, none⟩ = some (.slice (some ⟨bw, o2, none⟩) k k) := (cell_of_blk hA.out 0).trans rfl
      have hG' := hG.out
      have hbase : w.heap.size ≤ wc.heap.size := hF.out.size
      clear hk HG49 HG2b9 HGw9 HG69 HB9 hlt9 h4c Hof hA
      have hk4 : k ≤ 4096 := by
        have h1 := discS_le t1
        have h2 := wsS_le s
        rw [HWS.out] at h2
        have h3 := HS.out
        have h4 := Ht2.out
        have h5 := Hk.out
        rw [h4] at h5
        simp at h2
        omega
      go_wp2_with fail
      go_loopg [7, 40] k (fun q s7 s40 wr => ∃ i : Nat, ∃ v : Value, s40 = .int .i64 (i : Int) ∧ i ≤ k ∧ k - i ≤ q ∧ s7 = .func (.func (if i = 0 then 64 else 67)) #[] #[.pointer (some ⟨b6, 0, none⟩)] ∧
        Hid (i = 0 → v = .slice none 0 0) ∧ Hid (wr.heap[b6]? = some (.cells (frameV kd dB (stX (t2.take i)).1 (stX (t2.take i)).2.1 v) 31 (0, 0))) ∧ Hid (Kd.R k76 76 wr w.heap.size (fun _ => True) v (stX (t2.take i)).2.2) ∧
        Hid (wr.heap[b2]? = some (.cells zero31 31 (0, 0))) ∧ Hid (wr.heap[bw]? = some (.cells (wordsV (w0 :: t1)) 9 (0, 0))) ∧ Hid (Below w.heap.size w wr) ∧ Hid (b6 < wr.heap.size))
      case atStart => exact ⟨0, .slice none 0 0, rfl, Nat.zero_le _, Nat.le_refl _, rfl, Hid.mk' (fun _ => rfl), hC, Hid.mk' (Kd.R_nil _ _ _ _ _), hD, hE, hF, hG⟩
      case round =>
        clear hC hD hE hF hG h4c' hG' hbase
        obtain ⟨i, v, rfl, hi, hq, rfl, hv0, hC, hR, hD, hE, hF, hG⟩ := hrel
        by_cases hlt : i < k
        · have g1 : (i : Int) < (k : Int) := by omega
          have g0 : (0 : Int) ≤ (i : Int) := by omega
          obtain ⟨x, hx⟩ : ∃ x, x = t2[i]'(by have := Hk.out; omega) := ⟨_, rfl⟩
          have hwc : wr.cell? ⟨bw, o2 + i, none⟩ = some (.string x) := (cell_of_blk hE.out _).trans ((hB.out i (by have := Hk.out; omega)).trans (by rw [hx]))
          have Hx := Hid.mk' hx
          clear hx
          have hxs : x.size ≤ 4096 := by
            have hm := wordsV_mem (w0 :: t1) (o2 + i) x (by rw [hB.out i (by have := Hk.out; omega), Hx.out])
            rw [← HWS.out] at hm
            exact Nat.le_trans (wsS_size s x hm) HS.out
          have hU := Hid.mk' (unm_any x hxs wr)
          have hnm : (unmS x).1.size ≤ 4096 := Nat.le_trans (unmS_size x) hxs
          have hF' := hF.out.size
          by_cases hi0 : i = 0
          · have hv := hv0.out hi0
            subst hi0
            subst hv
            rw [Nat.add_zero] at hwc
            have hst : Hid (stX (t2.take (0 + 1)) = (atoiV (unmS x).1, (unmS x).2, [])) := Hid.mk' (stX_one t2 x (by have := Hk.out; omega) Hx.out)
            clear hv0 Hx
            generalize hmm : (unmS x).2 = mm at hst
            generalize hnn : (unmS x).1 = nm at hst hnm
            have hU' : Calls Tryz.prog 66 #[.string x] wr (fun e w' => e = .returned (.tuple #[.string nm, .int .i64 mm]) ∧ Below wr.heap.size wr w') := by
              have := hU.out
              unfold UnmR at this
              rw [hnn, hmm] at this
              exact this
            have HU := Hid.mk' hU'
            clear hU hU' hmm hnn
            simp only [if_true]
            go_wp2_with fail
            refine HU.out.mono ?_
            rintro e W1 ⟨rfl, hb⟩
            have H6 := (hb.block b6 hG.out).trans hC.out
            have H2 := Hid.mk' ((hb.block b2 (by have := hG.out; omega)).trans hD.out)
            have Hw := Hid.mk' ((hb.block bw (by have := hG.out; omega)).trans hE.out)
            have HB1 := Hid.mk' (below_step hF.out hb)
            have hG1 := Hid.mk' (Nat.lt_of_lt_of_le hG.out hb.size)
            have HP := Hid.mk' (p2_any nm mm b6 (.int .i64 kd) (.bool dB) _ _ _ W1 H6 (HEnv.out.below HB1.out) hnm)
            clear hb HU hC hD hE hF hG hR H6 hwc
            go_wp2_with fail
            refine HP.out.mono ?_
            rintro e W2 ⟨rfl, h6, hch⟩
            have H6 := Hid.mk' h6
            have H2' := Hid.mk' (hch.blk H2.out (by omega) (by simp))
            have Hw' := Hid.mk' (hch.blk Hw.out (by omega) (by simp))
            have HB2 := Hid.mk' (hch.below HB1.out HB1.out.size (by omega) (fun _ h => by cases h))
            have hG2 := Hid.mk' (Nat.lt_of_lt_of_le hG1.out hch.2.2.2.1)
            clear h6 hch HP H2 Hw HB1 hG1
            go_wp2_with fail
            go_roundg (k - (0 + 1))
            case measure => omega
            case rel =>
              refine ⟨0 + 1, .slice none 0 0, rfl, by omega, Nat.le_refl _, rfl, Hid.mk' (fun h => by omega), ?_, ?_, H2', Hw', HB2, hG2⟩
              · rw [hst.out]; exact H6
              · rw [hst.out]; exact Hid.mk' (Kd.R_nil _ _ _ _ _)
          · have hst : Hid (stX (t2.take (i + 1)) = ((stX (t2.take i)).1, (stX (t2.take i)).2.1, (stX (t2.take i)).2.2 ++ [⟨(unmS x).1, (unmS x).2⟩])) := Hid.mk' (stX_take t2 x i (by have := Hk.out; omega) (by omega) Hx.out)
            have hlen : (stX (t2.take i)).2.2.length ≤ 4096 := Nat.le_trans (stX_len _) (by rw [List.length_take]; omega)
            clear hv0 Hx
            generalize hmm : (unmS x).2 = mm at hst
            generalize hnn : (unmS x).1 = nm at hst hnm
            have hU' : Calls Tryz.prog 66 #[.string x] wr (fun e w' => e = .returned (.tuple #[.string nm, .int .i64 mm]) ∧ Below wr.heap.size wr w') := by
              have := hU.out
              unfold UnmR at this
              rw [hnn, hmm] at this
              exact this
            have HU := Hid.mk' hU'
            clear hU hU' hmm hnn
            generalize (stX (t2.take i)).1 = tl at hC hst
            generalize (stX (t2.take i)).2.1 = ml at hC hst
            generalize (stX (t2.take i)).2.2 = dl at hR hst hlen
            simp only [if_neg hi0]
            go_wp2_with fail
            refine HU.out.mono ?_
            rintro e W1 ⟨rfl, hb⟩
            have H6 := (hb.block b6 hG.out).trans hC.out
            have H2 := Hid.mk' ((hb.block b2 (by have := hG.out; omega)).trans hD.out)
            have Hw := Hid.mk' ((hb.block bw (by have := hG.out; omega)).trans hE.out)
            have HB1 := Hid.mk' (below_step hF.out hb)
            have hG1 := Hid.mk' (Nat.lt_of_lt_of_le hG.out hb.size)
            have hR1 := Kd.R_below hR.out hb
            have hn2 := Hid.mk' (Kd.R_ne hR1 H2.out (by decide))
            have hnw := Hid.mk' (Kd.R_ne hR1 Hw.out (by decide))
            have hown := Hid.mk' (fun k hk => ((Kd.R_bound hR1).1 k hk).2.1)
            have HP := Hid.mk' (p3_any nm mm b6 w.heap.size (.int .i64 kd) (.bool dB) (.int .i64 tl) (.int .i64 ml) v dl W1 H6 hR1 HB1.out.size (by omega))
            clear hb HU hC hD hE hF hG hR H6 hwc hR1
            go_wp2_with fail
            refine HP.out.mono ?_
            rintro e W2 ⟨rfl, v', h6, hr', hch⟩
            have H6 := Hid.mk' h6
            have HR' := Hid.mk' hr'
            have H2' := Hid.mk' (hch.blk H2.out (by omega) hn2.out)
            have Hw' := Hid.mk' (hch.blk Hw.out (by omega) hnw.out)
            have HB2 := Hid.mk' (hch.below HB1.out HB1.out.size (by omega) hown.out)
            have hG2 := Hid.mk' (Nat.lt_of_lt_of_le hG1.out hch.2.2.2.1)
            clear h6 hr' hch HP H2 Hw HB1 hG1 hn2 hnw hown
            go_wp2_with fail
            go_roundg (k - (i + 1))
            case measure => omega
            case rel =>
              refine ⟨i + 1, v', rfl, by omega, Nat.le_refl _, by simp, Hid.mk' (fun h => by omega), ?_, ?_, H2', Hw', HB2, hG2⟩
              · rw [hst.out]; exact H6
              · rw [hst.out]; exact HR'
        · have g1 : ¬ ((i : Int) < (k : Int)) := by omega
          have hik : i = k := by omega
          subst hik
          have htk : t2.take i = t2 := by rw [Hk.out]; exact List.take_length
          rw [htk] at hC hR
          clear htk hv0 hB
          have hres' : Hid ((g, er) = parseS s) := Hid.mk' hres.out.symm
          have hgu : Hid (guessS s = ⟨kd, dB, (stX t2).1, (stX t2).2.1, (stX t2).2.2⟩) := Hid.mk' (by
            unfold guessS
            rw [HWS.out]
            show (⟨kindS w0, (discS t1).1, (stX (discS t1).2).1, (stX (discS t1).2).2.1, (stX (discS t1).2).2.2⟩ : GuessS) = _
            rw [Hkd.out, ← Ht2.out, ← HdB.out])
          generalize (stX t2).1 = tl at hC hgu
          generalize (stX t2).2.1 = ml at hC hgu
          generalize (stX t2).2.2 = dl at hR hgu
          obtain ⟨T1, T2, hT⟩ : ∃ T1 T2, textS kd dB tl ml dl = (T1, T2) := ⟨_, _, rfl⟩
          obtain ⟨kk, hkk⟩ := text_is kd dB tl ml dl
          have hkk := hkk kk (Nat.le_refl _)
          rw [hT] at hkk
          obtain ⟨A, c, rfl⟩ := Kd.R_slice hR.out
          have hTC : Hid (Calls Tryz.prog 23 #[.agg #[.int .i64 kd, .bool dB, .int .i64 tl, .int .i64 ml, .slice A dl.length c]] wr fun e w' => e = .returned (.tuple #[.string T1, .int .i64 T2]) ∧ Below wr.heap.size wr w') :=
            Hid.mk' (ZX.frame_Text.calls kk kd dB tl ml A c dl T1 T2 wr (Kd.R_reads' hR.out).2.2 (Kd.R_reads' hR.out).2.1 hkk (HEnv.out.below hF.out))
          have hc0 : wr.cell? ⟨b6, 0, none⟩ = some (.int .i64 kd) := (cell_of_blk hC.out 0).trans rfl
          have hc1 : wr.cell? ⟨b6, 1, none⟩ = some (.bool dB) := (cell_of_blk hC.out 1).trans rfl
          have hc2 : wr.cell? ⟨b6, 2, none⟩ = some (.int .i64 tl) := (cell_of_blk hC.out 2).trans rfl
          have hc3 : wr.cell? ⟨b6, 3, none⟩ = some (.int .i64 ml) := (cell_of_blk hC.out 3).trans rfl
          have hc4 : wr.cell? ⟨b6, 4, none⟩ = some (.slice A dl.length c) := (cell_of_blk hC.out 4).trans rfl
          have hu31 := Tryz.underlying31
          have hF' := hF.out.size
          clear hkk hE
          generalize Value.func (.func (if i = 0 then 64 else 67)) #[] #[.pointer (some ⟨b6, 0, none⟩)] = v7
          go_wp2_with fail
          refine hTC.out.mono ?_
          rintro e W1 ⟨rfl, hb⟩
          have HR1 := Hid.mk' (Kd.R_below hR.out hb)
          have HC1 := Hid.mk' ((hb.block b6 hG.out).trans hC.out)
          have HD1 := Hid.mk' ((hb.block b2 (by have := hG.out; omega)).trans hD.out)
          have HB1 := Hid.mk' (below_step hF.out hb)
          clear hb hTC hC hD hR hF hc0 hc1 hc2 hc3 hc4 hG
          have hz0 : W1.cell? ⟨b2, 0, none⟩ = some (.int .i64 0) := (cell_of_blk HD1.out 0).trans rfl
          have hz1 : W1.cell? ⟨b2, 1, none⟩ = some (.bool false) := (cell_of_blk HD1.out 1).trans rfl
          have hz2 : W1.cell? ⟨b2, 2, none⟩ = some (.int .i64 0) := (cell_of_blk HD1.out 2).trans rfl
          have hz3 : W1.cell? ⟨b2, 3, none⟩ = some (.int .i64 0) := (cell_of_blk HD1.out 3).trans rfl
          have hz4 : W1.cell? ⟨b2, 4, none⟩ = some (.slice none 0 0) := (cell_of_blk HD1.out 4).trans rfl
          have hy0 : W1.frozen? ⟨b2, 0, none⟩ = false := frozen_of_row W1 b2 0 _ _ HD1.out
          have hy1 : W1.frozen? ⟨b2, 1, none⟩ = false := frozen_of_row W1 b2 1 _ _ HD1.out
          have hy2 : W1.frozen? ⟨b2, 2, none⟩ = false := frozen_of_row W1 b2 2 _ _ HD1.out
          have hy3 : W1.frozen? ⟨b2, 3, none⟩ = false := frozen_of_row W1 b2 3 _ _ HD1.out
          have hy4 : W1.frozen? ⟨b2, 4, none⟩ = false := frozen_of_row W1 b2 4 _ _ HD1.out
          have hx0 : W1.cell? ⟨b6, 0, none⟩ = some (.int .i64 kd) := (cell_of_blk HC1.out 0).trans rfl
          have hx1 : W1.cell? ⟨b6, 1, none⟩ = some (.bool dB) := (cell_of_blk HC1.out 1).trans rfl
          have hx2 : W1.cell? ⟨b6, 2, none⟩ = some (.int .i64 tl) := (cell_of_blk HC1.out 2).trans rfl
          have hx3 : W1.cell? ⟨b6, 3, none⟩ = some (.int .i64 ml) := (cell_of_blk HC1.out 3).trans rfl
          have hx4 : W1.cell? ⟨b6, 4, none⟩ = some (.slice A dl.length c) := (cell_of_blk HC1.out 4).trans rfl
          have h2w : w.heap.size ≤ b2 := hb2w
          by_cases hT2 : T2 = 0
          · subst hT2
            by_cases hT1 : T1.toList = s.toList
            · have hb1 : (T1.toList == s.toList) = true := by simp [hT1]
              have hps : Hid ((g, er) = (⟨kd, dB, tl, ml, dl⟩, 0)) := Hid.mk' (by
                rw [hres'.out]
                unfold parseS
                rw [hgu.out, hT, if_neg (by have := HS.out; omega), if_neg (by simp [hT1])])
              have hg' : Hid (g = ⟨kd, dB, tl, ml, dl⟩) := Hid.mk' (congrArg Prod.fst hps.out)
              have her : er = 0 := congrArg Prod.snd hps.out
              subst her
              clear hps hgu hres' hT
              go_wp2_with fail
              exact parse_end g 0 w W1 b2 HD1.out HB1.out h2w kd dB tl ml _ dl HR1.out hg' _ rfl rfl
            · have hb1 : (T1.toList == s.toList) = false := by simp [hT1]
              have hps : Hid ((g, er) = (⟨0, false, 0, 0, []⟩, 4)) := Hid.mk' (by
                rw [hres'.out]
                unfold parseS
                rw [hgu.out, hT, if_neg (by have := HS.out; omega), if_pos (Or.inr hT1)])
              have hg' : Hid (g = ⟨0, false, 0, 0, []⟩) := Hid.mk' (congrArg Prod.fst hps.out)
              have her : er = 4 := congrArg Prod.snd hps.out
              subst her
              clear hps hgu hres' hT
              go_wp2_with fail
              exact parse_end g 4 w W1 b2 HD1.out HB1.out h2w 0 false 0 0 (.slice none 0 0) [] (Kd.R_nil _ _ _ _ _) hg' _ rfl rfl
          · have hps : Hid ((g, er) = (⟨0, false, 0, 0, []⟩, 4)) := Hid.mk' (by
              rw [hres'.out]
              unfold parseS
              rw [hgu.out, hT, if_neg (by have := HS.out; omega), if_pos (Or.inl hT2)])
            have hg' : Hid (g = ⟨0, false, 0, 0, []⟩) := Hid.mk' (congrArg Prod.fst hps.out)
            have her : er = 4 := congrArg Prod.snd hps.out
            subst her
            clear hps hgu hres' hT
            go_wp2_with fail
            exact parse_end g 4 w W1 b2 HD1.out HB1.out h2w 0 false 0 0 (.slice none 0 0) [] (Kd.R_nil _ _ _ _ _) hg' _ rfl rfl
theorem parse_any (s : ByteArray) (w : World) (HE : Env w) : Calls Tryz.prog 25 #[.string s] w (ParseR (parseS s).1 (parseS s).2 w) := by
  by_cases h : 4096 < s.size
  · have : parseS s = (⟨0, false, 0, 0, []⟩, 17) := by unfold parseS; rw [if_pos h]
    rw [this]
    exact parse_long s h w
  · cases hws : wsS s with
    | nil => have := wsS_length s; rw [hws] at this; cases this
    | cons w0 t1 => exact parse_main s (by omega) w HE w0 t1 hws _ _ (Hid.mk' rfl)
end Go.Proofs.YtkohjcfmcliioaaGreatDoor
namespace Go.Proofs.YtkohjcfmcliioaaGreatDoor.ZD
open Go.Proofs.YtkohjcfmcliioaaGreatDoor.ZA (errW errW_none errW_some info9 S76 z76 k76 k76_open k76_mkM rd_T76 at_T76 S31 z31 k31 k31_open k31_mk rd_T31 at_T31)
open Go.RowKit Go.Proofs.YtkohjcfmcliioaaGreatDoorW.PrintWords Go.Proofs.YtkohjcfmcliioaaGreatDoorW.PrintLast Go.Proofs.YtkohjcfmcliioaaGreatDoorW.PrintMore
attribute [local go_sem] max2_int min2_int max_two min_two max_three min_three max_four min_four   -- for this text's walks alone
set_option linter.unusedVariables false
set_option linter.unusedSimpArgs false
mutual
def frame_Datums.l0 : Nat → List ByteArray → List (S31) → Int → Int → Option (List ByteArray × Int)
  | 0, _, _, _, _ => none
  | k + 1, x5, x16, x17, x18 => if x18 < x17 then (if 0 ≤ x18 then (if x18 < (x16.length : Int) then (frame_Datums.l1 k x5 x16 x17 x18 ((rd_T31 x16 x18).f4) (((rd_T31 x16 x18).f4).length : Int) 0) else (none)) else (none)) else (some (x5, 0))
def frame_Datums.l1 : Nat → List ByteArray → List (S31) → Int → Int → List (S76) → Int → Int → Option (List ByteArray × Int)
  | 0, _, _, _, _, _, _, _ => none
  | k + 1, x5, x16, x17, x18, x23, x24, x25 => if x25 < x24 then (if 0 ≤ x25 then (if x25 < (x23.length : Int) then (if x5.length < 8796093022208 then (frame_Datums.l1 k (x5 ++ [(rd_T76 x23 x25).f0]) x16 x17 x18 x23 x24 (wrap64 (x25 + 1))) else (none)) else (none)) else (none)) else (frame_Datums.l0 k x5 x16 x17 (wrap64 (x18 + 1)))
end
def frame_Datums.f (k : Nat) (a0_0 : ByteArray) (a0_1 : Int) (a0_2 : Int) (a0_3 : Int) (a0_4 : Int) (a0_5 : Int) (a0_6 : Int) (a0_7 : Int) (l0_8 : List (S31)) : Option (List ByteArray × Int) := (frame_All.f a0_0 a0_1 a0_2 a0_3 a0_4 a0_5 a0_6 a0_7 l0_8).bind fun t102 => (if t102 = 0 then (frame_Datums.l0 k ([] : List ByteArray) l0_8 (l0_8.length : Int) 0) else (some (([] : List ByteArray), t102)))
theorem frame_Datums.mono_l : ∀ k, (∀ y0 y1 y2 y3, LeO (frame_Datums.l0 k y0 y1 y2 y3) (frame_Datums.l0 (k + 1) y0 y1 y2 y3)) ∧ (∀ y0 y1 y2 y3 y4 y5 y6, LeO (frame_Datums.l1 k y0 y1 y2 y3 y4 y5 y6) (frame_Datums.l1 (k + 1) y0 y1 y2 y3 y4 y5 y6))
  | 0 => ⟨fun _ _ _ _ r h => by simp [frame_Datums.l0] at h, fun _ _ _ _ _ _ _ r h => by simp [frame_Datums.l1] at h⟩
  | k + 1 => by
    obtain ⟨ih0, ih1⟩ := frame_Datums.mono_l k
    refine ⟨?_, ?_⟩
    · intro y0 y1 y2 y3
      unfold frame_Datums.l0
      repeat' first
      | (with_reducible exact ih0 _ _ _ _)
      | (with_reducible exact ih1 _ _ _ _ _ _ _)
      | (with_reducible exact LeO.refl _)
      | (with_reducible exact LeO.none _)
      | (with_reducible refine LeO.ite ?_ ?_)
      | (with_reducible refine LeO.bind ?_ (fun _ => ?_))
      | exact ih0 _ _ _ _
      | exact ih1 _ _ _ _ _ _ _
      | exact LeO.none _
      | refine LeO.ite ?_ ?_
      | refine LeO.bind ?_ (fun _ => ?_)
    · intro y0 y1 y2 y3 y4 y5 y6
      unfold frame_Datums.l1
      repeat' first
      | (with_reducible exact ih0 _ _ _ _)
      | (with_reducible exact ih1 _ _ _ _ _ _ _)
      | (with_reducible exact LeO.refl _)
      | (with_reducible exact LeO.none _)
      | (with_reducible refine LeO.ite ?_ ?_)
      | (with_reducible refine LeO.bind ?_ (fun _ => ?_))
      | exact ih0 _ _ _ _
      | exact ih1 _ _ _ _ _ _ _
      | exact LeO.none _
      | refine LeO.ite ?_ ?_
      | refine LeO.bind ?_ (fun _ => ?_)
theorem frame_Datums.mono : ∀ a0 a1 a2 a3 a4 a5 a6 a7 a8 k, LeO (frame_Datums.f k a0 a1 a2 a3 a4 a5 a6 a7 a8) (frame_Datums.f (k + 1) a0 a1 a2 a3 a4 a5 a6 a7 a8) := by
  intro a0 a1 a2 a3 a4 a5 a6 a7 a8 k
  obtain ⟨ih0, ih1⟩ := frame_Datums.mono_l k
  unfold frame_Datums.f
  repeat' first
      | (with_reducible exact ih0 _ _ _ _)
      | (with_reducible exact ih1 _ _ _ _ _ _ _)
      | (with_reducible exact LeO.refl _)
      | (with_reducible exact LeO.none _)
      | (with_reducible refine LeO.ite ?_ ?_)
      | (with_reducible refine LeO.bind ?_ (fun _ => ?_))
      | exact ih0 _ _ _ _
      | exact ih1 _ _ _ _ _ _ _
      | exact LeO.none _
      | refine LeO.ite ?_ ?_
      | refine LeO.bind ?_ (fun _ => ?_)
end Go.Proofs.YtkohjcfmcliioaaGreatDoor.ZD
set_option linter.unusedVariables false
namespace Go.Proofs.YtkohjcfmcliioaaGreatDoor
open Go Go.RowKit Go.Proofs.YtkohjcfmcliioaaGreatDoorW.PrintWords
open Go.Proofs.YtkohjcfmcliioaaGreatDoor.ZA (S76 S31 k31 k76)
theorem rd31 (l : List S31) (i : Nat) (h : i < l.length) : ZA.rd_T31 l (i : Int) = l[i] := by
  unfold ZA.rd_T31
  simp [List.getD_eq_getElem?_getD, h]
end Go.Proofs.YtkohjcfmcliioaaGreatDoor
set_option linter.unusedVariables false
set_option linter.unusedSimpArgs false
namespace Go.Proofs.YtkohjcfmcliioaaGreatDoor
open Go Go.RowKit Go.Maps Go.Proofs.YtkohjcfmcliioaaGreatDoorW.PrintWords Go.Proofs.YtkohjcfmcliioaaGreatDoorW.PrintLast Go.Proofs.YtkohjcfmcliioaaGreatDoorW.PrintMore
open Go.Proofs.YtkohjcfmcliioaaGreatDoor.ZA (S76 S31 k31 k76)
theorem C_no {α : Type} (d : Kd α) (W : World) (A : Option Addr) : Kd.C d W A ([] : List α).length [] := ⟨rfl, by simp, fun h => absurd h (by simp)⟩
def holeV (kind : Int) (A : Option Addr) (c : Nat) : Array Value := #[.string ⟨#[72]⟩, .int .i64 kind, .int .i64 2, .int .i64 5000, .int .i64 0, .int .i64 0, .int .i64 1000, .int .i64 1011, .slice A 0 c]
def HoleR (W : World) (e : Ending) (w' : World) : Prop := ∃ A c, e = .returned (.agg (holeV 1 A c)) ∧ Below W.heap.size W w'
theorem hole_any (W : World) : Calls Tryz.prog 38 #[] W (HoleR W) :=
  (ZA.metrolablaw18_Hole.calls _ _ _ _ _ _ _ _ _ W rfl).mono fun e w' h => by
    obtain ⟨v, he, hR, hb⟩ := h
    obtain ⟨A, c, rfl⟩ := Kd.R_slice (Kd.S_R hR)
    exact ⟨A, c, he, hb⟩
def G0 : GuessS := ⟨8, true, 50, 1, [⟨⟨#[65]⟩, 0⟩, ⟨⟨#[66]⟩, 1⟩]⟩
def s0 : ByteArray := ⟨#[112, 111, 115, 105, 116, 105, 111, 110, 32, 100, 105, 115, 99, 32, 53, 48, 40, 77, 41, 32, 65, 32, 66, 40, 77, 41]⟩
theorem parse0 : parseS s0 = (G0, 0) := by kernel_rfl
def frV (g : GuessS) (v : Value) : Array Value := #[.int .i64 g.kind, .bool g.disc, .int .i64 g.tol, .int .i64 g.mat, v]
def CallP (f : Nat) (args : Array Value) (out : Value) (W : World) : Prop := Calls Tryz.prog f args W fun e w' => e = .returned out ∧ Below W.heap.size W w'
theorem virt_at (kind : Int) (A : Option Addr) (c : Nat) (g : GuessS) (v : Value) (base : Nat) (W : World) (hR : Kd.R k76 76 W base (fun _ => True) v g.ds) (r : Int) (h : ZU.frame_Virtual.f ⟨#[72]⟩ kind 2 5000 0 0 1000 1011 [] g.kind g.disc g.tol g.mat g.ds = some (r, 0)) :
    CallP 17 #[.agg (holeV kind A c), .agg (frV g v)] (.tuple #[.int .i64 r, .int .i64 0]) W := by
  obtain ⟨A2, c2, rfl⟩ := Kd.R_slice hR
  exact ZU.frame_Virtual.calls ⟨#[72]⟩ kind 2 5000 0 0 1000 1011 A c [] g.kind g.disc g.tol g.mat A2 c2 g.ds r 0 W (C_no _ _ _) (Nat.zero_le _) (Kd.R_reads' hR).2.2 (Kd.R_reads' hR).2.1 h
theorem bonus_at (k : Nat) (kind : Int) (A : Option Addr) (c : Nat) (g : GuessS) (v : Value) (base : Nat) (W : World) (hR : Kd.R k76 76 W base (fun _ => True) v g.ds) (at_ r : Int) (h : ZU.frame_Bonus.f k ⟨#[72]⟩ kind 2 5000 0 0 1000 1011 [] g.kind g.disc g.tol g.mat g.ds at_ = some (r, 0)) :
    CallP 19 #[.agg (holeV kind A c), .agg (frV g v), .int .i64 at_] (.tuple #[.int .i64 r, .int .i64 0]) W := by
  obtain ⟨A2, c2, rfl⟩ := Kd.R_slice hR
  exact ZU.frame_Bonus.calls k ⟨#[72]⟩ kind 2 5000 0 0 1000 1011 A c [] g.kind g.disc g.tol g.mat A2 c2 g.ds at_ r 0 W (C_no _ _ _) (Nat.zero_le _) (Kd.R_reads' hR).2.2 (Kd.R_reads' hR).2.1 h
theorem check_at (kind : Int) (A : Option Addr) (c : Nat) (g : GuessS) (v : Value) (base : Nat) (W : World) (hR : Kd.R k76 76 W base (fun _ => True) v g.ds) (r : Int) (h : checkS ⟨#[72]⟩ kind 2 5000 0 0 1000 1011 g.kind g.disc g.tol g.mat g.ds = r) :
    CallP 13 #[.agg (holeV kind A c), .agg (frV g v)] (.int .i64 r) W := by
  obtain ⟨A2, c2, rfl⟩ := Kd.R_slice hR
  exact frame_Check.calls ⟨#[72]⟩ kind 2 5000 0 0 1000 1011 A c [] g.kind g.disc g.tol g.mat A2 c2 g.ds r W (C_no _ _ _) (Nat.zero_le _) (Kd.R_reads' hR).2.2 (Kd.R_reads' hR).2.1 (congrArg some h)
def m0 : ByteArray := ⟨#[102, 108, 97, 116, 32, 51, 48]⟩
def m1 : ByteArray := ⟨#[102, 108, 97, 116, 32, 100, 105, 115, 99, 32, 51, 48]⟩
def m2 : ByteArray := ⟨#[112, 111, 115, 105, 116, 105, 111, 110, 32, 48]⟩
def m3 : ByteArray := ⟨#[112, 111, 115, 105, 116, 105, 111, 110, 32, 48, 40, 77, 41, 32, 65]⟩
def m4 : ByteArray := ⟨#[115, 113, 117, 97, 114, 101, 32, 50, 48]⟩
def m5 : ByteArray := ⟨#[114, 117, 110, 111, 117, 116, 32, 50, 48, 32, 65, 32, 66]⟩
def L6 : List (ByteArray × Int) := [(m0, 14), (m1, 14), (m2, 10), (m3, 0), (m4, 13), (m5, 5)]
def D6 : DataW Unit := (((((((DataW.map []).put (.string m0.data.toList) (.lit (.int .i64 14))).put (.string m1.data.toList) (.lit (.int .i64 14))).put (.string m2.data.toList) (.lit (.int .i64 10))).put (.string m3.data.toList) (.lit (.int .i64 0))).put (.string m4.data.toList) (.lit (.int .i64 13))).put (.string m5.data.toList) (.lit (.int .i64 5)))
theorem D6_map : D6 = .map [(.string [102, 108, 97, 116, 32, 51, 48], .lit (.int .i64 14)), (.string [102, 108, 97, 116, 32, 100, 105, 115, 99, 32, 51, 48], .lit (.int .i64 14)), (.string [112, 111, 115, 105, 116, 105, 111, 110, 32, 48], .lit (.int .i64 10)), (.string [112, 111, 115, 105, 116, 105, 111, 110, 32, 48, 40, 77, 41, 32, 65], .lit (.int .i64 0)), (.string [114, 117, 110, 111, 117, 116, 32, 50, 48, 32, 65, 32, 66], .lit (.int .i64 5)), (.string [115, 113, 117, 97, 114, 101, 32, 50, 48], .lit (.int .i64 13))] := by kernel_rfl
theorem of_list {s : ByteArray} {l : List UInt8} (h : l = s.data.toList) : s = ⟨l.toArray⟩ := by
  subst h
  rfl
theorem D6_is (s : ByteArray) (c : Int) (h : Maps.has D6 (.string s.data.toList) = true) (hat : ∀ zd, D6.atKey (.string s.data.toList) zd = .lit (.int .i64 c)) : (s, c) ∈ L6 := by
  rw [D6_map] at h hat
  simp only [Maps.has, List.any_cons, List.any_nil, Lit.sameKey, Bool.or_eq_true, beq_iff_eq, Bool.or_false] at h
  rcases h with h | h | h | h | h | h
  all_goals
    have hs := of_list h
    subst hs
    have hc := hat (.lit (.bool true))
    have hc' : c = _ := (Lit.int.inj (DataW.lit.inj (hc.symm.trans (show _ = DataW.lit (.int .i64 _) from rfl)))).2
    subst hc'
    simp [L6, m0, m1, m2, m3, m4, m5]
theorem tab_ok : ∀ p ∈ L6, (parseS p.1).2 = 0 ∧ checkS ⟨#[72]⟩ 1 2 5000 0 0 1000 1011 (parseS p.1).1.kind (parseS p.1).1.disc (parseS p.1).1.tol (parseS p.1).1.mat (parseS p.1).1.ds = p.2 := by
  intro p hp
  unfold L6 at hp
  simp only [List.mem_cons, List.not_mem_nil, or_false] at hp
  rcases hp with rfl | rfl | rfl | rfl | rfl | rfl
  all_goals exact ⟨(show _ = _ from by kernel_rfl), (show _ = _ from by kernel_rfl)⟩
theorem wpList_insert_own {H : Type} {P : Program} (w : World) {ops : Array Oper} {rest : List Oper} {o : Oper} {a : Act} {Q : Exit → Act → World → Prop}
    (hg : o.guard = none) (m x v : Operand) (t : TypeId) (hop : o.op = Op.insert t m x v) (k e : TypeId) (K : Keyed P k) (ht : P.underlying t = some (.map k e)) (R : Value → Option (DataW H × List MemPlace)) (b n : Nat) (D : DataW H)
    (hm : a.eval m = .map (some b)) (hown : w.ownsMap P k R b n D) (hn : n < maxLen) (key val : Value) (kl : Lit) (hx : a.eval x = key) (hv : a.eval v = val) (hkey : keyOf P k key = some kl) (d : DataW H) (ps : List MemPlace) (hval : R val = some (d, ps))
    (hK : ∀ w', w'.ownsMap P k R b (n + 1) (D.put kl d) → w.grownBy w' (some b) → wpList P ops Q rest (a.put o.dst undef) w') : wpList P ops Q (o :: rest) a w :=
  wpList_plain hg fun K' hK' => by
    obtain ⟨w', hrun, r1, r2⟩ := hown.update K ht hn hkey hval
    unfold Oper.wp
    simp [execOp, hop, hm, hx, hv, hrun, Result.andThen]
    exact hK' _ _ (hK w' r1 r2)
structure St (w W : World) (b1 b2 b3 : Nat) (A1 : Option Addr) (c1 : Nat) (A2 : Option Addr) (c2 : Nat) (v : Value) : Prop where
  h1 : W.heap[b1]? = some (.cells (holeV 1 A1 c1) 28 (0, 0))
  h2 : W.heap[b2]? = some (.cells (holeV 2 A2 c2) 28 (0, 0))
  h3 : W.heap[b3]? = some (.cells (frV G0 v) 31 (0, 0))
  hR : Kd.R k76 76 W w.heap.size (fun _ => True) v G0.ds
  hB : Below w.heap.size w W
theorem blk_in {W W' : World} {b : Nat} {o : Obj} (h : W.heap[b]? = some o) (hb : Below W.heap.size W W') : W'.heap[b]? = some o := (hb.block b (Array.getElem?_eq_some_iff.1 h).1).trans h
theorem St.below {w W W' : World} {b1 b2 b3 : Nat} {A1 : Option Addr} {c1 : Nat} {A2 : Option Addr} {c2 : Nat} {v : Value} (h : St w W b1 b2 b3 A1 c1 A2 c2 v) (hb : Below W.heap.size W W') : St w W' b1 b2 b3 A1 c1 A2 c2 v :=
  ⟨blk_in h.h1 hb, blk_in h.h2 hb, blk_in h.h3 hb, Kd.R_below h.hR hb, below_step h.hB hb⟩
theorem cells9 {W : World} {b : Nat} {k : Int} {A : Option Addr} {c : Nat} (h : W.heap[b]? = some (.cells (holeV k A c) 28 (0, 0))) :
    W.cell? ⟨b, 0, none⟩ = some (.string ⟨#[72]⟩) ∧ W.cell? ⟨b, 1, none⟩ = some (.int .i64 k) ∧ W.cell? ⟨b, 2, none⟩ = some (.int .i64 2) ∧ W.cell? ⟨b, 3, none⟩ = some (.int .i64 5000) ∧ W.cell? ⟨b, 4, none⟩ = some (.int .i64 0) ∧
      W.cell? ⟨b, 5, none⟩ = some (.int .i64 0) ∧ W.cell? ⟨b, 6, none⟩ = some (.int .i64 1000) ∧ W.cell? ⟨b, 7, none⟩ = some (.int .i64 1011) ∧ W.cell? ⟨b, 8, none⟩ = some (.slice A 0 c) :=
  ⟨(cell_of_blk h 0).trans rfl, (cell_of_blk h 1).trans rfl, (cell_of_blk h 2).trans rfl, (cell_of_blk h 3).trans rfl, (cell_of_blk h 4).trans rfl, (cell_of_blk h 5).trans rfl, (cell_of_blk h 6).trans rfl, (cell_of_blk h 7).trans rfl, (cell_of_blk h 8).trans rfl⟩
theorem cells5 {W : World} {b : Nat} {k : Int} {d : Bool} {t m : Int} {v : Value} (h : W.heap[b]? = some (.cells #[.int .i64 k, .bool d, .int .i64 t, .int .i64 m, v] 31 (0, 0))) :
    W.cell? ⟨b, 0, none⟩ = some (.int .i64 k) ∧ W.cell? ⟨b, 1, none⟩ = some (.bool d) ∧ W.cell? ⟨b, 2, none⟩ = some (.int .i64 t) ∧ W.cell? ⟨b, 3, none⟩ = some (.int .i64 m) ∧ W.cell? ⟨b, 4, none⟩ = some v :=
  ⟨(cell_of_blk h 0).trans rfl, (cell_of_blk h 1).trans rfl, (cell_of_blk h 2).trans rfl, (cell_of_blk h 3).trans rfl, (cell_of_blk h 4).trans rfl⟩
def G1 : GuessS := ⟨1, false, 30, 0, []⟩
def G2 : GuessS := ⟨1, true, 30, 0, []⟩
theorem parse1 : parseS m0 = (G1, 0) := by kernel_rfl
theorem parse2 : parseS m1 = (G2, 0) := by kernel_rfl
def planeV : Array Value := #[.string ⟨#[80]⟩, .int .i64 0, .int .i64 0, .int .i64 0, .int .i64 0, .int .i64 0, .int .i64 0, .int .i64 0, .slice none 0 0]
theorem plane_at (g : GuessS) (v : Value) (base : Nat) (W : World) (hR : Kd.R k76 76 W base (fun _ => True) v g.ds) (r : Int) (h : checkS ⟨#[80]⟩ 0 0 0 0 0 0 0 g.kind g.disc g.tol g.mat g.ds = r) :
    CallP 13 #[.agg planeV, .agg (frV g v)] (.int .i64 r) W := by
  obtain ⟨A2, c2, rfl⟩ := Kd.R_slice hR
  exact frame_Check.calls ⟨#[80]⟩ 0 0 0 0 0 0 0 none 0 [] g.kind g.disc g.tol g.mat A2 c2 g.ds r W (C_no _ _ _) (Nat.zero_le _) (Kd.R_reads' hR).2.2 (Kd.R_reads' hR).2.1 (congrArg some h)
theorem cellsP {W : World} {b : Nat} (h : W.heap[b]? = some (.cells planeV 28 (0, 0))) :
    W.cell? ⟨b, 0, none⟩ = some (.string ⟨#[80]⟩) ∧ W.cell? ⟨b, 1, none⟩ = some (.int .i64 0) ∧ W.cell? ⟨b, 2, none⟩ = some (.int .i64 0) ∧ W.cell? ⟨b, 3, none⟩ = some (.int .i64 0) ∧ W.cell? ⟨b, 4, none⟩ = some (.int .i64 0) ∧
      W.cell? ⟨b, 5, none⟩ = some (.int .i64 0) ∧ W.cell? ⟨b, 6, none⟩ = some (.int .i64 0) ∧ W.cell? ⟨b, 7, none⟩ = some (.int .i64 0) ∧ W.cell? ⟨b, 8, none⟩ = some (.slice none 0 0) :=
  ⟨(cell_of_blk h 0).trans rfl, (cell_of_blk h 1).trans rfl, (cell_of_blk h 2).trans rfl, (cell_of_blk h 3).trans rfl, (cell_of_blk h 4).trans rfl, (cell_of_blk h 5).trans rfl, (cell_of_blk h 6).trans rfl, (cell_of_blk h 7).trans rfl, (cell_of_blk h 8).trans rfl⟩
def AwakeR (w : World) (e : Ending) (w' : World) : Prop := e = .returned (.bool true) ∧ Below w.heap.size w w'
end Go.Proofs.YtkohjcfmcliioaaGreatDoor
set_option linter.unusedVariables false
set_option linter.unusedSimpArgs false
namespace Go.Proofs.YtkohjcfmcliioaaGreatDoor
open Go Go.RowKit Go.Maps Go.WideMaps Go.Proofs.YtkohjcfmcliioaaGreatDoorW.PrintWords Go.Proofs.YtkohjcfmcliioaaGreatDoorW.PrintLast Go.Proofs.YtkohjcfmcliioaaGreatDoorW.PrintMore
open Go.Proofs.YtkohjcfmcliioaaGreatDoor.ZA (S76 S31 k31 k76)
set_option maxRecDepth 100000 in
set_option maxHeartbeats 1000000 in
theorem awake_any (w : World) (HE : Env w) : Calls Tryz.prog 12 #[] w (AwakeR w) := by
  have HEnv := Hid.mk' HE
  clear HE
  have hu28 := Tryz.underlying28
  have hu31 := Tryz.underlying31
  go_enter Tryz.func12, Tryz.ntmps12
  go_wp2_with fail
  refine (hole_any w).mono ?_
  rintro e w1 ⟨A1, c1, rfl, hB1⟩
  have HB1 := Hid.mk' hB1
  clear hB1
  go_wp2_with fail
  refine (hole_any w1).mono ?_
  rintro e w2 ⟨A2, c2, rfl, hB2⟩
  have HB2 := Hid.mk' (below_step HB1.out hB2)
  clear hB2 HB1
  simp only [holeV]
  go_upto_region 2 with fail
  obtain ⟨hBa, hGa, hZa⟩ := alloc_facts w2 (.cells (holeV 1 A1 c1) 28)
  change Code.wp _ _ _ _ ((w2.alloc (.cells (holeV 1 A1 c1) 28)).alloc (.cells (holeV 1 A2 c2) 28))
  rw [← hZa]
  generalize w2.alloc (.cells (holeV 1 A1 c1) 28) = w3 at hBa hGa hZa ⊢
  obtain ⟨hBb, hGb, hZb⟩ := alloc_facts w3 (.cells (holeV 1 A2 c2) 28)
  generalize w3.alloc (.cells (holeV 1 A2 c2) 28) = w4 at hBb hGb hZb ⊢
  obtain ⟨b1, hb1⟩ : ∃ b1, b1 = w2.heap.size := ⟨_, rfl⟩
  obtain ⟨b2, hb2⟩ : ∃ b2, b2 = w3.heap.size := ⟨_, rfl⟩
  have HG1 := Hid.mk' ((hBb.block _ (by omega)).trans hGa)
  have HG2 := Hid.mk' hGb
  have HB4 := Hid.mk' (below_step (below_step HB2.out hBa) hBb)
  rw [← hb1] at HG1 ⊢
  rw [← hb2] at HG2 ⊢
  have hle1 : w.heap.size ≤ b1 := by rw [hb1]; exact HB2.out.size
  have hlt12 : b1 < b2 := by omega
  have hlt2 : b2 < w4.heap.size := by omega
  clear hBa hGa hZa hBb hGb hZb hb1 hb2 HB2
  have hc : w4.cell? ⟨b2, 1, none⟩ = some (.int .i64 1) := (cell_of_blk HG2.out 1).trans rfl
  have hf : w4.frozen? ⟨b2, 1, none⟩ = false := frozen_of_row w4 b2 1 _ _ HG2.out
  go_upto_region 3 with fail
  have HG1' := Hid.mk' ((heap_setCell_other w4 ⟨b2, 1, none⟩ b1 (.int .i64 2) (by show b1 ≠ b2; omega)).trans HG1.out)
  have HG2' := Hid.mk' ((heap_setCell_same w4 b2 1 _ _ (.int .i64 2) HG2.out).trans (show _ = some (Obj.cells (holeV 2 A2 c2) 28 (0, 0)) from rfl))
  have HB5 := Hid.mk' (HB4.out.setCell (p := ⟨b2, 1, none⟩) (by show w.heap.size ≤ b2; omega) (.int .i64 2))
  generalize w4.setCell ⟨b2, 1, none⟩ (.int .i64 2) = w5 at HG1' HG2' HB5 ⊢
  clear HG1 HG2 HB4 hc hf hlt2
  have HP := Hid.mk' (parse_any s0 w5 (HEnv.out.below HB5.out))
  rw [parse0] at HP
  go_wp2_with fail
  refine HP.out.mono ?_
  rintro e w6 ⟨v, rfl, hR, hB⟩
  obtain ⟨A3, c3, hv⟩ := Kd.R_slice hR
  have hv' : v = .slice A3 2 c3 := hv
  subst hv'
  clear hv
  simp only [G0]
  have HG16 := Hid.mk' (blk_in HG1'.out hB)
  have HG26 := Hid.mk' (blk_in HG2'.out hB)
  have HB6 := Hid.mk' (below_step HB5.out hB)
  have HR6 := Hid.mk' (Kd.R_lower hR HB5.out.size)
  clear HP hR hB HG1' HG2' HB5
  go_upto_region 4 with fail
  obtain ⟨hBa, hGa, hZa⟩ := alloc_facts w6 (.cells (frV G0 (.slice A3 2 c3)) 31)
  change Code.wp _ _ _ _ (w6.alloc (.cells (frV G0 (.slice A3 2 c3)) 31))
  generalize w6.alloc (.cells (frV G0 (.slice A3 2 c3)) 31) = w7 at hBa hGa hZa ⊢
  obtain ⟨b3, hb3⟩ : ∃ b3, b3 = w6.heap.size := ⟨_, rfl⟩
  rw [← hb3] at hGa ⊢
  have hle3 : w.heap.size ≤ b3 := by rw [hb3]; exact HB6.out.size
  have HS7 : Hid (St w w7 b1 b2 b3 A1 c1 A2 c2 (.slice A3 2 c3)) := Hid.mk' ⟨blk_in HG16.out hBa, blk_in HG26.out hBa, hGa, Kd.R_below HR6.out hBa, below_step HB6.out hBa⟩
  clear hBa hGa hZa hb3 HG16 HG26 HB6 HR6
  obtain ⟨x0, x1, x2, x3, x4, x5, x6, x7, x8⟩ := cells9 HS7.out.h1
  obtain ⟨y0, y1, y2, y3, y4⟩ := cells5 HS7.out.h3
  have HV := Hid.mk' (virt_at 1 A1 c1 G0 _ _ w7 HS7.out.hR 950 (by kernel_rfl))
  go_wp2_with fail
  refine Calls.mono (show Calls _ _ _ _ _ from HV.out) ?_
  rintro e w8 ⟨rfl, hb⟩
  have HS8 := Hid.mk' (HS7.out.below hb)
  clear hb HV HS7 x0 x1 x2 x3 x4 x5 x6 x7 x8 y0 y1 y2 y3 y4
  obtain ⟨x0, x1, x2, x3, x4, x5, x6, x7, x8⟩ := cells9 HS8.out.h2
  obtain ⟨y0, y1, y2, y3, y4⟩ := cells5 HS8.out.h3
  have HV := Hid.mk' (virt_at 2 A2 c2 G0 _ _ w8 HS8.out.hR 1061 (by kernel_rfl))
  go_wp2_with fail
  refine Calls.mono (show Calls _ _ _ _ _ from HV.out) ?_
  rintro e w9 ⟨rfl, hb⟩
  have HS9 := Hid.mk' (HS8.out.below hb)
  clear hb HV HS8 x0 x1 x2 x3 x4 x5 x6 x7 x8 y0 y1 y2 y3 y4
  obtain ⟨x0, x1, x2, x3, x4, x5, x6, x7, x8⟩ := cells9 HS9.out.h1
  obtain ⟨y0, y1, y2, y3, y4⟩ := cells5 HS9.out.h3
  have HV := Hid.mk' (bonus_at 5 1 A1 c1 G0 _ _ w9 HS9.out.hR 1004 4 (by kernel_rfl))
  go_wp2_with fail
  refine Calls.mono (show Calls _ _ _ _ _ from HV.out) ?_
  rintro e w10 ⟨rfl, hb⟩
  have HS10 := Hid.mk' (HS9.out.below hb)
  clear hb HV HS9 x0 x1 x2 x3 x4 x5 x6 x7 x8 y0 y1 y2 y3 y4
  obtain ⟨x0, x1, x2, x3, x4, x5, x6, x7, x8⟩ := cells9 HS10.out.h2
  obtain ⟨y0, y1, y2, y3, y4⟩ := cells5 HS10.out.h3
  have HV := Hid.mk' (bonus_at 5 2 A2 c2 G0 _ _ w10 HS10.out.hR 1004 7 (by kernel_rfl))
  go_wp2_with fail
  refine Calls.mono (show Calls _ _ _ _ _ from HV.out) ?_
  rintro e w11 ⟨rfl, hb⟩
  have HS11 := Hid.mk' (HS10.out.below hb)
  clear hb HV HS10 x0 x1 x2 x3 x4 x5 x6 x7 x8 y0 y1 y2 y3 y4
  obtain ⟨y0, y1, y2, y3, y4⟩ := cells5 HS11.out.h3
  obtain ⟨ad, had, z0, z1⟩ := ZA.at_T76 (Kd.R_reads' HS11.out.hR).2.2 1 (by decide) (by decide)
  subst had
  obtain ⟨gA, rfl⟩ := Kd.R_head HS11.out.hR
  have y4' : w11.cell? ⟨b3, 4, none⟩ = some (.slice (some ⟨gA, 0, none⟩) 2 c3) := y4
  have z0' : w11.cell? ⟨gA, 2, none⟩ = some (.string ⟨#[66]⟩) := z0
  have z1' : w11.cell? ⟨gA, 3, none⟩ = some (.int .i64 1) := z1
  have hu76 := Tryz.underlying76
  clear y4 z0 z1
  go_upto_region 10 with fail
  have HG1 := Hid.mk' HS11.out.h1
  have HB := Hid.mk' HS11.out.hB
  have hM := HS11.out.hB.size
  have hb1M : b1 < w11.heap.size := (Array.getElem?_eq_some_iff.1 HS11.out.h1).1
  clear HS11 y0 y1 y2 y3 y4' z0' z1' hle3
  go_step
  refine wpList_val (.map (some w11.heap.size)) (w11.alloc (.map #[] 0)) (by rfl) (by rfl) ?_
  have hown0 := Hid.mk' (World.ownsMap_made (H := Unit) w11 Tryz.prog 9 (plainElem Tryz.prog 35))
  have hb0 : Below w11.heap.size w11 (w11.alloc (.map #[] 0)) := (Below.refl _ _).alloc (Nat.le_refl _) _
  have hz0 : w11.heap.size < (w11.alloc (.map #[] 0)).heap.size := by simp
  obtain ⟨M, hMe⟩ : ∃ M, M = w11.heap.size := ⟨_, rfl⟩
  rw [← hMe] at hown0 hz0 hM hb1M ⊢
  have HG1m := Hid.mk' (blk_in HG1.out hb0)
  have HBm := Hid.mk' (below_step HB.out hb0)
  generalize w11.alloc (.map #[] 0) = v0 at hown0 HG1m HBm hz0 ⊢
  clear hb0 hMe HG1 HB
  refine wpList_insert_own _ (by rfl) _ _ _ 78 (by rfl) 9 35 (string_keyed Tryz.underlying9) Tryz.underlying78 _ M 0 _ (by rfl) hown0.out (by decide) (.string m0) (.int .i64 14) (.string m0.data.toList) (by rfl) (by rfl) (keyOf_string_mk Tryz.underlying9 (by decide)) (.lit (.int .i64 14)) [] (plainElem_int Tryz.underlying35 (by decide)) ?_
  intro v1 hn1 hg1
  have hown1 := Hid.mk' hn1
  have HG1_1 := Hid.mk' ((hg1.block b1 (by have := HBm.out.size; omega) (by simp; omega)).trans HG1m.out)
  have HB_1 := Hid.mk' (HBm.out.grown hg1 HBm.out.size (fun k hk => by cases hk; exact hM))
  have hz1 : M < v1.heap.size := Nat.lt_of_lt_of_le hz0 hg1.size
  clear hn1 hg1 hown0 HG1m HBm hz0
  have HG1m := HG1_1
  have HBm := HB_1
  clear HG1_1 HB_1
  refine wpList_insert_own _ (by rfl) _ _ _ 78 (by rfl) 9 35 (string_keyed Tryz.underlying9) Tryz.underlying78 _ M 1 _ (by rfl) hown1.out (by decide) (.string m1) (.int .i64 14) (.string m1.data.toList) (by rfl) (by rfl) (keyOf_string_mk Tryz.underlying9 (by decide)) (.lit (.int .i64 14)) [] (plainElem_int Tryz.underlying35 (by decide)) ?_
  intro v2 hn2 hg2
  have hown2 := Hid.mk' hn2
  have HG1_2 := Hid.mk' ((hg2.block b1 (by have := HBm.out.size; omega) (by simp; omega)).trans HG1m.out)
  have HB_2 := Hid.mk' (HBm.out.grown hg2 HBm.out.size (fun k hk => by cases hk; exact hM))
  have hz2 : M < v2.heap.size := Nat.lt_of_lt_of_le hz1 hg2.size
  clear hn2 hg2 hown1 HG1m HBm hz1
  have HG1m := HG1_2
  have HBm := HB_2
  clear HG1_2 HB_2
  refine wpList_insert_own _ (by rfl) _ _ _ 78 (by rfl) 9 35 (string_keyed Tryz.underlying9) Tryz.underlying78 _ M 2 _ (by rfl) hown2.out (by decide) (.string m2) (.int .i64 10) (.string m2.data.toList) (by rfl) (by rfl) (keyOf_string_mk Tryz.underlying9 (by decide)) (.lit (.int .i64 10)) [] (plainElem_int Tryz.underlying35 (by decide)) ?_
  intro v3 hn3 hg3
  have hown3 := Hid.mk' hn3
  have HG1_3 := Hid.mk' ((hg3.block b1 (by have := HBm.out.size; omega) (by simp; omega)).trans HG1m.out)
  have HB_3 := Hid.mk' (HBm.out.grown hg3 HBm.out.size (fun k hk => by cases hk; exact hM))
  have hz3 : M < v3.heap.size := Nat.lt_of_lt_of_le hz2 hg3.size
  clear hn3 hg3 hown2 HG1m HBm hz2
  have HG1m := HG1_3
  have HBm := HB_3
  clear HG1_3 HB_3
  refine wpList_insert_own _ (by rfl) _ _ _ 78 (by rfl) 9 35 (string_keyed Tryz.underlying9) Tryz.underlying78 _ M 3 _ (by rfl) hown3.out (by decide) (.string m3) (.int .i64 0) (.string m3.data.toList) (by rfl) (by rfl) (keyOf_string_mk Tryz.underlying9 (by decide)) (.lit (.int .i64 0)) [] (plainElem_int Tryz.underlying35 (by decide)) ?_
  intro v4 hn4 hg4
  have hown4 := Hid.mk' hn4
  have HG1_4 := Hid.mk' ((hg4.block b1 (by have := HBm.out.size; omega) (by simp; omega)).trans HG1m.out)
  have HB_4 := Hid.mk' (HBm.out.grown hg4 HBm.out.size (fun k hk => by cases hk; exact hM))
  have hz4 : M < v4.heap.size := Nat.lt_of_lt_of_le hz3 hg4.size
  clear hn4 hg4 hown3 HG1m HBm hz3
  have HG1m := HG1_4
  have HBm := HB_4
  clear HG1_4 HB_4
  refine wpList_insert_own _ (by rfl) _ _ _ 78 (by rfl) 9 35 (string_keyed Tryz.underlying9) Tryz.underlying78 _ M 4 _ (by rfl) hown4.out (by decide) (.string m4) (.int .i64 13) (.string m4.data.toList) (by rfl) (by rfl) (keyOf_string_mk Tryz.underlying9 (by decide)) (.lit (.int .i64 13)) [] (plainElem_int Tryz.underlying35 (by decide)) ?_
  intro v5 hn5 hg5
  have hown5 := Hid.mk' hn5
  have HG1_5 := Hid.mk' ((hg5.block b1 (by have := HBm.out.size; omega) (by simp; omega)).trans HG1m.out)
  have HB_5 := Hid.mk' (HBm.out.grown hg5 HBm.out.size (fun k hk => by cases hk; exact hM))
  have hz5 : M < v5.heap.size := Nat.lt_of_lt_of_le hz4 hg5.size
  clear hn5 hg5 hown4 HG1m HBm hz4
  have HG1m := HG1_5
  have HBm := HB_5
  clear HG1_5 HB_5
  refine wpList_insert_own _ (by rfl) _ _ _ 78 (by rfl) 9 35 (string_keyed Tryz.underlying9) Tryz.underlying78 _ M 5 _ (by rfl) hown5.out (by decide) (.string m5) (.int .i64 5) (.string m5.data.toList) (by rfl) (by rfl) (keyOf_string_mk Tryz.underlying9 (by decide)) (.lit (.int .i64 5)) [] (plainElem_int Tryz.underlying35 (by decide)) ?_
  intro v6 hn6 hg6
  have hown6 := Hid.mk' hn6
  have HG1_6 := Hid.mk' ((hg6.block b1 (by have := HBm.out.size; omega) (by simp; omega)).trans HG1m.out)
  have HB_6 := Hid.mk' (HBm.out.grown hg6 HBm.out.size (fun k hk => by cases hk; exact hM))
  have hz6 : M < v6.heap.size := Nat.lt_of_lt_of_le hz5 hg6.size
  clear hn6 hg6 hown5 HG1m HBm hz5
  have HG1m := HG1_6
  have HBm := HB_6
  clear HG1_6 HB_6
  have hown : Hid (v6.ownsMap Tryz.prog 9 (plainElem Tryz.prog 35) M 6 D6) := hown6
  clear hown6
  generalize hDD : D6 = DD at hown
  have HDD := Hid.mk' hDD
  clear hDD
  go_wp2_with (first | (at_range; refine wpList_range_own _ rfl _ 78 rfl 9 35 (string_keyed Tryz.underlying9) Tryz.underlying78 _ M 6 DD rfl hown.out ?_; intro w0 hrg0 hg0 hs0))
  go_frame
  obtain ⟨r, hr⟩ : ∃ r, r = v6.heap.size := ⟨_, rfl⟩
  rw [← hr] at hrg0 hs0 hz6 ⊢
  have hrw : w.heap.size ≤ r := by rw [hr]; exact HBm.out.size
  have hb1r : b1 < r := by omega
  have HG1 := Hid.mk' ((hg0.block b1 (by omega) (by simp)).trans HG1m.out)
  have HB0 := Hid.mk' (HBm.out.grown hg0 HBm.out.size (fun k hk => by cases hk))
  have HRG := Hid.mk' hrg0
  have h6 : Maps.size DD ≤ 6 := by rw [← HDD.out]; decide
  clear hrg0 hg0 hs0 hown HG1m HBm hr
  go_loopg [13] 6 (fun q s13 wr => ∃ left cnt, cnt ≤ q ∧ Hid (wr.ranges Tryz.prog 9 (plainElem Tryz.prog 35) M r 6 DD left cnt) ∧ Hid (∀ z, left z = true → Maps.has DD z = true) ∧
    Hid (wr.heap[b1]? = some (.cells (holeV 1 A1 c1) 28 (0, 0))) ∧ Hid (Below w.heap.size w wr))
  case atStart => exact ⟨_, _, h6, HRG, Hid.mk' (fun _ h => h), HG1, HB0⟩
  case round =>
    clear HRG HG1 HB0 h6
    obtain ⟨left, cnt, hcq, hrg, hleft, HG1, HB⟩ := hrel
    go_upto_region 11 with fail
    go_step
    refine wpList_next_ranges _ (by rfl) _ (by rfl) 9 (string_keyed Tryz.underlying9) (plainElem Tryz.prog 35) Value.string (Value.int .i64) (fun key kl h => by obtain ⟨s, hs, _⟩ := string_of_keyOf Tryz.underlying9 h; exact ⟨s, hs⟩)
      (fun u y h => by obtain ⟨a, ha, _⟩ := plainElem_int_inv Tryz.underlying35 h; exact ⟨a, ha⟩) M r 6 DD left cnt (by rfl) hrg.out ?_ ?_
    · intro hc0 hl0
      clear hrg hleft HG1 hlt12 hle1 hb1M hb1r
      go_upto_region 17 with fail
      obtain ⟨hBa, hGa, hZa⟩ := alloc_facts wr (.cells planeV 28)
      change Code.wp _ _ _ _ (wr.alloc (.cells planeV 28))
      generalize wr.alloc (.cells planeV 28) = u1 at hBa hGa hZa ⊢
      obtain ⟨p1, hp1⟩ : ∃ p1, p1 = wr.heap.size := ⟨_, rfl⟩
      rw [← hp1] at hGa ⊢
      have HP1 := Hid.mk' hGa
      have HBu := Hid.mk' (below_step HB.out hBa)
      have hlp1 : w.heap.size ≤ p1 := by rw [hp1]; exact HB.out.size
      clear hBa hGa hZa hp1 HB
      have HQ := Hid.mk' (parse_any m0 u1 (HEnv.out.below HBu.out))
      rw [parse1] at HQ
      go_wp2_with fail
      refine HQ.out.mono ?_
      rintro e u2 ⟨v, rfl, hR, hB⟩
      obtain ⟨A4, c4, hv⟩ := Kd.R_slice hR
      have hv' : v = .slice A4 0 c4 := hv
      subst hv'
      clear hv
      simp only [G1]
      have HP2 := Hid.mk' (blk_in HP1.out hB)
      have HB2 := Hid.mk' (below_step HBu.out hB)
      have HR2 := Hid.mk' (Kd.R_lower hR HBu.out.size)
      clear HQ hR hB HP1 HBu
      go_upto_region 18 with fail
      obtain ⟨hBa, hGa, hZa⟩ := alloc_facts u2 (.cells (frV G1 (.slice A4 0 c4)) 31)
      change Code.wp _ _ _ _ (u2.alloc (.cells (frV G1 (.slice A4 0 c4)) 31))
      generalize u2.alloc (.cells (frV G1 (.slice A4 0 c4)) 31) = u3 at hBa hGa hZa ⊢
      obtain ⟨p2, hp2⟩ : ∃ p2, p2 = u2.heap.size := ⟨_, rfl⟩
      rw [← hp2] at hGa ⊢
      have HF3 := Hid.mk' hGa
      have HP3 := Hid.mk' (blk_in HP2.out hBa)
      have HB3 := Hid.mk' (below_step HB2.out hBa)
      have HR3 := Hid.mk' (Kd.R_below HR2.out hBa)
      clear hBa hGa hZa hp2 HB2 HR2 HP2
      have HQ := Hid.mk' (parse_any m1 u3 (HEnv.out.below HB3.out))
      rw [parse2] at HQ
      go_wp2_with fail
      refine HQ.out.mono ?_
      rintro e u4 ⟨v, rfl, hR, hB⟩
      obtain ⟨A5, c5, hv⟩ := Kd.R_slice hR
      have hv' : v = .slice A5 0 c5 := hv
      subst hv'
      clear hv
      simp only [G2]
      have HF4 := Hid.mk' (blk_in HF3.out hB)
      have HP4 := Hid.mk' (blk_in HP3.out hB)
      have HB4 := Hid.mk' (below_step HB3.out hB)
      have HR4 := Hid.mk' (Kd.R_below HR3.out hB)
      have HS4 := Hid.mk' (Kd.R_lower hR HB3.out.size)
      clear HQ hR hB HP3 HB3 HR3 HF3
      go_upto_region 19 with fail
      obtain ⟨hBa, hGa, hZa⟩ := alloc_facts u4 (.cells (frV G2 (.slice A5 0 c5)) 31)
      change Code.wp _ _ _ _ (u4.alloc (.cells (frV G2 (.slice A5 0 c5)) 31))
      generalize u4.alloc (.cells (frV G2 (.slice A5 0 c5)) 31) = u5 at hBa hGa hZa ⊢
      obtain ⟨p3, hp3⟩ : ∃ p3, p3 = u4.heap.size := ⟨_, rfl⟩
      rw [← hp3] at hGa ⊢
      have HE5 := Hid.mk' hGa
      have HF5 := Hid.mk' (blk_in HF4.out hBa)
      have HP5 := Hid.mk' (blk_in HP4.out hBa)
      have HB5 := Hid.mk' (below_step HB4.out hBa)
      have HR5 := Hid.mk' (Kd.R_below HR4.out hBa)
      have HS5 := Hid.mk' (Kd.R_below HS4.out hBa)
      clear hBa hGa hZa hp3 HB4 HR4 HP4 HF4 HS4
      obtain ⟨x0, x1, x2, x3, x4, x5, x6, x7, x8⟩ := cellsP HP5.out
      obtain ⟨y0, y1, y2, y3, y4⟩ := cells5 HF5.out
      have HV := Hid.mk' (plane_at G1 _ _ u5 HR5.out 0 (by kernel_rfl))
      go_wp2_with fail
      refine Calls.mono (show Calls _ _ _ _ _ from HV.out) ?_
      rintro e u6 ⟨rfl, hb⟩
      have HE6 := Hid.mk' (blk_in HE5.out hb)
      have HP6 := Hid.mk' (blk_in HP5.out hb)
      have HB6 := Hid.mk' (below_step HB5.out hb)
      have HS6 := Hid.mk' (Kd.R_below HS5.out hb)
      clear hb HV HE5 HF5 HP5 HB5 HR5 HS5 x0 x1 x2 x3 x4 x5 x6 x7 x8 y0 y1 y2 y3 y4
      obtain ⟨x0, x1, x2, x3, x4, x5, x6, x7, x8⟩ := cellsP HP6.out
      obtain ⟨y0, y1, y2, y3, y4⟩ := cells5 HE6.out
      have HV := Hid.mk' (plane_at G2 _ _ u6 HS6.out 3 (by kernel_rfl))
      go_wp2_with fail
      refine Calls.mono (show Calls _ _ _ _ _ from HV.out) ?_
      rintro e u7 ⟨rfl, hb⟩
      have HB7 := Hid.mk' (below_step HB6.out hb)
      clear hb HV HE6 HP6 HB6 HS6 x0 x1 x2 x3 x4 x5 x6 x7 x8 y0 y1 y2 y3 y4
      go_wp2_with fail
      go_ret
      exact ⟨rfl, HB7.out⟩
    · intro x c kl y w3 cnt3 hkey hlk hv hat hrg3 hlt hg3 hs3 hen
      obtain ⟨s, hs, rfl, _⟩ := string_of_keyOf Tryz.underlying9 hkey
      have hs' : x = s := Value.string.inj hs
      subst hs'
      obtain ⟨c', hc', rfl, _⟩ := plainElem_int_inv Tryz.underlying35 hv
      have hc2 : c = c' := (Value.int.inj hc').2
      subst hc2
      have hmem : (x, c) ∈ L6 := D6_is x c (by rw [HDD.out]; exact hleft.out _ hlk) (fun zd => by rw [HDD.out]; exact hat zd)
      obtain ⟨hp0, hpc⟩ := tab_ok _ hmem
      have HG13 := Hid.mk' ((hg3.block b1 (by have := hrg.out.lt; omega) (by intro h; cases h; omega)).trans HG1.out)
      have HB13 := Hid.mk' (HB.out.grown hg3 HB.out.size (fun k hk => by cases hk; exact hrw))
      have HRG3 := Hid.mk' hrg3
      have hleft3 : Hid (∀ z, (left z && !z.sameKey (.string x.data.toList)) = true → Maps.has DD z = true) := Hid.mk' (fun z hz => hleft.out z (by simp at hz; exact hz.1))
      have HQ0 := Hid.mk' (parse_any x w3 (HEnv.out.below HB13.out))
      clear hs hkey hlk hv hat hrg3 hg3 hs3 hc' hrg hleft HG1 HB hmem
      obtain ⟨gg, hgg⟩ : ∃ gg, gg = (parseS x).1 := ⟨_, rfl⟩
      rw [hp0, ← hgg] at HQ0
      rw [← hgg] at hpc
      have HPC := Hid.mk' hpc
      clear hpc hp0 hgg
      go_wp2_with fail
      refine HQ0.out.mono ?_
      rintro e u2 ⟨v, rfl, hR, hB⟩
      obtain ⟨A4, c4, hv⟩ := Kd.R_slice hR
      subst hv
      have HG2 := Hid.mk' (blk_in HG13.out hB)
      have HB2 := Hid.mk' (below_step HB13.out hB)
      have HR2 := Hid.mk' hR
      have HRG4 := Hid.mk' (HRG3.out.kept (row := none) ⟨hB.os, hB.tape, hB.output, hB.size, fun j hj _ => hB.block j hj⟩ (by simp) (by simp))
      clear HQ0 hR hB HG13 HB13 HRG3 hen
      go_upto_region 14 with fail
      obtain ⟨hBa, hGa, hZa⟩ := alloc_facts u2 (.cells (frV gg (.slice A4 gg.ds.length c4)) 31)
      change Code.wp _ _ _ _ (u2.alloc (.cells (frV gg (.slice A4 gg.ds.length c4)) 31))
      have HRG5 := Hid.mk' (HRG4.out.alloc (.cells (frV gg (.slice A4 gg.ds.length c4)) 31))
      generalize u2.alloc (.cells (frV gg (.slice A4 gg.ds.length c4)) 31) = u3 at hBa hGa hZa HRG5 ⊢
      obtain ⟨p2, hp2⟩ : ∃ p2, p2 = u2.heap.size := ⟨_, rfl⟩
      rw [← hp2] at hGa ⊢
      have HF3 := Hid.mk' hGa
      have HG3 := Hid.mk' (blk_in HG2.out hBa)
      have HB3 := Hid.mk' (below_step HB2.out hBa)
      have HR3 := Hid.mk' (Kd.R_below HR2.out hBa)
      clear hBa hGa hZa hp2 HB2 HR2 HG2 HRG4
      obtain ⟨x0, x1, x2, x3, x4, x5, x6, x7, x8⟩ := cells9 HG3.out
      obtain ⟨y0, y1, y2, y3, y4⟩ := cells5 HF3.out
      have HV := Hid.mk' (check_at 1 A1 c1 gg _ _ u3 HR3.out c HPC.out)
      go_wp2_with fail
      refine Calls.mono (show Calls _ _ _ _ _ from HV.out) ?_
      rintro e u4 ⟨rfl, hb⟩
      have HG4 := Hid.mk' (blk_in HG3.out hb)
      have HB4 := Hid.mk' (below_step HB3.out hb)
      have HRG6 := Hid.mk' (HRG5.out.kept (row := none) ⟨hb.os, hb.tape, hb.output, hb.size, fun j hj _ => hb.block j hj⟩ (by simp) (by simp))
      clear hb HV HF3 HG3 HB3 HR3 HRG5 x0 x1 x2 x3 x4 x5 x6 x7 x8 y0 y1 y2 y3 y4
      go_wp2_with fail
      go_roundg cnt3
      case measure => omega
      case rel => exact ⟨_, _, Nat.le_refl _, HRG6, hleft3, HG4, HB4⟩
def awake.f : Option Bool := some true
theorem awake.calls (r : Bool) (w : World) (h : awake.f = some r) (HE_ : Env w) : Calls Tryz.prog 12 #[] w fun e w' => e = .returned (.bool r) ∧ Below w.heap.size w w' := by
  cases h
  exact awake_any w HE_
end Go.Proofs.YtkohjcfmcliioaaGreatDoor
set_option linter.unusedVariables false
namespace Go.Proofs.YtkohjcfmcliioaaGreatDoor
open Go Go.RowKit Go.Proofs.YtkohjcfmcliioaaGreatDoorW.PrintWords
open Go.Proofs.YtkohjcfmcliioaaGreatDoor.ZA (S76 S31 k31 k76)
theorem heap76 : Kd.Heap k76 := Kd.heap_iso _ (Kd.heap_pair Kd.heap_string (Kd.heap_int _))
theorem V76 {w : World} {A : Option Addr} {c : Nat} {l : List S76} (hr : Kd.C k76 w A l.length l) (hc : l.length ≤ c) : Kd.V k76 76 w w.heap.size (fun k => k < w.heap.size) (.slice A l.length c) l := Kd.V_mk hc (Kd.C_F heap76 hr)
def ref_Few.f (k : Nat) (a0_0 : Int) (a0_1 : Bool) (a0_2 : Int) (a0_3 : Int) (l0_4 : List S76) : Option Bool := ZA.metrolabref19_Few.f k a0_0 a0_1 a0_2 a0_3 l0_4
theorem ref_Few.mono : ∀ a0 a1 a2 a3 a4 k, LeO (ref_Few.f k a0 a1 a2 a3 a4) (ref_Few.f (k + 1) a0 a1 a2 a3 a4) := ZA.metrolabref19_Few.mono
theorem ref_Few.calls (k : Nat) (a0_0 : Int) (a0_1 : Bool) (a0_2 : Int) (a0_3 : Int) (A0_4 : Option Addr) (c0_4 : Nat) (l0_4 : List (S76)) (r : Bool) (w : World) (hr0_4 : Kd.C k76 w A0_4 l0_4.length l0_4) (hc0_4 : l0_4.length ≤ c0_4) (h : ref_Few.f k a0_0 a0_1 a0_2 a0_3 l0_4 = some r) :
    Calls Tryz.prog 11 #[.agg #[.int .i64 a0_0, .bool a0_1, .int .i64 a0_2, .int .i64 a0_3, .slice A0_4 l0_4.length c0_4]] w fun e w' => e = .returned (.bool r) ∧ Below w.heap.size w w' :=
  ZA.metrolabref19_Few.calls k a0_0 a0_1 a0_2 a0_3 _ A0_4 c0_4 l0_4 r w (V76 hr0_4 hc0_4) h
def ref_Same.f (k : Nat) (a0_0 : Int) (a0_1 : Bool) (a0_2 : Int) (a0_3 : Int) (l0_4 : List S76) (a1_0 : Int) (a1_1 : Bool) (a1_2 : Int) (a1_3 : Int) (l1_4 : List S76) : Option Bool := ZA.metrolabref19_Same.f k a0_0 a0_1 a0_2 a0_3 l0_4 a1_0 a1_1 a1_2 a1_3 l1_4
theorem ref_Same.mono : ∀ a0 a1 a2 a3 a4 a5 a6 a7 a8 a9 k, LeO (ref_Same.f k a0 a1 a2 a3 a4 a5 a6 a7 a8 a9) (ref_Same.f (k + 1) a0 a1 a2 a3 a4 a5 a6 a7 a8 a9) := ZA.metrolabref19_Same.mono
end Go.Proofs.YtkohjcfmcliioaaGreatDoor
set_option linter.unusedVariables false
set_option linter.unusedSimpArgs false
namespace Go.Proofs.YtkohjcfmcliioaaGreatDoor
open Go Go.RowKit Go.Proofs.YtkohjcfmcliioaaGreatDoorW.PrintWords
open Go.Proofs.YtkohjcfmcliioaaGreatDoor.ZA (S76 S31 k31 k76)
section
variable (name : ByteArray) (kind axis x y z lo hi : Int) (l : List S31)
theorem rfeat_is : Ev (fun k => ZA.metrolabref18_Check.f k name kind axis x y z lo hi l) (featS name kind axis x y z lo hi) := by
  unfold ZA.metrolabref18_Check.f
  refine Ev.bind (rname_is name) ?_
  refine Ev.after 4 fun m => ?_
  unfold featS
  simp only [ZA.metrolabref18_Check.j0, ZA.metrolabref18_Check.j1, ZA.metrolabref18_Check.j2, rin_f, rcheck_f, limS, Option.bind_some]
  by_cases hn : nameS name = 0
  · by_cases h1 : kind < 0 ∨ 5 ≤ kind ∨ axis < 0 ∨ 3 ≤ axis
    · by_cases a1 : kind < 0 <;> by_cases a2 : kind ≥ 5 <;> by_cases a3 : axis < 0 <;> by_cases a4 : axis ≥ 3 <;> simp [*] <;> omega
    · have a1 : ¬ kind < 0 := by omega
      have a2 : ¬ kind ≥ 5 := by omega
      have a3 : ¬ axis < 0 := by omega
      have a4 : ¬ axis ≥ 3 := by omega
      rw [if_neg h1]
      simp only [hn, a1, a2, a3, a4, if_true, if_false, decide_false, ne_eq, not_true_eq_false, Bool.false_eq_true]
      generalize inS x = bx
      generalize inS y = b_y
      generalize inS z = bz
      generalize (inS lo && inS hi) = c
      by_cases k4 : kind = 4
      · subst k4
        by_cases ha : axis = 0 <;> cases bx <;> cases b_y <;> cases bz <;> cases c <;> by_cases hl : lo > hi <;> by_cases hl1 : lo < 1 <;> simp [*]
      · by_cases k0 : kind = 0
        · subst k0
          by_cases hlo : lo = 0 <;> by_cases hhi : hi = 0 <;> cases bx <;> cases b_y <;> cases bz <;> simp [*]
        · cases bx <;> cases b_y <;> cases bz <;> cases c <;> by_cases hl : lo > hi <;> by_cases hl1 : lo < 1 <;> simp [*]
  · simp [hn]
end
theorem restS_F (b1 b2 : Bool) (R : RowS) (kind : Int) (disc : Bool) (tol mat : Int) (n : Nat) (F : Bool) :
    restS b1 b2 R kind disc tol mat n F = if restS b1 b2 R kind disc tol mat n false = 0 then (if F = true then 7 else 0) else restS b1 b2 R kind disc tol mat n false := by
  unfold restS
  repeat' split
  all_goals first | rfl | omega | simp_all
section
variable (name : ByteArray) (kind axis x y z lo hi : Int) (l : List S31) (xk : Int) (disc : Bool) (tol mat : Int) (ds : List S76)
theorem rchk_loop (h3 : ds.length ≤ 3) : ∀ (d i : Nat), ds.length - i = d → i ≤ ds.length →
    Ev (fun k => ZU.metrolabref19_Check.l0 k (i : Int) name kind axis x y z lo hi l xk disc tol mat ds) (if (ds.drop i).any (fun d => d.f0.toList == name.toList) = true then (7 : Int) else 0)
  | 0, i, hd, hi => by
    obtain rfl : i = ds.length := by omega
    have c1 : ¬ ((ds.length : Int) < (ds.length : Int)) := by omega
    rw [List.drop_of_length_le (Nat.le_refl _)]
    refine Ev.after 1 fun k => ?_
    rw [ZU.metrolabref19_Check.l0, if_neg c1]
    rfl
  | d + 1, i, hd, hi => by
    have hlt : i < ds.length := by omega
    have c1 : (i : Int) < (ds.length : Int) := by omega
    have hwr : -9223372036854775808 ≤ (i : Int) + 1 ∧ (i : Int) + 1 ≤ 9223372036854775807 := by omega
    have ih := rchk_loop h3 d (i + 1) (by omega) hlt
    rw [List.drop_eq_getElem_cons hlt, List.any_cons]
    by_cases h : (ds[i]).f0.toList = name.toList
    · rw [show ((ds[i]).f0.toList == name.toList) = true by simp [h], Bool.true_or, if_pos rfl]
      refine Ev.after 1 fun k => ?_
      rw [ZU.metrolabref19_Check.l0, if_pos c1, if_pos (Int.natCast_nonneg i), rd76 ds i hlt, if_pos h]
    · rw [show ((ds[i]).f0.toList == name.toList) = false by simp [h], Bool.false_or]
      refine Ev.step (fun k => ?_) ih
      rw [ZU.metrolabref19_Check.l0, if_pos c1, if_pos (Int.natCast_nonneg i), rd76 ds i hlt, if_neg h, IntWalk.wrap64_in _ hwr]
      rfl
theorem rcheck_is : Ev (fun k => ZU.metrolabref19_Check.f k name kind axis x y z lo hi l xk disc tol mat ds) (checkS name kind axis x y z lo hi xk disc tol mat ds) := by
  unfold ZU.metrolabref19_Check.f checkS
  refine Ev.bind (rfeat_is name kind axis x y z lo hi l) ?_
  by_cases hf : featS name kind axis x y z lo hi = 0
  · rw [if_neg (by rw [hf]; decide)]
    refine Ev.pos hf ?_
    refine Ev.bind (rplain_is xk disc tol mat ds) ?_
    by_cases hp : plainS xk tol mat ds = 0
    · rw [if_neg (by rw [hp]; decide)]
      refine Ev.pos hp ?_
      obtain ⟨x0, x9, _, _, _, h3, _⟩ := plainS_ok hp
      obtain ⟨k0, k5⟩ := featS_kind hf
      have hq : ref_permitted.f name kind axis x y z lo hi l xk disc tol mat ds = some (restS (isS (rowS xk).on kind) (isS (rowS xk).disc kind) (rowS xk) kind disc tol mat ds.length false) := if_pos ⟨x0, x9, k0, k5⟩
      simp only [hq, Option.bind_some]
      rw [restS_F _ _ _ _ _ _ _ _ (ds.any fun d => d.f0.toList == name.toList)]
      by_cases hr : restS (isS (rowS xk).on kind) (isS (rowS xk).disc kind) (rowS xk) kind disc tol mat ds.length false = 0
      · rw [if_pos hr]
        have h0 := rchk_loop name kind axis x y z lo hi l xk disc tol mat ds h3 _ 0 rfl (Nat.zero_le _)
        rw [List.drop_zero] at h0
        exact Ev.pos hr h0
      · rw [if_neg hr]
        exact Ev.neg hr (Ev.now _)
    · rw [if_pos hp]
      exact Ev.neg hp (Ev.now _)
  · rw [if_pos hf]
    exact Ev.neg hf (Ev.now _)
end
/-- Few: how many frames and datums, how long names. -/
def few1 (f : S31) : Bool := decide (f.f4.length ≤ 6) && f.f4.all (fun d => decide (d.f0.size ≤ 100))
def fewS (name : ByteArray) (l : List S31) : Bool := decide (name.size ≤ 100) && decide (l.length ≤ 12) && l.all few1
section
variable (name : ByteArray) (kind axis x y z lo hi : Int) (l : List S31)
theorem few_in (h12 : l.length ≤ 12) (i : Nat) (hi' : i < l.length) (h6 : (l[i]).f4.length ≤ 6) (r : Bool) (hk : Ev (fun k => ZA.metrolabref18_Few.l0 k ((i + 1 : Nat) : Int) name kind axis x y z lo hi l) r) : ∀ (d j : Nat), (l[i]).f4.length - j = d → j ≤ (l[i]).f4.length →
    Ev (fun k => ZA.metrolabref18_Few.l1 k (i : Int) (j : Int) name kind axis x y z lo hi l) (((l[i]).f4.drop j).all (fun d => decide (d.f0.size ≤ 100)) && r)
  | 0, j, hd, hj => by
    obtain rfl : j = (l[i]).f4.length := by omega
    have c0 : (i : Int) < (l.length : Int) := by omega
    have c1 : ¬ (((l[i]).f4.length : Int) < ((l[i]).f4.length : Int)) := by omega
    have hwr : -9223372036854775808 ≤ (i : Int) + 1 ∧ (i : Int) + 1 ≤ 9223372036854775807 := by omega
    rw [List.drop_of_length_le (Nat.le_refl _), List.all_nil, Bool.true_and]
    refine Ev.step (fun k => ?_) hk
    rw [ZA.metrolabref18_Few.l1, if_pos (Int.natCast_nonneg i), if_pos c0, rd31 l i hi', if_neg c1, IntWalk.wrap64_in _ hwr]
    rfl
  | d + 1, j, hd, hj => by
    have hlt : j < (l[i]).f4.length := by omega
    have c0 : (i : Int) < (l.length : Int) := by omega
    have c1 : (j : Int) < ((l[i]).f4.length : Int) := by omega
    have hwr : -9223372036854775808 ≤ (j : Int) + 1 ∧ (j : Int) + 1 ≤ 9223372036854775807 := by omega
    have ih := few_in h12 i hi' h6 r hk d (j + 1) (by omega) hlt
    rw [List.drop_eq_getElem_cons hlt, List.all_cons]
    by_cases h : ((l[i]).f4[j]).f0.size ≤ 100
    · rw [decide_eq_true h, Bool.true_and]
      refine Ev.step (fun k => ?_) ih
      rw [ZA.metrolabref18_Few.l1, if_pos (Int.natCast_nonneg i), if_pos c0, rd31 l i hi', if_pos c1, if_pos (Int.natCast_nonneg j), rd76 _ j hlt, if_neg (by omega), IntWalk.wrap64_in _ hwr]
      rfl
    · rw [decide_eq_false h, Bool.false_and, Bool.false_and]
      refine Ev.after 1 fun k => ?_
      rw [ZA.metrolabref18_Few.l1, if_pos (Int.natCast_nonneg i), if_pos c0, rd31 l i hi', if_pos c1, if_pos (Int.natCast_nonneg j), rd76 _ j hlt, if_pos (by omega)]
theorem few_out (h12 : l.length ≤ 12) : ∀ (d i : Nat), l.length - i = d → i ≤ l.length → Ev (fun k => ZA.metrolabref18_Few.l0 k (i : Int) name kind axis x y z lo hi l) ((l.drop i).all few1)
  | 0, i, hd, hi' => by
    obtain rfl : i = l.length := by omega
    have c1 : ¬ ((l.length : Int) < (l.length : Int)) := by omega
    rw [List.drop_of_length_le (Nat.le_refl _), List.all_nil]
    refine Ev.after 1 fun k => ?_
    rw [ZA.metrolabref18_Few.l0, if_neg c1]
  | d + 1, i, hd, hi' => by
    have hlt : i < l.length := by omega
    have c1 : (i : Int) < (l.length : Int) := by omega
    have ih := few_out h12 d (i + 1) (by omega) hlt
    rw [List.drop_eq_getElem_cons hlt, List.all_cons]
    by_cases h : (l[i]).f4.length ≤ 6
    · have hin := few_in name kind axis x y z lo hi l h12 i hlt h _ ih _ 0 rfl (Nat.zero_le _)
      rw [List.drop_zero] at hin
      rw [show few1 l[i] = (l[i]).f4.all (fun d => decide (d.f0.size ≤ 100)) by unfold few1; rw [decide_eq_true h, Bool.true_and]]
      refine Ev.step (fun k => ?_) hin
      rw [ZA.metrolabref18_Few.l0, if_pos c1, if_pos (Int.natCast_nonneg i), rd31 l i hlt, if_neg (by omega)]
      rfl
    · rw [show few1 l[i] = false by unfold few1; rw [decide_eq_false h, Bool.false_and], Bool.false_and]
      refine Ev.after 1 fun k => ?_
      rw [ZA.metrolabref18_Few.l0, if_pos c1, if_pos (Int.natCast_nonneg i), rd31 l i hlt, if_pos (by omega)]
theorem few_is : Ev (fun k => ZA.metrolabref18_Few.f k name kind axis x y z lo hi l) (fewS name l) := by
  have hj : ∀ b, b = decide ((l.length : Int) > 12) → Ev (fun k => ZA.metrolabref18_Few.j0 k b name kind axis x y z lo hi l) (decide (l.length ≤ 12) && l.all few1) := by
    intro b hb
    by_cases h : l.length ≤ 12
    · have : b = false := by rw [hb, decide_eq_false]; omega
      subst this
      have h0 := few_out name kind axis x y z lo hi l h _ 0 rfl (Nat.zero_le _)
      rw [List.drop_zero] at h0
      rw [decide_eq_true h, Bool.true_and]
      refine Ev.step (fun k => ?_) h0
      rw [ZA.metrolabref18_Few.j0, if_neg (by decide)]
      rfl
    · have : b = true := by rw [hb, decide_eq_true]; omega
      subst this
      rw [decide_eq_false h, Bool.false_and]
      exact Ev.after 1 fun k => rfl
  unfold ZA.metrolabref18_Few.f fewS
  by_cases h : name.size ≤ 100
  · rw [decide_eq_true h, Bool.true_and]
    exact Ev.neg (by omega) (hj _ rfl)
  · rw [decide_eq_false h, Bool.false_and, Bool.false_and]
    refine Ev.pos (by omega) (Ev.after 1 fun k => rfl)
end
theorem rfew_is (kind : Int) (disc : Bool) (tol mat : Int) (ds : List S76) : Ev (fun k => ref_Few.f k kind disc tol mat ds) (few1 ⟨kind, disc, tol, mat, ds⟩) := by
  unfold ref_Few.f ZA.metrolabref19_Few.f
  refine Ev.bind (few_is _ _ _ _ _ _ _ _ _) ?_
  have : fewS (⟨#[]⟩ : ByteArray) [(⟨kind, disc, tol, mat, ds⟩ : S31)] = few1 ⟨kind, disc, tol, mat, ds⟩ := by
    unfold fewS
    rw [decide_eq_true (by decide), decide_eq_true (by simp), List.all_cons, List.all_nil]
    simp
  rw [this]
  exact Ev.now _
end Go.Proofs.YtkohjcfmcliioaaGreatDoor
