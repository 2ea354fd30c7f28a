/- A part of what the claim's last text leans on. -/
import Derived.Test.YtkohjcfmcliioaaGreatDoorSC2
import Derived.Shelf.LaysC
import Derived.Shelf.LaysM
import Derived.Shelf.Slices.CompactS
import Derived.Shelf.Small.Strs
import Derived.Shelf.Small.Wraps
import Derived.Shelf.Sort.Plain
import Derived.Shelf.Strconv.AtoiAll
import Derived.Shelf.Strconv.Itoa3
import Derived.Shelf.Strings.BuilderX
import Derived.Shelf.Strings.OnBuilder
import Derived.Shelf.Strings.Split
import Derived.Test.YtkohjcfmcliioaaGreatDoorProg
import Derived.Lib.LaidTab
import Derived.Lib.AppendIntMem
import Derived.Below
import Derived.Deep.Draws
import Derived.Deep.AppendLies
import Derived.Maps.AppendAt
import Derived.OwnWalk
import Derived.Laws.BytesArg
import Derived.Laws.MakeOwn
import Derived.Laws.OwnMore
import Derived.Deep.OwnRows
import Derived.Tactics
import Derived.Lib.ConvBytes
import Derived.Laws.Slices
import Derived.WalkKit
import Derived.KernelRfl
import Derived.RowKit3
import Derived.Deep.LoopGhost
import Derived.Deep.QuietTactic
import Derived.BigQuiet
import Derived.WideLaws
import Derived.Deep.DeepCutAuto
import Derived.Deep.CutBlock
import Derived.Deep.RegionHeld3
import Derived.Laws.Rows
import Derived.Lib.AppendStr
import Derived.ArgAppend
import Derived.Laws.IdiomCopy
import Derived.OrdersHeld
import Derived.Laws.BitsLemmas
import Derived.RowKit
import Derived.WalkLawsBesides
import Derived.Lib.ItoaLen
namespace Go.Proofs.YtkohjcfmcliioaaGreatDoor.ZF
open Go.Proofs.YtkohjcfmcliioaaGreatDoor.ZA (errW errW_none errW_some S76 z76 k76 k76_open k76_mkM rd_T76 at_T76 S31 z31 k31 k31_open k31_mk rd_T31 at_T31)
open Go.RowKit Go.Proofs.YtkohjcfmcliioaaGreatDoorW.PrintWords Go.Proofs.YtkohjcfmcliioaaGreatDoorW.PrintLast Go.Proofs.YtkohjcfmcliioaaGreatDoorW.PrintMore
attribute [local go_sem] max2_int min2_int max_two min_two max_three min_three max_four min_four   -- for this text's walks alone
set_option linter.unusedVariables false
set_option linter.unusedSimpArgs false
def feature_Inner.f (k : Nat) (a0_0 : ByteArray) (a0_1 : Int) (a0_2 : Int) (a0_3 : Int) (a0_4 : Int) (a0_5 : Int) (a0_6 : Int) (a0_7 : Int) (l0_8 : List (S31)) : Option (Bool × Int) := (feature_Check.f k a0_0 a0_1 a0_2 a0_3 a0_4 a0_5 a0_6 a0_7 l0_8).bind fun t106 => (if t106 = 0 then ((ZA.feature_inner.f a0_1).bind fun t107 => (some (t107, 0))) else (some (false, t106)))
theorem feature_Inner.mono : ∀ a0 a1 a2 a3 a4 a5 a6 a7 a8 k, LeO (feature_Inner.f k a0 a1 a2 a3 a4 a5 a6 a7 a8) (feature_Inner.f (k + 1) a0 a1 a2 a3 a4 a5 a6 a7 a8) := by
  intro a0 a1 a2 a3 a4 a5 a6 a7 a8 k
  unfold feature_Inner.f
  repeat' first
      | (with_reducible exact feature_Check.mono _ _ _ _ _ _ _ _ _ _)
      | (with_reducible exact LeO.refl _)
      | (with_reducible exact LeO.none _)
      | (with_reducible refine LeO.ite ?_ ?_)
      | (with_reducible refine LeO.bind ?_ (fun _ => ?_))
      | exact feature_Check.mono _ _ _ _ _ _ _ _ _ _
      | exact LeO.none _
      | refine LeO.ite ?_ ?_
      | refine LeO.bind ?_ (fun _ => ?_)
set_option maxHeartbeats 8000000 in
set_option maxRecDepth 100000 in
theorem feature_Inner.calls (k : Nat) (a0_0 : ByteArray) (a0_1 : Int) (a0_2 : Int) (a0_3 : Int) (a0_4 : Int) (a0_5 : Int) (a0_6 : Int) (a0_7 : Int) (A0_8 : Option Addr) (c0_8 : Nat) (l0_8 : List (S31)) (r1 : Bool) (r2 : Int) (w : World) (hr0_8 : Kd.C k31 w A0_8 l0_8.length l0_8) (hc0_8 : l0_8.length ≤ c0_8) (h : feature_Inner.f k a0_0 a0_1 a0_2 a0_3 a0_4 a0_5 a0_6 a0_7 l0_8 = some (r1, r2)) :
    Calls Tryz.prog 21 #[.agg #[.string a0_0, .int .i64 a0_1, .int .i64 a0_2, .int .i64 a0_3, .int .i64 a0_4, .int .i64 a0_5, .int .i64 a0_6, .int .i64 a0_7, .slice A0_8 l0_8.length c0_8]] w fun e w' => e = .returned (.tuple #[.bool r1, .int .i64 r2]) ∧ Below w.heap.size w w' := by
  have hu28 := Tryz.underlying28
  have HR0_8 := Aside0.mk hr0_8
  have HC0_8 := Aside0.mk hc0_8
  clear hr0_8 hc0_8
  have HB := Aside0.mk (Below.refl w.heap.size w)
  have H : ((feature_Check.f k a0_0 a0_1 a0_2 a0_3 a0_4 a0_5 a0_6 a0_7 l0_8).bind fun t106 => (if t106 = 0 then ((ZA.feature_inner.f a0_1).bind fun t107 => (some (t107, 0))) else (some (false, t106)))) = some (r1, r2) := h
  clear h
  replace H := Option.bind_eq_some_iff.mp H
  obtain ⟨t106, A20, H⟩ := H
  replace H : (if t106 = 0 then ((ZA.feature_inner.f a0_1).bind fun t107 => (some (t107, 0))) else (some (false, t106))) = some (r1, r2) := H
  have A2 := Aside0.mk A20
  clear A20
  by_cases c3 : t106 = 0
  · rw [if_pos c3] at H
    have c3b0 : (t106 == 0) = true := beq_iff_eq.mpr c3
    have c3b1 : (t106 != 0) = false := bne_eq_false_iff_eq.mpr c3
    clear c3
    replace H := Option.bind_eq_some_iff.mp H
    obtain ⟨t107, A40, H⟩ := H
    replace H : (some (t107, 0)) = some (r1, r2) := H
    have A4 := Aside0.mk A40
    clear A40
    simp only [Option.some.injEq, Prod.mk.injEq] at H
    obtain ⟨rfl, rfl⟩ := H
    go_enter Tryz.func21, Tryz.ntmps21
    go_wp2_with (first | ((with_reducible refine gate_dst (N := 1) rfl ?_); refine box_event ?hg (N := 1) ?hd (cs := #[.string a0_0, .int .i64 a0_1, .int .i64 a0_2, .int .i64 a0_3, .int .i64 a0_4, .int .i64 a0_5, .int .i64 a0_6, .int .i64 a0_7, .slice A0_8 l0_8.length c0_8]) (t := 28) ?hr ?_; (case hd => rfl); (case hg => rfl); (case hr => first | (go_simp; done) | (go_simp; rfl)); intro gb105 hg w5 hbox hb; have n0_ := Aside0.mk (below_step (by repeat (first | (with_reducible first | exact HB.out | apply below_alloc | apply pw_below_drewN | apply below_drew1) | exact HB.out)) hb); have n1_ := Aside0.mk (hbox); have n2_ := Aside0.mk ((by rw [hg]; exact (below_size (by repeat (first | (with_reducible first | exact HB.out | apply below_alloc | apply pw_below_drewN | apply below_drew1) | exact HB.out))) : w.heap.size ≤ gb105)); have n3_ := Aside0.mk ((by rw [hg]; exact (below_size (by repeat (first | (with_reducible first | exact HB.out | apply below_alloc | apply pw_below_drewN | apply below_drew1) | exact HB.out))) : w.heap.size ≤ gb105)); clear HB; have HB := n0_; have BK105 := n1_; have GW105 := n2_; have GE105 := n3_; clear n0_ n1_ n2_ n3_; clear hb hbox hg; have hcz6_0 : w5.cell? ⟨gb105, 0, none⟩ = some (.string a0_0) := (blk_cell BK105.out 0).trans rfl; have hcz6_1 : w5.cell? ⟨gb105, 1, none⟩ = some (.int .i64 a0_1) := (blk_cell BK105.out 1).trans rfl; have hcz6_2 : w5.cell? ⟨gb105, 2, none⟩ = some (.int .i64 a0_2) := (blk_cell BK105.out 2).trans rfl; have hcz6_3 : w5.cell? ⟨gb105, 3, none⟩ = some (.int .i64 a0_3) := (blk_cell BK105.out 3).trans rfl; have hcz6_4 : w5.cell? ⟨gb105, 4, none⟩ = some (.int .i64 a0_4) := (blk_cell BK105.out 4).trans rfl; have hcz6_5 : w5.cell? ⟨gb105, 5, none⟩ = some (.int .i64 a0_5) := (blk_cell BK105.out 5).trans rfl; have hcz6_6 : w5.cell? ⟨gb105, 6, none⟩ = some (.int .i64 a0_6) := (blk_cell BK105.out 6).trans rfl; have hcz6_7 : w5.cell? ⟨gb105, 7, none⟩ = some (.int .i64 a0_7) := (blk_cell BK105.out 7).trans rfl; have hcz6_8 : w5.cell? ⟨gb105, 8, none⟩ = some (.slice A0_8 l0_8.length c0_8) := (blk_cell BK105.out 8).trans rfl; have hfz6_0 := blk_frozen BK105.out 0; have hfz6_1 := blk_frozen BK105.out 1; have hfz6_2 := blk_frozen BK105.out 2; have hfz6_3 := blk_frozen BK105.out 3; have hfz6_4 := blk_frozen BK105.out 4; have hfz6_5 := blk_frozen BK105.out 5; have hfz6_6 := blk_frozen BK105.out 6; have hfz6_7 := blk_frozen BK105.out 7; have hfz6_8 := blk_frozen BK105.out 8) | ((with_reducible refine gate_callee (f := 39) rfl ?_); refine goesL_ (some 6) rfl rfl Tryz.func39 (by kernel_rfl) rfl #[.agg #[.string a0_0, .int .i64 a0_1, .int .i64 a0_2, .int .i64 a0_3, .int .i64 a0_4, .int .i64 a0_5, .int .i64 a0_6, .int .i64 a0_7, .slice A0_8 l0_8.length c0_8]] rfl (by (try simp only [List.map_toArray, List.map_cons, List.map_nil]); first | done | rfl | (simp only [List.length_drop, List.length_take]; rfl)) ?_; (with_reducible refine (feature_Check.calls k a0_0 a0_1 a0_2 a0_3 a0_4 a0_5 a0_6 a0_7 _ _ l0_8 t106 _ ?side1 ?side2 A2.out).mono ?_); (case side1 => repeat (first | exact (Kd.C_below HR0_8.out HB.out) | (with_reducible refine Kd.C_alloc ?_ _) | (with_reducible refine Kd.C_drewN ?_ _) | (with_reducible refine Kd.C_drew ?_))); (case side2 => exact HC0_8.out); rintro e w7 ⟨rfl, hb⟩; refine ⟨_, rfl, ?_⟩; have n0_ := Aside0.mk (blk_below (g := gb105) (o := .cells #[.string a0_0, .int .i64 a0_1, .int .i64 a0_2, .int .i64 a0_3, .int .i64 a0_4, .int .i64 a0_5, .int .i64 a0_6, .int .i64 a0_7, .slice A0_8 l0_8.length c0_8] 28 (0, 0)) (by (with_reducible repeat (first | refine blk_drewN ?_ _ | refine blk_drew ?_ | refine blk_alloc ?_ _)); exact BK105.out) hb); have n1_ := Aside0.mk (below_step (by repeat (first | (with_reducible first | exact HB.out | apply below_alloc | apply pw_below_drewN | apply below_drew1 | refine below_set ?_ GE105.out) | exact HB.out)) hb); clear BK105; clear HB; have BK105 := n0_; have HB := n1_; clear n0_ n1_; (try clear hb); (try clear hb2); (try clear hk); (try clear hi); have hcz8_0 : w7.cell? ⟨gb105, 0, none⟩ = some (.string a0_0) := (blk_cell BK105.out 0).trans rfl; have hcz8_1 : w7.cell? ⟨gb105, 1, none⟩ = some (.int .i64 a0_1) := (blk_cell BK105.out 1).trans rfl; have hcz8_2 : w7.cell? ⟨gb105, 2, none⟩ = some (.int .i64 a0_2) := (blk_cell BK105.out 2).trans rfl; have hcz8_3 : w7.cell? ⟨gb105, 3, none⟩ = some (.int .i64 a0_3) := (blk_cell BK105.out 3).trans rfl; have hcz8_4 : w7.cell? ⟨gb105, 4, none⟩ = some (.int .i64 a0_4) := (blk_cell BK105.out 4).trans rfl; have hcz8_5 : w7.cell? ⟨gb105, 5, none⟩ = some (.int .i64 a0_5) := (blk_cell BK105.out 5).trans rfl; have hcz8_6 : w7.cell? ⟨gb105, 6, none⟩ = some (.int .i64 a0_6) := (blk_cell BK105.out 6).trans rfl; have hcz8_7 : w7.cell? ⟨gb105, 7, none⟩ = some (.int .i64 a0_7) := (blk_cell BK105.out 7).trans rfl; have hcz8_8 : w7.cell? ⟨gb105, 8, none⟩ = some (.slice A0_8 l0_8.length c0_8) := (blk_cell BK105.out 8).trans rfl; have hfz8_0 := blk_frozen BK105.out 0; have hfz8_1 := blk_frozen BK105.out 1; have hfz8_2 := blk_frozen BK105.out 2; have hfz8_3 := blk_frozen BK105.out 3; have hfz8_4 := blk_frozen BK105.out 4; have hfz8_5 := blk_frozen BK105.out 5; have hfz8_6 := blk_frozen BK105.out 6; have hfz8_7 := blk_frozen BK105.out 7; have hfz8_8 := blk_frozen BK105.out 8) | ((with_reducible refine gate_callee (f := 56) rfl ?_); refine goesL_ (some 12) rfl rfl Tryz.func56 (by kernel_rfl) rfl #[.int .i64 a0_1] rfl (by (try simp only [List.map_toArray, List.map_cons, List.map_nil]); first | done | rfl | (simp only [List.length_drop, List.length_take]; rfl)) ?_; (with_reducible refine (ZA.feature_inner.calls a0_1 t107 _ A4.out).mono ?_); rintro e w' ⟨rfl, ⟨nd, rfl⟩⟩; refine ⟨_, rfl, ?_⟩))
    go_ret2
    exact ⟨by first | rfl | (simp [errW_none, errW_some] <;> rfl) | (simp [*, errW_none, errW_some] <;> rfl), by repeat (first | (with_reducible first | exact HB.out | apply below_alloc | apply pw_below_drewN | apply below_drew1 | refine below_set ?_ GE105.out) | exact HB.out)⟩
  · rw [if_neg c3] at H
    have c3b0 : (t106 == 0) = false := beq_eq_false_iff_ne.mpr c3
    have c3b1 : (t106 != 0) = true := bne_iff_ne.mpr c3
    simp only [Option.some.injEq, Prod.mk.injEq] at H
    obtain ⟨rfl, rfl⟩ := H
    go_enter Tryz.func21, Tryz.ntmps21
    go_wp2_with (first | ((with_reducible refine gate_dst (N := 1) rfl ?_); refine box_event ?hg (N := 1) ?hd (cs := #[.string a0_0, .int .i64 a0_1, .int .i64 a0_2, .int .i64 a0_3, .int .i64 a0_4, .int .i64 a0_5, .int .i64 a0_6, .int .i64 a0_7, .slice A0_8 l0_8.length c0_8]) (t := 28) ?hr ?_; (case hd => rfl); (case hg => rfl); (case hr => first | (go_simp; done) | (go_simp; rfl)); intro gb105 hg w9 hbox hb; have n0_ := Aside0.mk (below_step (by repeat (first | (with_reducible first | exact HB.out | apply below_alloc | apply pw_below_drewN | apply below_drew1) | exact HB.out)) hb); have n1_ := Aside0.mk (hbox); have n2_ := Aside0.mk ((by rw [hg]; exact (below_size (by repeat (first | (with_reducible first | exact HB.out | apply below_alloc | apply pw_below_drewN | apply below_drew1) | exact HB.out))) : w.heap.size ≤ gb105)); have n3_ := Aside0.mk ((by rw [hg]; exact (below_size (by repeat (first | (with_reducible first | exact HB.out | apply below_alloc | apply pw_below_drewN | apply below_drew1) | exact HB.out))) : w.heap.size ≤ gb105)); clear HB; have HB := n0_; have BK105 := n1_; have GW105 := n2_; have GE105 := n3_; clear n0_ n1_ n2_ n3_; clear hb hbox hg; have hcz10_0 : w9.cell? ⟨gb105, 0, none⟩ = some (.string a0_0) := (blk_cell BK105.out 0).trans rfl; have hcz10_1 : w9.cell? ⟨gb105, 1, none⟩ = some (.int .i64 a0_1) := (blk_cell BK105.out 1).trans rfl; have hcz10_2 : w9.cell? ⟨gb105, 2, none⟩ = some (.int .i64 a0_2) := (blk_cell BK105.out 2).trans rfl; have hcz10_3 : w9.cell? ⟨gb105, 3, none⟩ = some (.int .i64 a0_3) := (blk_cell BK105.out 3).trans rfl; have hcz10_4 : w9.cell? ⟨gb105, 4, none⟩ = some (.int .i64 a0_4) := (blk_cell BK105.out 4).trans rfl; have hcz10_5 : w9.cell? ⟨gb105, 5, none⟩ = some (.int .i64 a0_5) := (blk_cell BK105.out 5).trans rfl; have hcz10_6 : w9.cell? ⟨gb105, 6, none⟩ = some (.int .i64 a0_6) := (blk_cell BK105.out 6).trans rfl; have hcz10_7 : w9.cell? ⟨gb105, 7, none⟩ = some (.int .i64 a0_7) := (blk_cell BK105.out 7).trans rfl; have hcz10_8 : w9.cell? ⟨gb105, 8, none⟩ = some (.slice A0_8 l0_8.length c0_8) := (blk_cell BK105.out 8).trans rfl; have hfz10_0 := blk_frozen BK105.out 0; have hfz10_1 := blk_frozen BK105.out 1; have hfz10_2 := blk_frozen BK105.out 2; have hfz10_3 := blk_frozen BK105.out 3; have hfz10_4 := blk_frozen BK105.out 4; have hfz10_5 := blk_frozen BK105.out 5; have hfz10_6 := blk_frozen BK105.out 6; have hfz10_7 := blk_frozen BK105.out 7; have hfz10_8 := blk_frozen BK105.out 8) | ((with_reducible refine gate_callee (f := 39) rfl ?_); refine goesL_ (some 6) rfl rfl Tryz.func39 (by kernel_rfl) rfl #[.agg #[.string a0_0, .int .i64 a0_1, .int .i64 a0_2, .int .i64 a0_3, .int .i64 a0_4, .int .i64 a0_5, .int .i64 a0_6, .int .i64 a0_7, .slice A0_8 l0_8.length c0_8]] rfl (by (try simp only [List.map_toArray, List.map_cons, List.map_nil]); first | done | rfl | (simp only [List.length_drop, List.length_take]; rfl)) ?_; (with_reducible refine (feature_Check.calls k a0_0 a0_1 a0_2 a0_3 a0_4 a0_5 a0_6 a0_7 _ _ l0_8 t106 _ ?side1 ?side2 A2.out).mono ?_); (case side1 => repeat (first | exact (Kd.C_below HR0_8.out HB.out) | (with_reducible refine Kd.C_alloc ?_ _) | (with_reducible refine Kd.C_drewN ?_ _) | (with_reducible refine Kd.C_drew ?_))); (case side2 => exact HC0_8.out); rintro e w11 ⟨rfl, hb⟩; refine ⟨_, rfl, ?_⟩; have n0_ := Aside0.mk (blk_below (g := gb105) (o := .cells #[.string a0_0, .int .i64 a0_1, .int .i64 a0_2, .int .i64 a0_3, .int .i64 a0_4, .int .i64 a0_5, .int .i64 a0_6, .int .i64 a0_7, .slice A0_8 l0_8.length c0_8] 28 (0, 0)) (by (with_reducible repeat (first | refine blk_drewN ?_ _ | refine blk_drew ?_ | refine blk_alloc ?_ _)); exact BK105.out) hb); have n1_ := Aside0.mk (below_step (by repeat (first | (with_reducible first | exact HB.out | apply below_alloc | apply pw_below_drewN | apply below_drew1 | refine below_set ?_ GE105.out) | exact HB.out)) hb); clear BK105; clear HB; have BK105 := n0_; have HB := n1_; clear n0_ n1_; (try clear hb); (try clear hb2); (try clear hk); (try clear hi)))
    go_ret2
    exact ⟨by first | rfl | (simp [errW_none, errW_some] <;> rfl) | (simp [*, errW_none, errW_some] <;> rfl), by repeat (first | (with_reducible first | exact HB.out | apply below_alloc | apply pw_below_drewN | apply below_drew1 | refine below_set ?_ GE105.out) | exact HB.out)⟩
def feature_extreme.f (k : Nat) (a0_0 : ByteArray) (a0_1 : Int) (a0_2 : Int) (a0_3 : Int) (a0_4 : Int) (a0_5 : Int) (a0_6 : Int) (a0_7 : Int) (l0_8 : List (S31)) (a1 : Bool) : Option (Int × Int) := (feature_Check.f k a0_0 a0_1 a0_2 a0_3 a0_4 a0_5 a0_6 a0_7 l0_8).bind fun t109 => (if t109 = 0 then (if a0_1 = 0 then (some (0, 14)) else (if a1 = true then (some (a0_6, 0)) else (some (a0_7, 0)))) else (some (0, t109)))
theorem feature_extreme.mono : ∀ a0 a1 a2 a3 a4 a5 a6 a7 a8 a9 k, LeO (feature_extreme.f k a0 a1 a2 a3 a4 a5 a6 a7 a8 a9) (feature_extreme.f (k + 1) a0 a1 a2 a3 a4 a5 a6 a7 a8 a9) := by
  intro a0 a1 a2 a3 a4 a5 a6 a7 a8 a9 k
  unfold feature_extreme.f
  repeat' first
      | (with_reducible exact feature_Check.mono _ _ _ _ _ _ _ _ _ _)
      | (with_reducible exact LeO.refl _)
      | (with_reducible exact LeO.none _)
      | (with_reducible refine LeO.ite ?_ ?_)
      | (with_reducible refine LeO.bind ?_ (fun _ => ?_))
      | exact feature_Check.mono _ _ _ _ _ _ _ _ _ _
      | exact LeO.none _
      | refine LeO.ite ?_ ?_
      | refine LeO.bind ?_ (fun _ => ?_)
set_option maxHeartbeats 8000000 in
set_option maxRecDepth 100000 in
theorem feature_extreme.calls (k : Nat) (a0_0 : ByteArray) (a0_1 : Int) (a0_2 : Int) (a0_3 : Int) (a0_4 : Int) (a0_5 : Int) (a0_6 : Int) (a0_7 : Int) (A0_8 : Option Addr) (c0_8 : Nat) (l0_8 : List (S31)) (a1 : Bool) (r1 : Int) (r2 : Int) (w : World) (hr0_8 : Kd.C k31 w A0_8 l0_8.length l0_8) (hc0_8 : l0_8.length ≤ c0_8) (h : feature_extreme.f k a0_0 a0_1 a0_2 a0_3 a0_4 a0_5 a0_6 a0_7 l0_8 a1 = some (r1, r2)) :
    Calls Tryz.prog 112 #[.agg #[.string a0_0, .int .i64 a0_1, .int .i64 a0_2, .int .i64 a0_3, .int .i64 a0_4, .int .i64 a0_5, .int .i64 a0_6, .int .i64 a0_7, .slice A0_8 l0_8.length c0_8], .bool a1] w fun e w' => e = .returned (.tuple #[.int .i64 r1, .int .i64 r2]) ∧ Below w.heap.size w w' := by
  have hu28 := Tryz.underlying28
  have HR0_8 := Aside0.mk hr0_8
  have HC0_8 := Aside0.mk hc0_8
  clear hr0_8 hc0_8
  have HB := Aside0.mk (Below.refl w.heap.size w)
  have H : ((feature_Check.f k a0_0 a0_1 a0_2 a0_3 a0_4 a0_5 a0_6 a0_7 l0_8).bind fun t109 => (if t109 = 0 then (if a0_1 = 0 then (some (0, 14)) else (if a1 = true then (some (a0_6, 0)) else (some (a0_7, 0)))) else (some (0, t109)))) = some (r1, r2) := h
  clear h
  replace H := Option.bind_eq_some_iff.mp H
  obtain ⟨t109, A30, H⟩ := H
  replace H : (if t109 = 0 then (if a0_1 = 0 then (some (0, 14)) else (if a1 = true then (some (a0_6, 0)) else (some (a0_7, 0)))) else (some (0, t109))) = some (r1, r2) := H
  have A3 := Aside0.mk A30
  clear A30
  by_cases c4 : t109 = 0
  · rw [if_pos c4] at H
    have c4b0 : (t109 == 0) = true := beq_iff_eq.mpr c4
    have c4b1 : (t109 != 0) = false := bne_eq_false_iff_eq.mpr c4
    clear c4
    by_cases c5 : a0_1 = 0
    · rw [if_pos c5] at H
      have c5b0 : (a0_1 == 0) = true := beq_iff_eq.mpr c5
      have c5b1 : (a0_1 != 0) = false := bne_eq_false_iff_eq.mpr c5
      clear c5
      simp only [Option.some.injEq, Prod.mk.injEq] at H
      obtain ⟨rfl, rfl⟩ := H
      go_enter Tryz.func112, Tryz.ntmps112
      go_wp2_with (first | ((with_reducible refine gate_dst (N := 2) rfl ?_); refine box_event ?hg (N := 2) ?hd (cs := #[.string a0_0, .int .i64 a0_1, .int .i64 a0_2, .int .i64 a0_3, .int .i64 a0_4, .int .i64 a0_5, .int .i64 a0_6, .int .i64 a0_7, .slice A0_8 l0_8.length c0_8]) (t := 28) ?hr ?_; (case hd => rfl); (case hg => rfl); (case hr => first | (go_simp; done) | (go_simp; rfl)); intro gb108 hg w6 hbox hb; have n0_ := Aside0.mk (below_step (by repeat (first | (with_reducible first | exact HB.out | apply below_alloc | apply pw_below_drewN | apply below_drew1) | exact HB.out)) hb); have n1_ := Aside0.mk (hbox); have n2_ := Aside0.mk ((by rw [hg]; exact (below_size (by repeat (first | (with_reducible first | exact HB.out | apply below_alloc | apply pw_below_drewN | apply below_drew1) | exact HB.out))) : w.heap.size ≤ gb108)); have n3_ := Aside0.mk ((by rw [hg]; exact (below_size (by repeat (first | (with_reducible first | exact HB.out | apply below_alloc | apply pw_below_drewN | apply below_drew1) | exact HB.out))) : w.heap.size ≤ gb108)); clear HB; have HB := n0_; have BK108 := n1_; have GW108 := n2_; have GE108 := n3_; clear n0_ n1_ n2_ n3_; clear hb hbox hg; have hcz7_0 : w6.cell? ⟨gb108, 0, none⟩ = some (.string a0_0) := (blk_cell BK108.out 0).trans rfl; have hcz7_1 : w6.cell? ⟨gb108, 1, none⟩ = some (.int .i64 a0_1) := (blk_cell BK108.out 1).trans rfl; have hcz7_2 : w6.cell? ⟨gb108, 2, none⟩ = some (.int .i64 a0_2) := (blk_cell BK108.out 2).trans rfl; have hcz7_3 : w6.cell? ⟨gb108, 3, none⟩ = some (.int .i64 a0_3) := (blk_cell BK108.out 3).trans rfl; have hcz7_4 : w6.cell? ⟨gb108, 4, none⟩ = some (.int .i64 a0_4) := (blk_cell BK108.out 4).trans rfl; have hcz7_5 : w6.cell? ⟨gb108, 5, none⟩ = some (.int .i64 a0_5) := (blk_cell BK108.out 5).trans rfl; have hcz7_6 : w6.cell? ⟨gb108, 6, none⟩ = some (.int .i64 a0_6) := (blk_cell BK108.out 6).trans rfl; have hcz7_7 : w6.cell? ⟨gb108, 7, none⟩ = some (.int .i64 a0_7) := (blk_cell BK108.out 7).trans rfl; have hcz7_8 : w6.cell? ⟨gb108, 8, none⟩ = some (.slice A0_8 l0_8.length c0_8) := (blk_cell BK108.out 8).trans rfl; have hfz7_0 := blk_frozen BK108.out 0; have hfz7_1 := blk_frozen BK108.out 1; have hfz7_2 := blk_frozen BK108.out 2; have hfz7_3 := blk_frozen BK108.out 3; have hfz7_4 := blk_frozen BK108.out 4; have hfz7_5 := blk_frozen BK108.out 5; have hfz7_6 := blk_frozen BK108.out 6; have hfz7_7 := blk_frozen BK108.out 7; have hfz7_8 := blk_frozen BK108.out 8) | ((with_reducible refine gate_callee (f := 39) rfl ?_); refine goesL_ (some 8) rfl rfl Tryz.func39 (by kernel_rfl) rfl #[.agg #[.string a0_0, .int .i64 a0_1, .int .i64 a0_2, .int .i64 a0_3, .int .i64 a0_4, .int .i64 a0_5, .int .i64 a0_6, .int .i64 a0_7, .slice A0_8 l0_8.length c0_8]] rfl (by (try simp only [List.map_toArray, List.map_cons, List.map_nil]); first | done | rfl | (simp only [List.length_drop, List.length_take]; rfl)) ?_; (with_reducible refine (feature_Check.calls k a0_0 a0_1 a0_2 a0_3 a0_4 a0_5 a0_6 a0_7 _ _ l0_8 t109 _ ?side1 ?side2 A3.out).mono ?_); (case side1 => repeat (first | exact (Kd.C_below HR0_8.out HB.out) | (with_reducible refine Kd.C_alloc ?_ _) | (with_reducible refine Kd.C_drewN ?_ _) | (with_reducible refine Kd.C_drew ?_))); (case side2 => exact HC0_8.out); rintro e w8 ⟨rfl, hb⟩; refine ⟨_, rfl, ?_⟩; have n0_ := Aside0.mk (blk_below (g := gb108) (o := .cells #[.string a0_0, .int .i64 a0_1, .int .i64 a0_2, .int .i64 a0_3, .int .i64 a0_4, .int .i64 a0_5, .int .i64 a0_6, .int .i64 a0_7, .slice A0_8 l0_8.length c0_8] 28 (0, 0)) (by (with_reducible repeat (first | refine blk_drewN ?_ _ | refine blk_drew ?_ | refine blk_alloc ?_ _)); exact BK108.out) hb); have n1_ := Aside0.mk (below_step (by repeat (first | (with_reducible first | exact HB.out | apply below_alloc | apply pw_below_drewN | apply below_drew1 | refine below_set ?_ GE108.out) | exact HB.out)) hb); clear BK108; clear HB; have BK108 := n0_; have HB := n1_; clear n0_ n1_; (try clear hb); (try clear hb2); (try clear hk); (try clear hi); have hcz9_0 : w8.cell? ⟨gb108, 0, none⟩ = some (.string a0_0) := (blk_cell BK108.out 0).trans rfl; have hcz9_1 : w8.cell? ⟨gb108, 1, none⟩ = some (.int .i64 a0_1) := (blk_cell BK108.out 1).trans rfl; have hcz9_2 : w8.cell? ⟨gb108, 2, none⟩ = some (.int .i64 a0_2) := (blk_cell BK108.out 2).trans rfl; have hcz9_3 : w8.cell? ⟨gb108, 3, none⟩ = some (.int .i64 a0_3) := (blk_cell BK108.out 3).trans rfl; have hcz9_4 : w8.cell? ⟨gb108, 4, none⟩ = some (.int .i64 a0_4) := (blk_cell BK108.out 4).trans rfl; have hcz9_5 : w8.cell? ⟨gb108, 5, none⟩ = some (.int .i64 a0_5) := (blk_cell BK108.out 5).trans rfl; have hcz9_6 : w8.cell? ⟨gb108, 6, none⟩ = some (.int .i64 a0_6) := (blk_cell BK108.out 6).trans rfl; have hcz9_7 : w8.cell? ⟨gb108, 7, none⟩ = some (.int .i64 a0_7) := (blk_cell BK108.out 7).trans rfl; have hcz9_8 : w8.cell? ⟨gb108, 8, none⟩ = some (.slice A0_8 l0_8.length c0_8) := (blk_cell BK108.out 8).trans rfl; have hfz9_0 := blk_frozen BK108.out 0; have hfz9_1 := blk_frozen BK108.out 1; have hfz9_2 := blk_frozen BK108.out 2; have hfz9_3 := blk_frozen BK108.out 3; have hfz9_4 := blk_frozen BK108.out 4; have hfz9_5 := blk_frozen BK108.out 5; have hfz9_6 := blk_frozen BK108.out 6; have hfz9_7 := blk_frozen BK108.out 7; have hfz9_8 := blk_frozen BK108.out 8))
      go_ret2
      exact ⟨by first | rfl | (simp [errW_none, errW_some] <;> rfl) | (simp [*, errW_none, errW_some] <;> rfl), by repeat (first | (with_reducible first | exact HB.out | apply below_alloc | apply pw_below_drewN | apply below_drew1 | refine below_set ?_ GE108.out) | exact HB.out)⟩
    · rw [if_neg c5] at H
      have c5b0 : (a0_1 == 0) = false := beq_eq_false_iff_ne.mpr c5
      have c5b1 : (a0_1 != 0) = true := bne_iff_ne.mpr c5
      by_cases c10 : a1 = true
      · subst c10
        have H1 : (some (a0_6, 0)) = some (r1, r2) := by rw [if_pos rfl] at H; exact H
        clear H
        have H := H1
        clear H1
        simp only [Option.some.injEq, Prod.mk.injEq] at H
        obtain ⟨rfl, rfl⟩ := H
        go_enter Tryz.func112, Tryz.ntmps112
        go_wp2_with (first | ((with_reducible refine gate_dst (N := 2) rfl ?_); refine box_event ?hg (N := 2) ?hd (cs := #[.string a0_0, .int .i64 a0_1, .int .i64 a0_2, .int .i64 a0_3, .int .i64 a0_4, .int .i64 a0_5, .int .i64 a0_6, .int .i64 a0_7, .slice A0_8 l0_8.length c0_8]) (t := 28) ?hr ?_; (case hd => rfl); (case hg => rfl); (case hr => first | (go_simp; done) | (go_simp; rfl)); intro gb108 hg w11 hbox hb; have n0_ := Aside0.mk (below_step (by repeat (first | (with_reducible first | exact HB.out | apply below_alloc | apply pw_below_drewN | apply below_drew1) | exact HB.out)) hb); have n1_ := Aside0.mk (hbox); have n2_ := Aside0.mk ((by rw [hg]; exact (below_size (by repeat (first | (with_reducible first | exact HB.out | apply below_alloc | apply pw_below_drewN | apply below_drew1) | exact HB.out))) : w.heap.size ≤ gb108)); have n3_ := Aside0.mk ((by rw [hg]; exact (below_size (by repeat (first | (with_reducible first | exact HB.out | apply below_alloc | apply pw_below_drewN | apply below_drew1) | exact HB.out))) : w.heap.size ≤ gb108)); clear HB; have HB := n0_; have BK108 := n1_; have GW108 := n2_; have GE108 := n3_; clear n0_ n1_ n2_ n3_; clear hb hbox hg; have hcz12_0 : w11.cell? ⟨gb108, 0, none⟩ = some (.string a0_0) := (blk_cell BK108.out 0).trans rfl; have hcz12_1 : w11.cell? ⟨gb108, 1, none⟩ = some (.int .i64 a0_1) := (blk_cell BK108.out 1).trans rfl; have hcz12_2 : w11.cell? ⟨gb108, 2, none⟩ = some (.int .i64 a0_2) := (blk_cell BK108.out 2).trans rfl; have hcz12_3 : w11.cell? ⟨gb108, 3, none⟩ = some (.int .i64 a0_3) := (blk_cell BK108.out 3).trans rfl; have hcz12_4 : w11.cell? ⟨gb108, 4, none⟩ = some (.int .i64 a0_4) := (blk_cell BK108.out 4).trans rfl; have hcz12_5 : w11.cell? ⟨gb108, 5, none⟩ = some (.int .i64 a0_5) := (blk_cell BK108.out 5).trans rfl; have hcz12_6 : w11.cell? ⟨gb108, 6, none⟩ = some (.int .i64 a0_6) := (blk_cell BK108.out 6).trans rfl; have hcz12_7 : w11.cell? ⟨gb108, 7, none⟩ = some (.int .i64 a0_7) := (blk_cell BK108.out 7).trans rfl; have hcz12_8 : w11.cell? ⟨gb108, 8, none⟩ = some (.slice A0_8 l0_8.length c0_8) := (blk_cell BK108.out 8).trans rfl; have hfz12_0 := blk_frozen BK108.out 0; have hfz12_1 := blk_frozen BK108.out 1; have hfz12_2 := blk_frozen BK108.out 2; have hfz12_3 := blk_frozen BK108.out 3; have hfz12_4 := blk_frozen BK108.out 4; have hfz12_5 := blk_frozen BK108.out 5; have hfz12_6 := blk_frozen BK108.out 6; have hfz12_7 := blk_frozen BK108.out 7; have hfz12_8 := blk_frozen BK108.out 8) | ((with_reducible refine gate_callee (f := 39) rfl ?_); refine goesL_ (some 8) rfl rfl Tryz.func39 (by kernel_rfl) rfl #[.agg #[.string a0_0, .int .i64 a0_1, .int .i64 a0_2, .int .i64 a0_3, .int .i64 a0_4, .int .i64 a0_5, .int .i64 a0_6, .int .i64 a0_7, .slice A0_8 l0_8.length c0_8]] rfl (by (try simp only [List.map_toArray, List.map_cons, List.map_nil]); first | done | rfl | (simp only [List.length_drop, List.length_take]; rfl)) ?_; (with_reducible refine (feature_Check.calls k a0_0 a0_1 a0_2 a0_3 a0_4 a0_5 a0_6 a0_7 _ _ l0_8 t109 _ ?side1 ?side2 A3.out).mono ?_); (case side1 => repeat (first | exact (Kd.C_below HR0_8.out HB.out) | (with_reducible refine Kd.C_alloc ?_ _) | (with_reducible refine Kd.C_drewN ?_ _) | (with_reducible refine Kd.C_drew ?_))); (case side2 => exact HC0_8.out); rintro e w13 ⟨rfl, hb⟩; refine ⟨_, rfl, ?_⟩; have n0_ := Aside0.mk (blk_below (g := gb108) (o := .cells #[.string a0_0, .int .i64 a0_1, .int .i64 a0_2, .int .i64 a0_3, .int .i64 a0_4, .int .i64 a0_5, .int .i64 a0_6, .int .i64 a0_7, .slice A0_8 l0_8.length c0_8] 28 (0, 0)) (by (with_reducible repeat (first | refine blk_drewN ?_ _ | refine blk_drew ?_ | refine blk_alloc ?_ _)); exact BK108.out) hb); have n1_ := Aside0.mk (below_step (by repeat (first | (with_reducible first | exact HB.out | apply below_alloc | apply pw_below_drewN | apply below_drew1 | refine below_set ?_ GE108.out) | exact HB.out)) hb); clear BK108; clear HB; have BK108 := n0_; have HB := n1_; clear n0_ n1_; (try clear hb); (try clear hb2); (try clear hk); (try clear hi); have hcz14_0 : w13.cell? ⟨gb108, 0, none⟩ = some (.string a0_0) := (blk_cell BK108.out 0).trans rfl; have hcz14_1 : w13.cell? ⟨gb108, 1, none⟩ = some (.int .i64 a0_1) := (blk_cell BK108.out 1).trans rfl; have hcz14_2 : w13.cell? ⟨gb108, 2, none⟩ = some (.int .i64 a0_2) := (blk_cell BK108.out 2).trans rfl; have hcz14_3 : w13.cell? ⟨gb108, 3, none⟩ = some (.int .i64 a0_3) := (blk_cell BK108.out 3).trans rfl; have hcz14_4 : w13.cell? ⟨gb108, 4, none⟩ = some (.int .i64 a0_4) := (blk_cell BK108.out 4).trans rfl; have hcz14_5 : w13.cell? ⟨gb108, 5, none⟩ = some (.int .i64 a0_5) := (blk_cell BK108.out 5).trans rfl; have hcz14_6 : w13.cell? ⟨gb108, 6, none⟩ = some (.int .i64 a0_6) := (blk_cell BK108.out 6).trans rfl; have hcz14_7 : w13.cell? ⟨gb108, 7, none⟩ = some (.int .i64 a0_7) := (blk_cell BK108.out 7).trans rfl; have hcz14_8 : w13.cell? ⟨gb108, 8, none⟩ = some (.slice A0_8 l0_8.length c0_8) := (blk_cell BK108.out 8).trans rfl; have hfz14_0 := blk_frozen BK108.out 0; have hfz14_1 := blk_frozen BK108.out 1; have hfz14_2 := blk_frozen BK108.out 2; have hfz14_3 := blk_frozen BK108.out 3; have hfz14_4 := blk_frozen BK108.out 4; have hfz14_5 := blk_frozen BK108.out 5; have hfz14_6 := blk_frozen BK108.out 6; have hfz14_7 := blk_frozen BK108.out 7; have hfz14_8 := blk_frozen BK108.out 8))
        go_ret2
        exact ⟨by first | rfl | (simp [errW_none, errW_some] <;> rfl) | (simp [*, errW_none, errW_some] <;> rfl), by repeat (first | (with_reducible first | exact HB.out | apply below_alloc | apply pw_below_drewN | apply below_drew1 | refine below_set ?_ GE108.out) | exact HB.out)⟩
      · replace c10 := Bool.eq_false_iff.mpr c10
        subst c10
        have H1 : (some (a0_7, 0)) = some (r1, r2) := by rw [if_neg (show ¬ (false = true) by decide)] at H; exact H
        clear H
        have H := H1
        clear H1
        simp only [Option.some.injEq, Prod.mk.injEq] at H
        obtain ⟨rfl, rfl⟩ := H
        go_enter Tryz.func112, Tryz.ntmps112
        go_wp2_with (first | ((with_reducible refine gate_dst (N := 2) rfl ?_); refine box_event ?hg (N := 2) ?hd (cs := #[.string a0_0, .int .i64 a0_1, .int .i64 a0_2, .int .i64 a0_3, .int .i64 a0_4, .int .i64 a0_5, .int .i64 a0_6, .int .i64 a0_7, .slice A0_8 l0_8.length c0_8]) (t := 28) ?hr ?_; (case hd => rfl); (case hg => rfl); (case hr => first | (go_simp; done) | (go_simp; rfl)); intro gb108 hg w15 hbox hb; have n0_ := Aside0.mk (below_step (by repeat (first | (with_reducible first | exact HB.out | apply below_alloc | apply pw_below_drewN | apply below_drew1) | exact HB.out)) hb); have n1_ := Aside0.mk (hbox); have n2_ := Aside0.mk ((by rw [hg]; exact (below_size (by repeat (first | (with_reducible first | exact HB.out | apply below_alloc | apply pw_below_drewN | apply below_drew1) | exact HB.out))) : w.heap.size ≤ gb108)); have n3_ := Aside0.mk ((by rw [hg]; exact (below_size (by repeat (first | (with_reducible first | exact HB.out | apply below_alloc | apply pw_below_drewN | apply below_drew1) | exact HB.out))) : w.heap.size ≤ gb108)); clear HB; have HB := n0_; have BK108 := n1_; have GW108 := n2_; have GE108 := n3_; clear n0_ n1_ n2_ n3_; clear hb hbox hg; have hcz16_0 : w15.cell? ⟨gb108, 0, none⟩ = some (.string a0_0) := (blk_cell BK108.out 0).trans rfl; have hcz16_1 : w15.cell? ⟨gb108, 1, none⟩ = some (.int .i64 a0_1) := (blk_cell BK108.out 1).trans rfl; have hcz16_2 : w15.cell? ⟨gb108, 2, none⟩ = some (.int .i64 a0_2) := (blk_cell BK108.out 2).trans rfl; have hcz16_3 : w15.cell? ⟨gb108, 3, none⟩ = some (.int .i64 a0_3) := (blk_cell BK108.out 3).trans rfl; have hcz16_4 : w15.cell? ⟨gb108, 4, none⟩ = some (.int .i64 a0_4) := (blk_cell BK108.out 4).trans rfl; have hcz16_5 : w15.cell? ⟨gb108, 5, none⟩ = some (.int .i64 a0_5) := (blk_cell BK108.out 5).trans rfl; have hcz16_6 : w15.cell? ⟨gb108, 6, none⟩ = some (.int .i64 a0_6) := (blk_cell BK108.out 6).trans rfl; have hcz16_7 : w15.cell? ⟨gb108, 7, none⟩ = some (.int .i64 a0_7) := (blk_cell BK108.out 7).trans rfl; have hcz16_8 : w15.cell? ⟨gb108, 8, none⟩ = some (.slice A0_8 l0_8.length c0_8) := (blk_cell BK108.out 8).trans rfl; have hfz16_0 := blk_frozen BK108.out 0; have hfz16_1 := blk_frozen BK108.out 1; have hfz16_2 := blk_frozen BK108.out 2; have hfz16_3 := blk_frozen BK108.out 3; have hfz16_4 := blk_frozen BK108.out 4; have hfz16_5 := blk_frozen BK108.out 5; have hfz16_6 := blk_frozen BK108.out 6; have hfz16_7 := blk_frozen BK108.out 7; have hfz16_8 := blk_frozen BK108.out 8) | ((with_reducible refine gate_callee (f := 39) rfl ?_); refine goesL_ (some 8) rfl rfl Tryz.func39 (by kernel_rfl) rfl #[.agg #[.string a0_0, .int .i64 a0_1, .int .i64 a0_2, .int .i64 a0_3, .int .i64 a0_4, .int .i64 a0_5, .int .i64 a0_6, .int .i64 a0_7, .slice A0_8 l0_8.length c0_8]] rfl (by (try simp only [List.map_toArray, List.map_cons, List.map_nil]); first | done | rfl | (simp only [List.length_drop, List.length_take]; rfl)) ?_; (with_reducible refine (feature_Check.calls k a0_0 a0_1 a0_2 a0_3 a0_4 a0_5 a0_6 a0_7 _ _ l0_8 t109 _ ?side1 ?side2 A3.out).mono ?_); (case side1 => repeat (first | exact (Kd.C_below HR0_8.out HB.out) | (with_reducible refine Kd.C_alloc ?_ _) | (with_reducible refine Kd.C_drewN ?_ _) | (with_reducible refine Kd.C_drew ?_))); (case side2 => exact HC0_8.out); rintro e w17 ⟨rfl, hb⟩; refine ⟨_, rfl, ?_⟩; have n0_ := Aside0.mk (blk_below (g := gb108) (o := .cells #[.string a0_0, .int .i64 a0_1, .int .i64 a0_2, .int .i64 a0_3, .int .i64 a0_4, .int .i64 a0_5, .int .i64 a0_6, .int .i64 a0_7, .slice A0_8 l0_8.length c0_8] 28 (0, 0)) (by (with_reducible repeat (first | refine blk_drewN ?_ _ | refine blk_drew ?_ | refine blk_alloc ?_ _)); exact BK108.out) hb); have n1_ := Aside0.mk (below_step (by repeat (first | (with_reducible first | exact HB.out | apply below_alloc | apply pw_below_drewN | apply below_drew1 | refine below_set ?_ GE108.out) | exact HB.out)) hb); clear BK108; clear HB; have BK108 := n0_; have HB := n1_; clear n0_ n1_; (try clear hb); (try clear hb2); (try clear hk); (try clear hi); have hcz18_0 : w17.cell? ⟨gb108, 0, none⟩ = some (.string a0_0) := (blk_cell BK108.out 0).trans rfl; have hcz18_1 : w17.cell? ⟨gb108, 1, none⟩ = some (.int .i64 a0_1) := (blk_cell BK108.out 1).trans rfl; have hcz18_2 : w17.cell? ⟨gb108, 2, none⟩ = some (.int .i64 a0_2) := (blk_cell BK108.out 2).trans rfl; have hcz18_3 : w17.cell? ⟨gb108, 3, none⟩ = some (.int .i64 a0_3) := (blk_cell BK108.out 3).trans rfl; have hcz18_4 : w17.cell? ⟨gb108, 4, none⟩ = some (.int .i64 a0_4) := (blk_cell BK108.out 4).trans rfl; have hcz18_5 : w17.cell? ⟨gb108, 5, none⟩ = some (.int .i64 a0_5) := (blk_cell BK108.out 5).trans rfl; have hcz18_6 : w17.cell? ⟨gb108, 6, none⟩ = some (.int .i64 a0_6) := (blk_cell BK108.out 6).trans rfl; have hcz18_7 : w17.cell? ⟨gb108, 7, none⟩ = some (.int .i64 a0_7) := (blk_cell BK108.out 7).trans rfl; have hcz18_8 : w17.cell? ⟨gb108, 8, none⟩ = some (.slice A0_8 l0_8.length c0_8) := (blk_cell BK108.out 8).trans rfl; have hfz18_0 := blk_frozen BK108.out 0; have hfz18_1 := blk_frozen BK108.out 1; have hfz18_2 := blk_frozen BK108.out 2; have hfz18_3 := blk_frozen BK108.out 3; have hfz18_4 := blk_frozen BK108.out 4; have hfz18_5 := blk_frozen BK108.out 5; have hfz18_6 := blk_frozen BK108.out 6; have hfz18_7 := blk_frozen BK108.out 7; have hfz18_8 := blk_frozen BK108.out 8))
        go_ret2
        exact ⟨by first | rfl | (simp [errW_none, errW_some] <;> rfl) | (simp [*, errW_none, errW_some] <;> rfl), by repeat (first | (with_reducible first | exact HB.out | apply below_alloc | apply pw_below_drewN | apply below_drew1 | refine below_set ?_ GE108.out) | exact HB.out)⟩
  · rw [if_neg c4] at H
    have c4b0 : (t109 == 0) = false := beq_eq_false_iff_ne.mpr c4
    have c4b1 : (t109 != 0) = true := bne_iff_ne.mpr c4
    simp only [Option.some.injEq, Prod.mk.injEq] at H
    obtain ⟨rfl, rfl⟩ := H
    go_enter Tryz.func112, Tryz.ntmps112
    go_wp2_with (first | ((with_reducible refine gate_dst (N := 2) rfl ?_); refine box_event ?hg (N := 2) ?hd (cs := #[.string a0_0, .int .i64 a0_1, .int .i64 a0_2, .int .i64 a0_3, .int .i64 a0_4, .int .i64 a0_5, .int .i64 a0_6, .int .i64 a0_7, .slice A0_8 l0_8.length c0_8]) (t := 28) ?hr ?_; (case hd => rfl); (case hg => rfl); (case hr => first | (go_simp; done) | (go_simp; rfl)); intro gb108 hg w19 hbox hb; have n0_ := Aside0.mk (below_step (by repeat (first | (with_reducible first | exact HB.out | apply below_alloc | apply pw_below_drewN | apply below_drew1) | exact HB.out)) hb); have n1_ := Aside0.mk (hbox); have n2_ := Aside0.mk ((by rw [hg]; exact (below_size (by repeat (first | (with_reducible first | exact HB.out | apply below_alloc | apply pw_below_drewN | apply below_drew1) | exact HB.out))) : w.heap.size ≤ gb108)); have n3_ := Aside0.mk ((by rw [hg]; exact (below_size (by repeat (first | (with_reducible first | exact HB.out | apply below_alloc | apply pw_below_drewN | apply below_drew1) | exact HB.out))) : w.heap.size ≤ gb108)); clear HB; have HB := n0_; have BK108 := n1_; have GW108 := n2_; have GE108 := n3_; clear n0_ n1_ n2_ n3_; clear hb hbox hg; have hcz20_0 : w19.cell? ⟨gb108, 0, none⟩ = some (.string a0_0) := (blk_cell BK108.out 0).trans rfl; have hcz20_1 : w19.cell? ⟨gb108, 1, none⟩ = some (.int .i64 a0_1) := (blk_cell BK108.out 1).trans rfl; have hcz20_2 : w19.cell? ⟨gb108, 2, none⟩ = some (.int .i64 a0_2) := (blk_cell BK108.out 2).trans rfl; have hcz20_3 : w19.cell? ⟨gb108, 3, none⟩ = some (.int .i64 a0_3) := (blk_cell BK108.out 3).trans rfl; have hcz20_4 : w19.cell? ⟨gb108, 4, none⟩ = some (.int .i64 a0_4) := (blk_cell BK108.out 4).trans rfl; have hcz20_5 : w19.cell? ⟨gb108, 5, none⟩ = some (.int .i64 a0_5) := (blk_cell BK108.out 5).trans rfl; have hcz20_6 : w19.cell? ⟨gb108, 6, none⟩ = some (.int .i64 a0_6) := (blk_cell BK108.out 6).trans rfl; have hcz20_7 : w19.cell? ⟨gb108, 7, none⟩ = some (.int .i64 a0_7) := (blk_cell BK108.out 7).trans rfl; have hcz20_8 : w19.cell? ⟨gb108, 8, none⟩ = some (.slice A0_8 l0_8.length c0_8) := (blk_cell BK108.out 8).trans rfl; have hfz20_0 := blk_frozen BK108.out 0; have hfz20_1 := blk_frozen BK108.out 1; have hfz20_2 := blk_frozen BK108.out 2; have hfz20_3 := blk_frozen BK108.out 3; have hfz20_4 := blk_frozen BK108.out 4; have hfz20_5 := blk_frozen BK108.out 5; have hfz20_6 := blk_frozen BK108.out 6; have hfz20_7 := blk_frozen BK108.out 7; have hfz20_8 := blk_frozen BK108.out 8) | ((with_reducible refine gate_callee (f := 39) rfl ?_); refine goesL_ (some 8) rfl rfl Tryz.func39 (by kernel_rfl) rfl #[.agg #[.string a0_0, .int .i64 a0_1, .int .i64 a0_2, .int .i64 a0_3, .int .i64 a0_4, .int .i64 a0_5, .int .i64 a0_6, .int .i64 a0_7, .slice A0_8 l0_8.length c0_8]] rfl (by (try simp only [List.map_toArray, List.map_cons, List.map_nil]); first | done | rfl | (simp only [List.length_drop, List.length_take]; rfl)) ?_; (with_reducible refine (feature_Check.calls k a0_0 a0_1 a0_2 a0_3 a0_4 a0_5 a0_6 a0_7 _ _ l0_8 t109 _ ?side1 ?side2 A3.out).mono ?_); (case side1 => repeat (first | exact (Kd.C_below HR0_8.out HB.out) | (with_reducible refine Kd.C_alloc ?_ _) | (with_reducible refine Kd.C_drewN ?_ _) | (with_reducible refine Kd.C_drew ?_))); (case side2 => exact HC0_8.out); rintro e w21 ⟨rfl, hb⟩; refine ⟨_, rfl, ?_⟩; have n0_ := Aside0.mk (blk_below (g := gb108) (o := .cells #[.string a0_0, .int .i64 a0_1, .int .i64 a0_2, .int .i64 a0_3, .int .i64 a0_4, .int .i64 a0_5, .int .i64 a0_6, .int .i64 a0_7, .slice A0_8 l0_8.length c0_8] 28 (0, 0)) (by (with_reducible repeat (first | refine blk_drewN ?_ _ | refine blk_drew ?_ | refine blk_alloc ?_ _)); exact BK108.out) hb); have n1_ := Aside0.mk (below_step (by repeat (first | (with_reducible first | exact HB.out | apply below_alloc | apply pw_below_drewN | apply below_drew1 | refine below_set ?_ GE108.out) | exact HB.out)) hb); clear BK108; clear HB; have BK108 := n0_; have HB := n1_; clear n0_ n1_; (try clear hb); (try clear hb2); (try clear hk); (try clear hi)))
    go_ret2
    exact ⟨by first | rfl | (simp [errW_none, errW_some] <;> rfl) | (simp [*, errW_none, errW_some] <;> rfl), by repeat (first | (with_reducible first | exact HB.out | apply below_alloc | apply pw_below_drewN | apply below_drew1 | refine below_set ?_ GE108.out) | exact HB.out)⟩
def feature_Maximum.f (k : Nat) (a0_0 : ByteArray) (a0_1 : Int) (a0_2 : Int) (a0_3 : Int) (a0_4 : Int) (a0_5 : Int) (a0_6 : Int) (a0_7 : Int) (l0_8 : List (S31)) : Option (Int × Int) := (ZA.feature_inner.f a0_1).bind fun t111 => ((feature_extreme.f k a0_0 a0_1 a0_2 a0_3 a0_4 a0_5 a0_6 a0_7 l0_8 t111).bind fun bt112 => (some (bt112.1, bt112.2)))
theorem feature_Maximum.mono : ∀ a0 a1 a2 a3 a4 a5 a6 a7 a8 k, LeO (feature_Maximum.f k a0 a1 a2 a3 a4 a5 a6 a7 a8) (feature_Maximum.f (k + 1) a0 a1 a2 a3 a4 a5 a6 a7 a8) := by
  intro a0 a1 a2 a3 a4 a5 a6 a7 a8 k
  unfold feature_Maximum.f
  repeat' first
      | (with_reducible exact feature_extreme.mono _ _ _ _ _ _ _ _ _ _ _)
      | (with_reducible exact LeO.refl _)
      | (with_reducible exact LeO.none _)
      | (with_reducible refine LeO.ite ?_ ?_)
      | (with_reducible refine LeO.bind ?_ (fun _ => ?_))
      | exact feature_extreme.mono _ _ _ _ _ _ _ _ _ _ _
      | exact LeO.none _
      | refine LeO.ite ?_ ?_
      | refine LeO.bind ?_ (fun _ => ?_)
def feature_Maximum.T1 : Bool × List (List Nat × List Nat) := (true, [([], []), ([], []), ([1], [1]), ([2], [2]), ([0, 3, 3], [0, 3]), ([4], [4]), ([4], [4]), ([5, 4, 0, 1, 2, 3, 4, 5, 6], [5]), ([6, 7, 0, 1, 2, 3, 4, 5, 6, 7], [6])])
def feature_Maximum.B1 : List Nat := [0, 0, 2, 6, 15, 31, 31, 127, 255]
theorem feature_Maximum.tab1 : rtab .any (opsOf Tryz.f88 1) = feature_Maximum.T1 := by kernel_rfl
theorem feature_Maximum.bits1 : waitsOk feature_Maximum.T1.2 feature_Maximum.B1 = true := by kernel_rfl
set_option maxHeartbeats 8000000 in
set_option maxRecDepth 100000 in
theorem feature_Maximum.calls (k : Nat) (a0_0 : ByteArray) (a0_1 : Int) (a0_2 : Int) (a0_3 : Int) (a0_4 : Int) (a0_5 : Int) (a0_6 : Int) (a0_7 : Int) (A0_8 : Option Addr) (c0_8 : Nat) (l0_8 : List (S31)) (r1 : Int) (r2 : Int) (w : World) (hr0_8 : Kd.C k31 w A0_8 l0_8.length l0_8) (hc0_8 : l0_8.length ≤ c0_8) (h : feature_Maximum.f k a0_0 a0_1 a0_2 a0_3 a0_4 a0_5 a0_6 a0_7 l0_8 = some (r1, r2)) :
    Calls Tryz.prog 88 #[.agg #[.string a0_0, .int .i64 a0_1, .int .i64 a0_2, .int .i64 a0_3, .int .i64 a0_4, .int .i64 a0_5, .int .i64 a0_6, .int .i64 a0_7, .slice A0_8 l0_8.length c0_8]] w fun e w' => e = .returned (.tuple #[.int .i64 r1, .int .i64 r2]) ∧ Below w.heap.size w w' := by
  have hu28 := Tryz.underlying28
  have HR0_8 := Aside0.mk hr0_8
  have HC0_8 := Aside0.mk hc0_8
  clear hr0_8 hc0_8
  have HB := Aside0.mk (Below.refl w.heap.size w)
  have H : ((ZA.feature_inner.f a0_1).bind fun t111 => ((feature_extreme.f k a0_0 a0_1 a0_2 a0_3 a0_4 a0_5 a0_6 a0_7 l0_8 t111).bind fun bt112 => (some (bt112.1, bt112.2)))) = some (r1, r2) := h
  clear h
  replace H := Option.bind_eq_some_iff.mp H
  obtain ⟨t111, A20, H⟩ := H
  replace H : ((feature_extreme.f k a0_0 a0_1 a0_2 a0_3 a0_4 a0_5 a0_6 a0_7 l0_8 t111).bind fun bt112 => (some (bt112.1, bt112.2))) = some (r1, r2) := H
  have A2 := Aside0.mk A20
  clear A20
  replace H := Option.bind_eq_some_iff.mp H
  obtain ⟨⟨t112, t113⟩, A30, H⟩ := H
  replace H : (some (t112, t113)) = some (r1, r2) := H
  have A3 := Aside0.mk A30
  clear A30
  simp only [Option.some.injEq, Prod.mk.injEq] at H
  obtain ⟨rfl, rfl⟩ := H
  go_enter Tryz.func88, Tryz.ntmps88
  try go_wp2_with (first | ((with_reducible refine gate_dst (N := 1) rfl ?_); refine box_event ?hg (N := 1) ?hd (cs := #[.string a0_0, .int .i64 a0_1, .int .i64 a0_2, .int .i64 a0_3, .int .i64 a0_4, .int .i64 a0_5, .int .i64 a0_6, .int .i64 a0_7, .slice A0_8 l0_8.length c0_8]) (t := 28) ?hr ?_; (case hd => rfl); (case hg => rfl); (case hr => first | (go_simp; done) | (go_simp; rfl)); intro gb110 hg w4 hbox hb; have n0_ := Aside0.mk (below_step (by repeat (first | (with_reducible first | exact HB.out | apply below_alloc | apply pw_below_drewN | apply below_drew1) | exact HB.out)) hb); have n1_ := Aside0.mk (hbox); have n2_ := Aside0.mk ((by rw [hg]; exact (below_size (by repeat (first | (with_reducible first | exact HB.out | apply below_alloc | apply pw_below_drewN | apply below_drew1) | exact HB.out))) : w.heap.size ≤ gb110)); have n3_ := Aside0.mk ((by rw [hg]; exact (below_size (by repeat (first | (with_reducible first | exact HB.out | apply below_alloc | apply pw_below_drewN | apply below_drew1) | exact HB.out))) : w.heap.size ≤ gb110)); clear HB; have HB := n0_; have BK110 := n1_; have GW110 := n2_; have GE110 := n3_; clear n0_ n1_ n2_ n3_; clear hb hbox hg))
  have n0_ := Aside0.mk (blk_drew BK110.out)
  have n1_ := Aside0.mk (below_drew1 HB.out)
  clear BK110
  clear HB
  have BK110 := n0_
  have HB := n1_
  clear n0_ n1_
  refine start_ (n := 9) (S := fun w' => w'.cell? ⟨gb110, 0, none⟩ = some (.string a0_0) ∧ w'.cell? ⟨gb110, 1, none⟩ = some (.int .i64 a0_1) ∧ w'.cell? ⟨gb110, 2, none⟩ = some (.int .i64 a0_2) ∧ w'.cell? ⟨gb110, 3, none⟩ = some (.int .i64 a0_3) ∧ w'.cell? ⟨gb110, 4, none⟩ = some (.int .i64 a0_4) ∧ w'.cell? ⟨gb110, 5, none⟩ = some (.int .i64 a0_5) ∧ w'.cell? ⟨gb110, 6, none⟩ = some (.int .i64 a0_6) ∧ w'.cell? ⟨gb110, 7, none⟩ = some (.int .i64 a0_7) ∧ w'.cell? ⟨gb110, 8, none⟩ = some (.slice A0_8 l0_8.length c0_8)) (ds := []) #[false, false, false, false, false, false, false, false, false] (by kernel_rfl) rfl rfl ⟨(blk_cell BK110.out 0).trans rfl, (blk_cell BK110.out 1).trans rfl, (blk_cell BK110.out 2).trans rfl, (blk_cell BK110.out 3).trans rfl, (blk_cell BK110.out 4).trans rfl, (blk_cell BK110.out 5).trans rfl, (blk_cell BK110.out 6).trans rfl, (blk_cell BK110.out 7).trans rfl, (blk_cell BK110.out 8).trans rfl⟩ (fun hHeld => ?_); refine with_tabW feature_Maximum.tab1 feature_Maximum.bits1 (fun HT_ HW_ => ?_)
  generalize w4.drew = w5 at BK110 HB hHeld ⊢
  refine pure_ (i := 1) (N := some 5) (v := ?_) (a' := ?_) #[false, true, false, false, false, false, false, false, false] rfl rfl (any_of HT_.out (by kernel_rfl)) (fun _ _ _ h => h) (Or.inl ⟨by rfl, ?_⟩) ?_ ?_
  rotate_left
  · intro w'
    go_simp
    with_reducible rfl
  rotate_left
  · simp only [Act.put, List.setIfInBounds_toArray, List.set_cons_zero, List.set_cons_succ, i64_w, i32_w]
    rfl
  refine take_ (i := 0) (N := some 4) (v := ?_) (a' := ?_) #[true, true, false, false, false, false, false, false, false] rfl rfl (take_ofW HT_.out HW_.out (by kernel_rfl)) (fun _ _ _ h => h) (Or.inl ⟨by rfl, ?_⟩) hHeld ?_ ?_
  rotate_left
  · rintro w' ⟨s0, s1, s2, s3, s4, s5, s6, s7, s8⟩
    go_simp
    with_reducible rfl
  rotate_left
  · simp only [Act.put, List.setIfInBounds_toArray, List.set_cons_zero, List.set_cons_succ, i64_w, i32_w]
    rfl
  refine take_ (i := 2) (N := some 6) (v := ?_) (a' := ?_) #[true, true, true, false, false, false, false, false, false] rfl rfl (take_ofW HT_.out HW_.out (by kernel_rfl)) (fun _ _ _ h => h) (Or.inl ⟨by rfl, ?_⟩) hHeld ?_ ?_
  rotate_left
  · rintro w' ⟨s0, s1, s2, s3, s4, s5, s6, s7, s8⟩
    go_simp
    with_reducible rfl
  rotate_left
  · simp only [Act.put, List.setIfInBounds_toArray, List.set_cons_zero, List.set_cons_succ, i64_w, i32_w]
    rfl
  refine one_ (i := 3) (N := some 7) #[true, true, true, true, false, false, false, false, false] rfl rfl (one_of HT_.out (by kernel_rfl)) (by decide) (fun K hK => ?_)
  refine goes_ Tryz.func56 (by kernel_rfl) rfl #[.int .i64 a0_1] (by rfl) rfl rfl (by (try simp only [List.map_toArray, List.map_cons, List.map_nil]); first | done | rfl | (simp only [List.length_drop, List.length_take]; rfl)) ?_
  with_reducible refine (ZA.feature_inner.calls a0_1 t111 _ A2.out).mono ?_
  rintro e w' ⟨rfl, ⟨nd, rfl⟩⟩
  refine ⟨_, rfl, ?_⟩
  refine hK.out _ _ ⟨(blk_cell BK110.out 0).trans rfl, (blk_cell BK110.out 1).trans rfl, (blk_cell BK110.out 2).trans rfl, (blk_cell BK110.out 3).trans rfl, (blk_cell BK110.out 4).trans rfl, (blk_cell BK110.out 5).trans rfl, (blk_cell BK110.out 6).trans rfl, (blk_cell BK110.out 7).trans rfl, (blk_cell BK110.out 8).trans rfl⟩ (fun hHeld => ?_)
  clear hK K
  refine norm_ (a' := ?_) ?_ ?_
  rotate_left
  · show Act.put _ (some 7) _ = _
    simp only [Act.put, List.setIfInBounds_toArray, List.set_cons_zero, List.set_cons_succ, i64_w, i32_w]
    rfl
  refine one_ (i := 4) (N := some 8) #[true, true, true, true, true, false, false, false, false] rfl rfl (one_of HT_.out (by kernel_rfl)) (by decide) (fun K hK => ?_)
  refine goes_ Tryz.func112 (by kernel_rfl) rfl #[.agg #[.string a0_0, .int .i64 a0_1, .int .i64 a0_2, .int .i64 a0_3, .int .i64 a0_4, .int .i64 a0_5, .int .i64 a0_6, .int .i64 a0_7, .slice A0_8 l0_8.length c0_8], .bool t111] (by rfl) rfl rfl (by (try simp only [List.map_toArray, List.map_cons, List.map_nil]); first | done | rfl | (simp only [List.length_drop, List.length_take]; rfl)) ?_
  with_reducible refine (feature_extreme.calls k a0_0 a0_1 a0_2 a0_3 a0_4 a0_5 a0_6 a0_7 _ _ l0_8 t111 t112 t113 _ ?side1 ?side2 A3.out).mono ?_
  (case side1 => repeat (first | exact (Kd.C_below HR0_8.out (by repeat (first | (with_reducible first | exact HB.out | apply below_alloc | apply pw_below_drewN | apply below_drew1 | refine below_set ?_ GE110.out) | exact HB.out))) | (with_reducible refine Kd.C_alloc ?_ _) | (with_reducible refine Kd.C_drewN ?_ _) | (with_reducible refine Kd.C_drew ?_)))
  (case side2 => exact HC0_8.out)
  rintro e w6 ⟨rfl, hb⟩
  refine ⟨_, rfl, ?_⟩
  have n0_ := Aside0.mk (blk_below (g := gb110) (o := .cells #[.string a0_0, .int .i64 a0_1, .int .i64 a0_2, .int .i64 a0_3, .int .i64 a0_4, .int .i64 a0_5, .int .i64 a0_6, .int .i64 a0_7, .slice A0_8 l0_8.length c0_8] 28 (0, 0)) (by (with_reducible repeat (first | refine blk_drewN ?_ _ | refine blk_drew ?_ | refine blk_alloc ?_ _)); exact BK110.out) hb)
  have n1_ := Aside0.mk (below_step (by repeat (first | (with_reducible first | exact HB.out | apply below_alloc | apply pw_below_drewN | apply below_drew1 | refine below_set ?_ GE110.out) | exact HB.out)) hb)
  clear BK110
  clear HB
  have BK110 := n0_
  have HB := n1_
  clear n0_ n1_
  (try clear hb)
  (try clear hb2)
  (try clear hk)
  (try clear hi)
  refine hK.out _ _ ⟨(blk_cell BK110.out 0).trans rfl, (blk_cell BK110.out 1).trans rfl, (blk_cell BK110.out 2).trans rfl, (blk_cell BK110.out 3).trans rfl, (blk_cell BK110.out 4).trans rfl, (blk_cell BK110.out 5).trans rfl, (blk_cell BK110.out 6).trans rfl, (blk_cell BK110.out 7).trans rfl, (blk_cell BK110.out 8).trans rfl⟩ (fun hHeld => ?_)
  clear hK K
  refine norm_ (a' := ?_) ?_ ?_
  rotate_left
  · show Act.put _ (some 8) _ = _
    simp only [Act.put, List.setIfInBounds_toArray, List.set_cons_zero, List.set_cons_succ, i64_w, i32_w]
    rfl
  refine pure_ (i := 5) (N := some 9) (v := ?_) (a' := ?_) #[true, true, true, true, true, true, false, false, false] rfl rfl (any_of HT_.out (by kernel_rfl)) (fun _ _ _ h => h) (Or.inl ⟨by rfl, ?_⟩) ?_ ?_
  rotate_left
  · intro w'
    go_simp
    with_reducible rfl
  rotate_left
  · simp only [Act.put, List.setIfInBounds_toArray, List.set_cons_zero, List.set_cons_succ, i64_w, i32_w]
    rfl
  refine pure_ (i := 6) (N := some 10) (v := ?_) (a' := ?_) #[true, true, true, true, true, true, true, false, false] rfl rfl (any_of HT_.out (by kernel_rfl)) (fun _ _ _ h => h) (Or.inl ⟨by rfl, ?_⟩) ?_ ?_
  rotate_left
  · intro w'
    go_simp
    with_reducible rfl
  rotate_left
  · simp only [Act.put, List.setIfInBounds_toArray, List.set_cons_zero, List.set_cons_succ, i64_w, i32_w]
    rfl
  refine pure_ (i := 7) (N := some 2) (v := ?_) (a' := ?_) #[true, true, true, true, true, true, true, true, false] rfl rfl (any_of HT_.out (by kernel_rfl)) (fun _ _ _ h => h) (Or.inl ⟨by rfl, ?_⟩) ?_ ?_
  rotate_left
  · intro w'
    go_simp
    with_reducible rfl
  rotate_left
  · simp only [Act.put, List.setIfInBounds_toArray, List.set_cons_zero, List.set_cons_succ, i64_w, i32_w]
    rfl
  refine pure_ (i := 8) (N := some 3) (v := ?_) (a' := ?_) #[true, true, true, true, true, true, true, true, true] rfl rfl (any_of HT_.out (by kernel_rfl)) (fun _ _ _ h => h) (Or.inl ⟨by rfl, ?_⟩) ?_ ?_
  rotate_left
  · intro w'
    go_simp
    with_reducible rfl
  rotate_left
  · simp only [Act.put, List.setIfInBounds_toArray, List.set_cons_zero, List.set_cons_succ, i64_w, i32_w]
    rfl
  refine done_ (done_of HT_.out (by kernel_rfl)) ?_
  try go_wp2
  go_ret2
  exact ⟨by first | rfl | (simp [errW_none, errW_some] <;> rfl) | (simp [*, errW_none, errW_some] <;> rfl), by repeat (first | (with_reducible first | exact HB.out | apply below_alloc | apply pw_below_drewN | apply below_drew1 | refine below_set ?_ GE110.out) | exact HB.out)⟩
def feature_Least.f (k : Nat) (a0_0 : ByteArray) (a0_1 : Int) (a0_2 : Int) (a0_3 : Int) (a0_4 : Int) (a0_5 : Int) (a0_6 : Int) (a0_7 : Int) (l0_8 : List (S31)) : Option (Int × Int) := (ZA.feature_inner.f a0_1).bind fun t115 => ((feature_extreme.f k a0_0 a0_1 a0_2 a0_3 a0_4 a0_5 a0_6 a0_7 l0_8 (!t115)).bind fun bt116 => (some (bt116.1, bt116.2)))
theorem feature_Least.mono : ∀ a0 a1 a2 a3 a4 a5 a6 a7 a8 k, LeO (feature_Least.f k a0 a1 a2 a3 a4 a5 a6 a7 a8) (feature_Least.f (k + 1) a0 a1 a2 a3 a4 a5 a6 a7 a8) := by
  intro a0 a1 a2 a3 a4 a5 a6 a7 a8 k
  unfold feature_Least.f
  repeat' first
      | (with_reducible exact feature_extreme.mono _ _ _ _ _ _ _ _ _ _ _)
      | (with_reducible exact LeO.refl _)
      | (with_reducible exact LeO.none _)
      | (with_reducible refine LeO.ite ?_ ?_)
      | (with_reducible refine LeO.bind ?_ (fun _ => ?_))
      | exact feature_extreme.mono _ _ _ _ _ _ _ _ _ _ _
      | exact LeO.none _
      | refine LeO.ite ?_ ?_
      | refine LeO.bind ?_ (fun _ => ?_)
def feature_Least.T1 : Bool × List (List Nat × List Nat) := (true, [([], []), ([], []), ([1], [1]), ([2], [2]), ([3], [3]), ([0, 4, 3], [0, 4]), ([5], [5]), ([5], [5]), ([6, 5, 0, 1, 2, 3, 4, 5, 6, 7], [6]), ([7, 8, 0, 1, 2, 3, 4, 5, 6, 7, 8], [7])])
def feature_Least.B1 : List Nat := [0, 0, 2, 6, 14, 31, 63, 63, 255, 511]
theorem feature_Least.tab1 : rtab .any (opsOf Tryz.f89 1) = feature_Least.T1 := by kernel_rfl
theorem feature_Least.bits1 : waitsOk feature_Least.T1.2 feature_Least.B1 = true := by kernel_rfl
set_option maxHeartbeats 8000000 in
set_option maxRecDepth 100000 in
theorem feature_Least.calls (k : Nat) (a0_0 : ByteArray) (a0_1 : Int) (a0_2 : Int) (a0_3 : Int) (a0_4 : Int) (a0_5 : Int) (a0_6 : Int) (a0_7 : Int) (A0_8 : Option Addr) (c0_8 : Nat) (l0_8 : List (S31)) (r1 : Int) (r2 : Int) (w : World) (hr0_8 : Kd.C k31 w A0_8 l0_8.length l0_8) (hc0_8 : l0_8.length ≤ c0_8) (h : feature_Least.f k a0_0 a0_1 a0_2 a0_3 a0_4 a0_5 a0_6 a0_7 l0_8 = some (r1, r2)) :
    Calls Tryz.prog 89 #[.agg #[.string a0_0, .int .i64 a0_1, .int .i64 a0_2, .int .i64 a0_3, .int .i64 a0_4, .int .i64 a0_5, .int .i64 a0_6, .int .i64 a0_7, .slice A0_8 l0_8.length c0_8]] w fun e w' => e = .returned (.tuple #[.int .i64 r1, .int .i64 r2]) ∧ Below w.heap.size w w' := by
  have hu28 := Tryz.underlying28
  have HR0_8 := Aside0.mk hr0_8
  have HC0_8 := Aside0.mk hc0_8
  clear hr0_8 hc0_8
  have HB := Aside0.mk (Below.refl w.heap.size w)
  have H : ((ZA.feature_inner.f a0_1).bind fun t115 => ((feature_extreme.f k a0_0 a0_1 a0_2 a0_3 a0_4 a0_5 a0_6 a0_7 l0_8 (!t115)).bind fun bt116 => (some (bt116.1, bt116.2)))) = some (r1, r2) := h
  clear h
  replace H := Option.bind_eq_some_iff.mp H
  obtain ⟨t115, A20, H⟩ := H
  replace H : ((feature_extreme.f k a0_0 a0_1 a0_2 a0_3 a0_4 a0_5 a0_6 a0_7 l0_8 (!t115)).bind fun bt116 => (some (bt116.1, bt116.2))) = some (r1, r2) := H
  have A2 := Aside0.mk A20
  clear A20
  replace H := Option.bind_eq_some_iff.mp H
  obtain ⟨⟨t116, t117⟩, A30, H⟩ := H
  replace H : (some (t116, t117)) = some (r1, r2) := H
  have A3 := Aside0.mk A30
  clear A30
  simp only [Option.some.injEq, Prod.mk.injEq] at H
  obtain ⟨rfl, rfl⟩ := H
  go_enter Tryz.func89, Tryz.ntmps89
  try go_wp2_with (first | ((with_reducible refine gate_dst (N := 1) rfl ?_); refine box_event ?hg (N := 1) ?hd (cs := #[.string a0_0, .int .i64 a0_1, .int .i64 a0_2, .int .i64 a0_3, .int .i64 a0_4, .int .i64 a0_5, .int .i64 a0_6, .int .i64 a0_7, .slice A0_8 l0_8.length c0_8]) (t := 28) ?hr ?_; (case hd => rfl); (case hg => rfl); (case hr => first | (go_simp; done) | (go_simp; rfl)); intro gb114 hg w4 hbox hb; have n0_ := Aside0.mk (below_step (by repeat (first | (with_reducible first | exact HB.out | apply below_alloc | apply pw_below_drewN | apply below_drew1) | exact HB.out)) hb); have n1_ := Aside0.mk (hbox); have n2_ := Aside0.mk ((by rw [hg]; exact (below_size (by repeat (first | (with_reducible first | exact HB.out | apply below_alloc | apply pw_below_drewN | apply below_drew1) | exact HB.out))) : w.heap.size ≤ gb114)); have n3_ := Aside0.mk ((by rw [hg]; exact (below_size (by repeat (first | (with_reducible first | exact HB.out | apply below_alloc | apply pw_below_drewN | apply below_drew1) | exact HB.out))) : w.heap.size ≤ gb114)); clear HB; have HB := n0_; have BK114 := n1_; have GW114 := n2_; have GE114 := n3_; clear n0_ n1_ n2_ n3_; clear hb hbox hg))
  have n0_ := Aside0.mk (blk_drew BK114.out)
  have n1_ := Aside0.mk (below_drew1 HB.out)
  clear BK114
  clear HB
  have BK114 := n0_
  have HB := n1_
  clear n0_ n1_
  refine start_ (n := 10) (S := fun w' => w'.cell? ⟨gb114, 0, none⟩ = some (.string a0_0) ∧ w'.cell? ⟨gb114, 1, none⟩ = some (.int .i64 a0_1) ∧ w'.cell? ⟨gb114, 2, none⟩ = some (.int .i64 a0_2) ∧ w'.cell? ⟨gb114, 3, none⟩ = some (.int .i64 a0_3) ∧ w'.cell? ⟨gb114, 4, none⟩ = some (.int .i64 a0_4) ∧ w'.cell? ⟨gb114, 5, none⟩ = some (.int .i64 a0_5) ∧ w'.cell? ⟨gb114, 6, none⟩ = some (.int .i64 a0_6) ∧ w'.cell? ⟨gb114, 7, none⟩ = some (.int .i64 a0_7) ∧ w'.cell? ⟨gb114, 8, none⟩ = some (.slice A0_8 l0_8.length c0_8)) (ds := []) #[false, false, false, false, false, false, false, false, false, false] (by kernel_rfl) rfl rfl ⟨(blk_cell BK114.out 0).trans rfl, (blk_cell BK114.out 1).trans rfl, (blk_cell BK114.out 2).trans rfl, (blk_cell BK114.out 3).trans rfl, (blk_cell BK114.out 4).trans rfl, (blk_cell BK114.out 5).trans rfl, (blk_cell BK114.out 6).trans rfl, (blk_cell BK114.out 7).trans rfl, (blk_cell BK114.out 8).trans rfl⟩ (fun hHeld => ?_); refine with_tabW feature_Least.tab1 feature_Least.bits1 (fun HT_ HW_ => ?_)
  generalize w4.drew = w5 at BK114 HB hHeld ⊢
  refine pure_ (i := 1) (N := some 5) (v := ?_) (a' := ?_) #[false, true, false, false, false, false, false, false, false, false] rfl rfl (any_of HT_.out (by kernel_rfl)) (fun _ _ _ h => h) (Or.inl ⟨by rfl, ?_⟩) ?_ ?_
  rotate_left
  · intro w'
    go_simp
    with_reducible rfl
  rotate_left
  · simp only [Act.put, List.setIfInBounds_toArray, List.set_cons_zero, List.set_cons_succ, i64_w, i32_w]
    rfl
  refine take_ (i := 0) (N := some 4) (v := ?_) (a' := ?_) #[true, true, false, false, false, false, false, false, false, false] rfl rfl (take_ofW HT_.out HW_.out (by kernel_rfl)) (fun _ _ _ h => h) (Or.inl ⟨by rfl, ?_⟩) hHeld ?_ ?_
  rotate_left
  · rintro w' ⟨s0, s1, s2, s3, s4, s5, s6, s7, s8⟩
    go_simp
    with_reducible rfl
  rotate_left
  · simp only [Act.put, List.setIfInBounds_toArray, List.set_cons_zero, List.set_cons_succ, i64_w, i32_w]
    rfl
  refine take_ (i := 2) (N := some 6) (v := ?_) (a' := ?_) #[true, true, true, false, false, false, false, false, false, false] rfl rfl (take_ofW HT_.out HW_.out (by kernel_rfl)) (fun _ _ _ h => h) (Or.inl ⟨by rfl, ?_⟩) hHeld ?_ ?_
  rotate_left
  · rintro w' ⟨s0, s1, s2, s3, s4, s5, s6, s7, s8⟩
    go_simp
    with_reducible rfl
  rotate_left
  · simp only [Act.put, List.setIfInBounds_toArray, List.set_cons_zero, List.set_cons_succ, i64_w, i32_w]
    rfl
  refine one_ (i := 3) (N := some 7) #[true, true, true, true, false, false, false, false, false, false] rfl rfl (one_of HT_.out (by kernel_rfl)) (by decide) (fun K hK => ?_)
  refine goes_ Tryz.func56 (by kernel_rfl) rfl #[.int .i64 a0_1] (by rfl) rfl rfl (by (try simp only [List.map_toArray, List.map_cons, List.map_nil]); first | done | rfl | (simp only [List.length_drop, List.length_take]; rfl)) ?_
  with_reducible refine (ZA.feature_inner.calls a0_1 t115 _ A2.out).mono ?_
  rintro e w' ⟨rfl, ⟨nd, rfl⟩⟩
  refine ⟨_, rfl, ?_⟩
  refine hK.out _ _ ⟨(blk_cell BK114.out 0).trans rfl, (blk_cell BK114.out 1).trans rfl, (blk_cell BK114.out 2).trans rfl, (blk_cell BK114.out 3).trans rfl, (blk_cell BK114.out 4).trans rfl, (blk_cell BK114.out 5).trans rfl, (blk_cell BK114.out 6).trans rfl, (blk_cell BK114.out 7).trans rfl, (blk_cell BK114.out 8).trans rfl⟩ (fun hHeld => ?_)
  clear hK K
  refine norm_ (a' := ?_) ?_ ?_
  rotate_left
  · show Act.put _ (some 7) _ = _
    simp only [Act.put, List.setIfInBounds_toArray, List.set_cons_zero, List.set_cons_succ, i64_w, i32_w]
    rfl
  refine pure_ (i := 4) (N := some 8) (v := ?_) (a' := ?_) #[true, true, true, true, true, false, false, false, false, false] rfl rfl (any_of HT_.out (by kernel_rfl)) (fun _ _ _ h => h) (Or.inl ⟨by rfl, ?_⟩) ?_ ?_
  rotate_left
  · intro w'
    go_simp
    with_reducible rfl
  rotate_left
  · simp only [Act.put, List.setIfInBounds_toArray, List.set_cons_zero, List.set_cons_succ, i64_w, i32_w]
    rfl
  refine one_ (i := 5) (N := some 9) #[true, true, true, true, true, true, false, false, false, false] rfl rfl (one_of HT_.out (by kernel_rfl)) (by decide) (fun K hK => ?_)
  refine goes_ Tryz.func112 (by kernel_rfl) rfl #[.agg #[.string a0_0, .int .i64 a0_1, .int .i64 a0_2, .int .i64 a0_3, .int .i64 a0_4, .int .i64 a0_5, .int .i64 a0_6, .int .i64 a0_7, .slice A0_8 l0_8.length c0_8], .bool (!t115)] (by rfl) rfl rfl (by (try simp only [List.map_toArray, List.map_cons, List.map_nil]); first | done | rfl | (simp only [List.length_drop, List.length_take]; rfl)) ?_
  with_reducible refine (feature_extreme.calls k a0_0 a0_1 a0_2 a0_3 a0_4 a0_5 a0_6 a0_7 _ _ l0_8 (!t115) t116 t117 _ ?side1 ?side2 A3.out).mono ?_
  (case side1 => repeat (first | exact (Kd.C_below HR0_8.out (by repeat (first | (with_reducible first | exact HB.out | apply below_alloc | apply pw_below_drewN | apply below_drew1 | refine below_set ?_ GE114.out) | exact HB.out))) | (with_reducible refine Kd.C_alloc ?_ _) | (with_reducible refine Kd.C_drewN ?_ _) | (with_reducible refine Kd.C_drew ?_)))
  (case side2 => exact HC0_8.out)
  rintro e w6 ⟨rfl, hb⟩
  refine ⟨_, rfl, ?_⟩
  have n0_ := Aside0.mk (blk_below (g := gb114) (o := .cells #[.string a0_0, .int .i64 a0_1, .int .i64 a0_2, .int .i64 a0_3, .int .i64 a0_4, .int .i64 a0_5, .int .i64 a0_6, .int .i64 a0_7, .slice A0_8 l0_8.length c0_8] 28 (0, 0)) (by (with_reducible repeat (first | refine blk_drewN ?_ _ | refine blk_drew ?_ | refine blk_alloc ?_ _)); exact BK114.out) hb)
  have n1_ := Aside0.mk (below_step (by repeat (first | (with_reducible first | exact HB.out | apply below_alloc | apply pw_below_drewN | apply below_drew1 | refine below_set ?_ GE114.out) | exact HB.out)) hb)
  clear BK114
  clear HB
  have BK114 := n0_
  have HB := n1_
  clear n0_ n1_
  (try clear hb)
  (try clear hb2)
  (try clear hk)
  (try clear hi)
  refine hK.out _ _ ⟨(blk_cell BK114.out 0).trans rfl, (blk_cell BK114.out 1).trans rfl, (blk_cell BK114.out 2).trans rfl, (blk_cell BK114.out 3).trans rfl, (blk_cell BK114.out 4).trans rfl, (blk_cell BK114.out 5).trans rfl, (blk_cell BK114.out 6).trans rfl, (blk_cell BK114.out 7).trans rfl, (blk_cell BK114.out 8).trans rfl⟩ (fun hHeld => ?_)
  clear hK K
  refine norm_ (a' := ?_) ?_ ?_
  rotate_left
  · show Act.put _ (some 9) _ = _
    simp only [Act.put, List.setIfInBounds_toArray, List.set_cons_zero, List.set_cons_succ, i64_w, i32_w]
    rfl
  refine pure_ (i := 6) (N := some 10) (v := ?_) (a' := ?_) #[true, true, true, true, true, true, true, false, false, false] rfl rfl (any_of HT_.out (by kernel_rfl)) (fun _ _ _ h => h) (Or.inl ⟨by rfl, ?_⟩) ?_ ?_
  rotate_left
  · intro w'
    go_simp
    with_reducible rfl
  rotate_left
  · simp only [Act.put, List.setIfInBounds_toArray, List.set_cons_zero, List.set_cons_succ, i64_w, i32_w]
    rfl
  refine pure_ (i := 7) (N := some 11) (v := ?_) (a' := ?_) #[true, true, true, true, true, true, true, true, false, false] rfl rfl (any_of HT_.out (by kernel_rfl)) (fun _ _ _ h => h) (Or.inl ⟨by rfl, ?_⟩) ?_ ?_
  rotate_left
  · intro w'
    go_simp
    with_reducible rfl
  rotate_left
  · simp only [Act.put, List.setIfInBounds_toArray, List.set_cons_zero, List.set_cons_succ, i64_w, i32_w]
    rfl
  refine pure_ (i := 8) (N := some 2) (v := ?_) (a' := ?_) #[true, true, true, true, true, true, true, true, true, false] rfl rfl (any_of HT_.out (by kernel_rfl)) (fun _ _ _ h => h) (Or.inl ⟨by rfl, ?_⟩) ?_ ?_
  rotate_left
  · intro w'
    go_simp
    with_reducible rfl
  rotate_left
  · simp only [Act.put, List.setIfInBounds_toArray, List.set_cons_zero, List.set_cons_succ, i64_w, i32_w]
    rfl
  refine pure_ (i := 9) (N := some 3) (v := ?_) (a' := ?_) #[true, true, true, true, true, true, true, true, true, true] rfl rfl (any_of HT_.out (by kernel_rfl)) (fun _ _ _ h => h) (Or.inl ⟨by rfl, ?_⟩) ?_ ?_
  rotate_left
  · intro w'
    go_simp
    with_reducible rfl
  rotate_left
  · simp only [Act.put, List.setIfInBounds_toArray, List.set_cons_zero, List.set_cons_succ, i64_w, i32_w]
    rfl
  refine done_ (done_of HT_.out (by kernel_rfl)) ?_
  try go_wp2
  go_ret2
  exact ⟨by first | rfl | (simp [errW_none, errW_some] <;> rfl) | (simp [*, errW_none, errW_some] <;> rfl), by repeat (first | (with_reducible first | exact HB.out | apply below_alloc | apply pw_below_drewN | apply below_drew1 | refine below_set ?_ GE114.out) | exact HB.out)⟩
end Go.Proofs.YtkohjcfmcliioaaGreatDoor.ZF
set_option linter.unusedVariables false
namespace Go.Proofs.YtkohjcfmcliioaaGreatDoor
open Go Go.RowKit Go.Proofs.YtkohjcfmcliioaaGreatDoorW.PrintWords
open Go.Proofs.YtkohjcfmcliioaaGreatDoor.ZA (S76 S31 k31 k76)
def inS (n : Int) : Bool := decide (-100000 ≤ n) && decide (n ≤ 100000)
/-- The error of a feature. -/
def featS (name : ByteArray) (kind axis x y z lo hi : Int) : Int :=
  if nameS name ≠ 0 then nameS name
  else if kind < 0 ∨ 5 ≤ kind ∨ axis < 0 ∨ 3 ≤ axis then 1
  else if kind = 4 ∧ axis ≠ 0 then 3
  else if (inS x && inS y && inS z) = false then 2
  else if kind = 0 then (if lo ≠ 0 ∨ hi ≠ 0 then 3 else 0)
  else if (inS lo && inS hi) = false then 2
  else if lo > hi then 9
  else if lo < 1 then 2
  else 0
theorem fin_f (x : Int) : ZA.feature_in.f x = some (inS x) := by
  unfold ZA.feature_in.f inS
  by_cases h : x ≥ -100000
  · rw [if_pos h, decide_eq_true (show -100000 ≤ x from h)]; rfl
  · rw [if_neg h, decide_eq_false (show ¬ -100000 ≤ x from h)]; rfl
theorem din_f (x : Int) : ZA.dimension_ranged.f x = some (inS x) := fin_f x
theorem rin_f (x : Int) : ZA.metrolabref17_In.f x = some (inS x) := fin_f x
theorem ranged_f (x y z : Int) : ZA.feature_ranged.f x y z = some (inS x && inS y && inS z) := by
  unfold ZA.feature_ranged.f
  simp only [fin_f, Option.bind_some]
  cases inS x <;> cases inS y <;> simp
def limS (lo hi : Int) : Int := if (inS lo && inS hi) = false then 2 else if lo > hi then 9 else 0
theorem dcheck_f (k : Nat) (lo hi : Int) : ZA.dimension_Check.f (k + 1) lo hi = some (limS lo hi) := by
  unfold ZA.dimension_Check.f limS
  simp only [din_f, Option.bind_some, ZA.dimension_Check.j0]
  cases inS lo <;> cases inS hi <;> simp
  split <;> rfl
theorem rcheck_f (k : Nat) (lo hi : Int) : ZA.metrolabref17_Check.f (k + 1) lo hi = some (limS lo hi) := dcheck_f k lo hi
theorem feat_f (m : Nat) (name : ByteArray) (kind axis x y z lo hi : Int) (l : List S31) : ZF.feature_Check.f (m + 4) name kind axis x y z lo hi l = some (featS name kind axis x y z lo hi) := by
  unfold ZF.feature_Check.f featS dimension_Name.f
  simp only [Option.bind_some, ZF.feature_Check.j0, ZF.feature_Check.j1, ZF.feature_Check.j2, ranged_f, dcheck_f, limS]
  by_cases hn : nameS name = 0
  · by_cases h1 : kind < 0 ∨ 5 ≤ kind ∨ axis < 0 ∨ 3 ≤ axis
    · by_cases a1 : kind < 0 <;> by_cases a2 : kind ≥ 5 <;> by_cases a3 : axis < 0 <;> by_cases a4 : axis ≥ 3 <;> simp [*] <;> omega
    · have a1 : ¬ kind < 0 := by omega
      have a2 : ¬ kind ≥ 5 := by omega
      have a3 : ¬ axis < 0 := by omega
      have a4 : ¬ axis ≥ 3 := by omega
      rw [if_neg h1]
      simp only [hn, a1, a2, a3, a4, if_true, if_false, decide_false, ne_eq, not_true_eq_false, Bool.false_eq_true]
      generalize (inS x && inS y && inS z) = b
      generalize (inS lo && inS hi) = c
      by_cases k4 : kind = 4
      · subst k4
        by_cases ha : axis = 0 <;> cases b <;> cases c <;> by_cases hl : lo > hi <;> by_cases hl1 : lo < 1 <;> simp [*]
      · by_cases k0 : kind = 0
        · subst k0
          by_cases hlo : lo = 0 <;> by_cases hhi : hi = 0 <;> cases b <;> simp [*]
        · cases b <;> cases c <;> by_cases hl : lo > hi <;> by_cases hl1 : lo < 1 <;> simp [*]
  · simp [hn]
end Go.Proofs.YtkohjcfmcliioaaGreatDoor
set_option linter.unusedVariables false
namespace Go.Proofs
open Go.Shelf
def Tryz.lays156_ren : Go.Shelf.Ren := ⟨fun | 156 => 59 | 165 => 92 | 166 => 93 | 169 => 94 | 240 => 114 | 241 => 115 | 276 => 139 | 277 => 140 | n => n, fun | 31 => 63 | 9 => 9 | 3 => 3 | 4 => 4 | 0 => 0 | 20 => 20 | 72 => 135 | 76 => 105 | 70 => 133 | 37 => 130 | 75 => 104 | 127 => 149 | 164 => 174 | 5 => 5 | 80 => 137 | n => n, fun | n => n⟩
theorem Tryz.lays156 : Go.Proofs.Lays.n156 Tryz.prog Tryz.lays156_ren := {
  mixed := by kernel_rfl
  f156 := Tryz.func59.trans (congrArg some (by kernel_rfl))
  f165 := Tryz.func92.trans (congrArg some (by kernel_rfl))
  f166 := Tryz.func93.trans (congrArg some (by kernel_rfl))
  f169 := Tryz.func94.trans (congrArg some (by kernel_rfl))
  f240 := Tryz.func114.trans (congrArg some (by kernel_rfl))
  f241 := Tryz.func115.trans (congrArg some (by kernel_rfl))
  f276 := Tryz.func139.trans (congrArg some (by kernel_rfl))
  f277 := Tryz.func140.trans (congrArg some (by kernel_rfl))
  t0 := Tryz.underlying0
  a0 := Tryz.isAgg0
  z0 := Tryz.sizeOf0
  v0 := Tryz.zeroValue0
  t3 := Tryz.underlying3
  a3 := Tryz.isAgg3
  z3 := Tryz.sizeOf3
  v3 := Tryz.zeroValue3
  t4 := Tryz.underlying4
  a4 := Tryz.isAgg4
  z4 := Tryz.sizeOf4
  v4 := Tryz.zeroValue4
  t9 := Tryz.underlying9
  a9 := Tryz.isAgg9
  z9 := Tryz.sizeOf9
  v9 := Tryz.zeroValue9
  t20 := Tryz.underlying20
  a20 := Tryz.isAgg20
  z20 := Tryz.sizeOf20
  v20 := Tryz.zeroValue20
  t31 := Tryz.underlying63
  a31 := Tryz.isAgg63
  z31 := Tryz.sizeOf63
  v31 := Tryz.zeroValue63
  t37 := Tryz.underlying130
  a37 := Tryz.isAgg130
  z37 := Tryz.sizeOf130
  v37 := Tryz.zeroValue130
  t70 := Tryz.underlying133
  a70 := Tryz.isAgg133
  z70 := Tryz.sizeOf133
  v70 := Tryz.zeroValue133
  t72 := Tryz.underlying135
  a72 := Tryz.isAgg135
  z72 := Tryz.sizeOf135
  v72 := Tryz.zeroValue135
  t75 := Tryz.underlying104
  a75 := Tryz.isAgg104
  z75 := Tryz.sizeOf104
  v75 := Tryz.zeroValue104
  t76 := Tryz.underlying105
  a76 := Tryz.isAgg105
  z76 := Tryz.sizeOf105
  v76 := Tryz.zeroValue105
  t127 := Tryz.underlying149
  a127 := Tryz.isAgg149
  z127 := Tryz.sizeOf149
  v127 := Tryz.zeroValue149
  t164 := Tryz.underlying174
  a164 := Tryz.isAgg174
  z164 := Tryz.sizeOf174
  v164 := Tryz.zeroValue174 }
theorem Tryz.Builder_Extra_156 : Builder.Extra Tryz.prog Tryz.lays156_ren := {
  sizeBuilder := by kernel_rfl
  liesBuilder := by kernel_rfl
  t5 := Tryz.underlying5
  a5 := Tryz.isAgg5
  z5 := Tryz.sizeOf5
  v5 := Tryz.zeroValue5
  infoByte := by kernel_rfl
  cellsByte := by kernel_rfl
  sizeByte := by kernel_rfl
  neB5 := by decide }
open Go.RowKit in
theorem Tryz.strings_Join (bk o c : Nat) (xs : List ByteArray) (sep : ByteArray) (w : World) (hcells : ∀ (j : Nat) x, xs[j]? = some x → w.cell? ⟨bk, o + j, none⟩ = some (.string x)) (hbk : bk < w.heap.size) (hN : xs.length ≤ 140737488355328) (hcap : xs.length ≤ c) (hlen : (Lib.join (xs.map (·.data.toList)) sep.data.toList).length ≤ 140737488355328) :
    Calls Tryz.prog 59 #[.slice (some ⟨bk, o, none⟩) xs.length c, .string sep] w fun e w' => e = .returned (.string ⟨(Lib.join (xs.map (·.data.toList)) sep.data.toList).toArray⟩) ∧ Below w.heap.size w w' := Any.strings_Join Tryz.lays156 Tryz.Builder_Extra_156 bk o c xs sep w hcells hbk hN hcap hlen
def Tryz.lays137_ren : Go.Shelf.Ren := ⟨fun | 137 => 42 | 217 => 78 | 266 => 110 | n => n, fun | 9 => 9 | 5 => 5 | 3 => 3 | n => n, fun | n => n⟩
theorem Tryz.lays137 : Go.Proofs.Lays.n137 Tryz.prog Tryz.lays137_ren := {
  mixed := by kernel_rfl
  f137 := Tryz.func42.trans (congrArg some (by kernel_rfl))
  f217 := Tryz.func78.trans (congrArg some (by kernel_rfl))
  f266 := Tryz.func110.trans (congrArg some (by kernel_rfl))
  t3 := Tryz.underlying3
  a3 := Tryz.isAgg3
  z3 := Tryz.sizeOf3
  v3 := Tryz.zeroValue3
  t5 := Tryz.underlying5
  a5 := Tryz.isAgg5
  z5 := Tryz.sizeOf5
  v5 := Tryz.zeroValue5
  t9 := Tryz.underlying9
  a9 := Tryz.isAgg9
  z9 := Tryz.sizeOf9
  v9 := Tryz.zeroValue9 }
open Go.RowKit in
theorem Tryz.strings_IndexByte (s : ByteArray) (c : Int) (w : World) :
    Calls Tryz.prog 42 #[.string s, .int .u8 c] w fun e w' => e = .returned (.int .i64 (Lib.indexByte s.data.toList c.toNat.toUInt8)) ∧ w' = w := Any.strings_IndexByte Tryz.lays137 s c w
def Tryz.lays104_ren : Go.Shelf.Ren := ⟨fun | 104 => 100 | 211 => 124 | 207 => 148 | n => n, fun | 9 => 9 | 4 => 4 | 24 => 140 | 3 => 3 | n => n, fun | n => n⟩
theorem Tryz.lays104 : Go.Proofs.Lays.n104 Tryz.prog Tryz.lays104_ren := {
  mixed := by kernel_rfl
  f104 := Tryz.func100.trans (congrArg some (by kernel_rfl))
  f207 := Tryz.func148.trans (congrArg some (by kernel_rfl))
  f211 := Tryz.func124.trans (congrArg some (by kernel_rfl))
  t3 := Tryz.underlying3
  a3 := Tryz.isAgg3
  z3 := Tryz.sizeOf3
  v3 := Tryz.zeroValue3
  t4 := Tryz.underlying4
  a4 := Tryz.isAgg4
  z4 := Tryz.sizeOf4
  v4 := Tryz.zeroValue4
  t9 := Tryz.underlying9
  a9 := Tryz.isAgg9
  z9 := Tryz.sizeOf9
  v9 := Tryz.zeroValue9
  t24 := Tryz.underlying140
  a24 := Tryz.isAgg140
  z24 := Tryz.sizeOf140
  v24 := Tryz.zeroValue140 }
open Go.RowKit in
theorem Tryz.strings_CutSuffix (s p : ByteArray) (w : World) (hs : s.size ≤ 9223372036854775807) :
    Calls Tryz.prog 100 #[.string s, .string p] w fun e w' => e = .returned (.tuple #[.string ⟨(Lib.trimSuffix s.data.toList p.data.toList).toArray⟩, .bool (Lib.hasSuffix s.data.toList p.data.toList)]) ∧ w' = w := Any.strings_CutSuffix Tryz.lays104 s p w hs
def Tryz.laysM171_ren : Go.Shelf.Ren := ⟨fun | 171 => 58 | 243 => 91 | 246 => 113 | 283 => 135 | 284 => 136 | 285 => 137 | 286 => 138 | 129 => 134 | 317 => 154 | 318 => 155 | 319 => 156 | 320 => 157 | 337 => 165 | 338 => 166 | n => n, fun | 3 => 3 | 9 => 9 | 2 => 2 | 4 => 4 | 171 => 170 | 0 => 0 | 53 => 169 | 37 => 130 | 5 => 5 | 173 => 172 | 212 => 192 | 51 => 167 | 20 => 20 | 213 => 193 | 46 => 145 | 232 => 206 | 233 => 207 | n => n, fun | 17 => 3 | 18 => 6 | 19 => 7 | n => n⟩
theorem Tryz.laysM171 : Go.Proofs.LaysM.n171 Tryz.prog Tryz.laysM171_ren := {
  mixed := by kernel_rfl
  f129 := Tryz.func134.trans (congrArg some (by kernel_rfl))
  f171 := Tryz.func58.trans (congrArg some (by kernel_rfl))
  f243 := Tryz.func91.trans (congrArg some (by kernel_rfl))
  f246 := Tryz.func113.trans (congrArg some (by kernel_rfl))
  f283 := Tryz.func135.trans (congrArg some (by kernel_rfl))
  f284 := Tryz.func136.trans (congrArg some (by kernel_rfl))
  f285 := Tryz.func137.trans (congrArg some (by kernel_rfl))
  f286 := Tryz.func138.trans (congrArg some (by kernel_rfl))
  f317 := Tryz.func154.trans (congrArg some (by kernel_rfl))
  f318 := Tryz.func155.trans (congrArg some (by kernel_rfl))
  f319 := Tryz.func156.trans (congrArg some (by kernel_rfl))
  f320 := Tryz.func157.trans (congrArg some (by kernel_rfl))
  f337 := Tryz.func165.trans (congrArg some (by kernel_rfl))
  f338 := Tryz.func166.trans (congrArg some (by kernel_rfl))
  t0 := Tryz.underlying0
  a0 := Tryz.isAgg0
  z0 := Tryz.sizeOf0
  v0 := Tryz.zeroValue0
  t2 := Tryz.underlying2
  a2 := Tryz.isAgg2
  z2 := Tryz.sizeOf2
  v2 := Tryz.zeroValue2
  t3 := Tryz.underlying3
  a3 := Tryz.isAgg3
  z3 := Tryz.sizeOf3
  v3 := Tryz.zeroValue3
  t4 := Tryz.underlying4
  a4 := Tryz.isAgg4
  z4 := Tryz.sizeOf4
  v4 := Tryz.zeroValue4
  t5 := Tryz.underlying5
  a5 := Tryz.isAgg5
  z5 := Tryz.sizeOf5
  v5 := Tryz.zeroValue5
  t9 := Tryz.underlying9
  a9 := Tryz.isAgg9
  z9 := Tryz.sizeOf9
  v9 := Tryz.zeroValue9
  t20 := Tryz.underlying20
  a20 := Tryz.isAgg20
  z20 := Tryz.sizeOf20
  v20 := Tryz.zeroValue20
  t37 := Tryz.underlying130
  a37 := Tryz.isAgg130
  z37 := Tryz.sizeOf130
  v37 := Tryz.zeroValue130
  t46 := Tryz.underlying145
  a46 := Tryz.isAgg145
  z46 := Tryz.sizeOf145
  v46 := Tryz.zeroValue145
  t51 := Tryz.underlying167
  a51 := Tryz.isAgg167
  z51 := Tryz.sizeOf167
  v51 := Tryz.zeroValue167
  t53 := Tryz.underlying169
  a53 := Tryz.isAgg169
  z53 := Tryz.sizeOf169
  v53 := Tryz.zeroValue169
  t171 := Tryz.underlying170
  a171 := Tryz.isAgg170
  z171 := Tryz.sizeOf170
  v171 := Tryz.zeroValue170
  t173 := Tryz.underlying172
  a173 := Tryz.isAgg172
  z173 := Tryz.sizeOf172
  v173 := Tryz.zeroValue172
  t212 := Tryz.underlying192
  a212 := Tryz.isAgg192
  z212 := Tryz.sizeOf192
  v212 := Tryz.zeroValue192
  t213 := Tryz.underlying193
  a213 := Tryz.isAgg193
  z213 := Tryz.sizeOf193
  t232 := Tryz.underlying206
  a232 := Tryz.isAgg206
  z232 := Tryz.sizeOf206
  v232 := Tryz.zeroValue206
  t233 := Tryz.underlying207
  a233 := Tryz.isAgg207
  z233 := Tryz.sizeOf207
  v233 := Tryz.zeroValue207
  g17 := by kernel_rfl
  g18 := by kernel_rfl
  g19 := by kernel_rfl
  i0 := by kernel_rfl
  i2 := by kernel_rfl
  i3 := by kernel_rfl
  i4 := by kernel_rfl
  i5 := by kernel_rfl
  i9 := by kernel_rfl
  i20 := by kernel_rfl
  i37 := by kernel_rfl
  i46 := by kernel_rfl
  i51 := by kernel_rfl
  i53 := by kernel_rfl
  i171 := by kernel_rfl
  i173 := by kernel_rfl
  i212 := by kernel_rfl
  i232 := by kernel_rfl
  i233 := by kernel_rfl
  m17 := by kernel_rfl
  m18 := by kernel_rfl
  m19 := by kernel_rfl }
open Go.RowKit Go.Sort Go.Lib in
theorem Tryz.strconv_Itoa (n : Int) (h0 : -9223372036854775808 ≤ n) (h1 : n ≤ 9223372036854775807) (w : World) (htab : Lib.TabIs Tryz.prog w "internal/strconv.uint64pow10" .u64 Lib.pow10Tab) :
    Calls Tryz.prog 58 #[.int .i64 n] w fun e w' => e = .returned (.string ⟨(Lib.itoa n).toArray⟩) ∧ ∃ k os, w' = grow (w.drewN k) os := Any.strconv_Itoa Tryz.laysM171 n h0 h1 w htab
def Tryz.laysC172_ren : Go.Shelf.Ren := ⟨fun | 172 => 65 | 244 => 98 | 245 => 99 | 247 => 119 | 279 => 120 | 280 => 121 | 281 => 122 | 282 => 123 | 287 => 145 | 316 => 146 | 171 => 58 | 205 => 147 | 321 => 162 | 322 => 163 | 243 => 91 | 246 => 113 | 283 => 135 | 284 => 136 | 285 => 137 | 286 => 138 | 129 => 134 | 317 => 154 | 318 => 155 | 319 => 156 | 320 => 157 | 337 => 165 | 338 => 166 | n => n, fun | 9 => 9 | 3 => 3 | 75 => 104 | 76 => 105 | 4 => 4 | 5 => 5 | 167 => 152 | 37 => 130 | 0 => 0 | 85 => 153 | 2 => 2 | 168 => 155 | 53 => 169 | 175 => 179 | 46 => 145 | 210 => 183 | 127 => 149 | 145 => 197 | 143 => 195 | 21 => 21 | 171 => 170 | 173 => 172 | 212 => 192 | 51 => 167 | 20 => 20 | 213 => 193 | 232 => 206 | 233 => 207 | 80 => 137 | n => n, fun | 15 => 1 | 16 => 2 | 17 => 3 | 18 => 6 | 19 => 7 | n => n⟩
theorem Tryz.laysC172 : Go.Proofs.LaysC.n172 Tryz.prog Tryz.laysC172_ren := {
  mixed := by kernel_rfl
  f129 := Tryz.func134.trans (congrArg some (by kernel_rfl))
  f171 := Tryz.func58.trans (congrArg some (by kernel_rfl))
  f172 := Tryz.func65.trans (congrArg some (by kernel_rfl))
  f205 := Tryz.func147.trans (congrArg some (by kernel_rfl))
  f243 := Tryz.func91.trans (congrArg some (by kernel_rfl))
  f244 := Tryz.func98.trans (congrArg some (by kernel_rfl))
  f245 := Tryz.func99.trans (congrArg some (by kernel_rfl))
  f246 := Tryz.func113.trans (congrArg some (by kernel_rfl))
  f247 := Tryz.func119.trans (congrArg some (by kernel_rfl))
  f279 := Tryz.func120.trans (congrArg some (by kernel_rfl))
  f280 := Tryz.func121.trans (congrArg some (by kernel_rfl))
  f281 := Tryz.func122.trans (congrArg some (by kernel_rfl))
  f282 := Tryz.func123.trans (congrArg some (by kernel_rfl))
  f283 := Tryz.func135.trans (congrArg some (by kernel_rfl))
  f284 := Tryz.func136.trans (congrArg some (by kernel_rfl))
  f285 := Tryz.func137.trans (congrArg some (by kernel_rfl))
  f286 := Tryz.func138.trans (congrArg some (by kernel_rfl))
  f287 := Tryz.func145.trans (congrArg some (by kernel_rfl))
  f316 := Tryz.func146.trans (congrArg some (by kernel_rfl))
  f317 := Tryz.func154.trans (congrArg some (by kernel_rfl))
  f318 := Tryz.func155.trans (congrArg some (by kernel_rfl))
  f319 := Tryz.func156.trans (congrArg some (by kernel_rfl))
  f320 := Tryz.func157.trans (congrArg some (by kernel_rfl))
  f321 := Tryz.func162.trans (congrArg some (by kernel_rfl))
  f322 := Tryz.func163.trans (congrArg some (by kernel_rfl))
  f337 := Tryz.func165.trans (congrArg some (by kernel_rfl))
  f338 := Tryz.func166.trans (congrArg some (by kernel_rfl))
  t0 := Tryz.underlying0
  a0 := Tryz.isAgg0
  z0 := Tryz.sizeOf0
  v0 := Tryz.zeroValue0
  t2 := Tryz.underlying2
  a2 := Tryz.isAgg2
  z2 := Tryz.sizeOf2
  v2 := Tryz.zeroValue2
  t3 := Tryz.underlying3
  a3 := Tryz.isAgg3
  z3 := Tryz.sizeOf3
  v3 := Tryz.zeroValue3
  t4 := Tryz.underlying4
  a4 := Tryz.isAgg4
  z4 := Tryz.sizeOf4
  v4 := Tryz.zeroValue4
  t5 := Tryz.underlying5
  a5 := Tryz.isAgg5
  z5 := Tryz.sizeOf5
  v5 := Tryz.zeroValue5
  t9 := Tryz.underlying9
  a9 := Tryz.isAgg9
  z9 := Tryz.sizeOf9
  v9 := Tryz.zeroValue9
  t20 := Tryz.underlying20
  a20 := Tryz.isAgg20
  z20 := Tryz.sizeOf20
  v20 := Tryz.zeroValue20
  t21 := Tryz.underlying21
  a21 := Tryz.isAgg21
  z21 := Tryz.sizeOf21
  v21 := Tryz.zeroValue21
  t37 := Tryz.underlying130
  a37 := Tryz.isAgg130
  z37 := Tryz.sizeOf130
  v37 := Tryz.zeroValue130
  t46 := Tryz.underlying145
  a46 := Tryz.isAgg145
  z46 := Tryz.sizeOf145
  v46 := Tryz.zeroValue145
  t51 := Tryz.underlying167
  a51 := Tryz.isAgg167
  z51 := Tryz.sizeOf167
  v51 := Tryz.zeroValue167
  t53 := Tryz.underlying169
  a53 := Tryz.isAgg169
  z53 := Tryz.sizeOf169
  v53 := Tryz.zeroValue169
  t75 := Tryz.underlying104
  a75 := Tryz.isAgg104
  z75 := Tryz.sizeOf104
  v75 := Tryz.zeroValue104
  t76 := Tryz.underlying105
  a76 := Tryz.isAgg105
  z76 := Tryz.sizeOf105
  v76 := Tryz.zeroValue105
  t85 := Tryz.underlying153
  a85 := Tryz.isAgg153
  z85 := Tryz.sizeOf153
  v85 := Tryz.zeroValue153
  t127 := Tryz.underlying149
  a127 := Tryz.isAgg149
  z127 := Tryz.sizeOf149
  v127 := Tryz.zeroValue149
  t143 := Tryz.underlying195
  a143 := Tryz.isAgg195
  z143 := Tryz.sizeOf195
  v143 := Tryz.zeroValue195
  t145 := Tryz.underlying197
  a145 := Tryz.isAgg197
  z145 := Tryz.sizeOf197
  v145 := Tryz.zeroValue197
  t167 := Tryz.underlying152
  a167 := Tryz.isAgg152
  z167 := Tryz.sizeOf152
  v167 := Tryz.zeroValue152
  t168 := Tryz.underlying155
  a168 := Tryz.isAgg155
  z168 := Tryz.sizeOf155
  v168 := Tryz.zeroValue155
  t171 := Tryz.underlying170
  a171 := Tryz.isAgg170
  z171 := Tryz.sizeOf170
  v171 := Tryz.zeroValue170
  t173 := Tryz.underlying172
  a173 := Tryz.isAgg172
  z173 := Tryz.sizeOf172
  v173 := Tryz.zeroValue172
  t175 := Tryz.underlying179
  a175 := Tryz.isAgg179
  z175 := Tryz.sizeOf179
  v175 := Tryz.zeroValue179
  t210 := Tryz.underlying183
  a210 := Tryz.isAgg183
  z210 := Tryz.sizeOf183
  v210 := Tryz.zeroValue183
  t212 := Tryz.underlying192
  a212 := Tryz.isAgg192
  z212 := Tryz.sizeOf192
  v212 := Tryz.zeroValue192
  t213 := Tryz.underlying193
  a213 := Tryz.isAgg193
  z213 := Tryz.sizeOf193
  t232 := Tryz.underlying206
  a232 := Tryz.isAgg206
  z232 := Tryz.sizeOf206
  v232 := Tryz.zeroValue206
  t233 := Tryz.underlying207
  a233 := Tryz.isAgg207
  z233 := Tryz.sizeOf207
  v233 := Tryz.zeroValue207
  g15 := by kernel_rfl
  g16 := by kernel_rfl
  g17 := by kernel_rfl
  g18 := by kernel_rfl
  g19 := by kernel_rfl
  t80 := Tryz.underlying137
  a80 := Tryz.isAgg137
  z80 := Tryz.sizeOf137
  v80 := Tryz.zeroValue137
  i0 := by kernel_rfl
  i2 := by kernel_rfl
  i3 := by kernel_rfl
  i4 := by kernel_rfl
  i5 := by kernel_rfl
  i9 := by kernel_rfl
  i20 := by kernel_rfl
  i21 := by kernel_rfl
  i37 := by kernel_rfl
  i46 := by kernel_rfl
  i51 := by kernel_rfl
  i53 := by kernel_rfl
  i75 := by kernel_rfl
  i76 := by kernel_rfl
  i80 := by kernel_rfl
  i85 := by kernel_rfl
  i127 := by kernel_rfl
  i143 := by kernel_rfl
  i145 := by kernel_rfl
  i167 := by kernel_rfl
  i168 := by kernel_rfl
  i171 := by kernel_rfl
  i173 := by kernel_rfl
  i175 := by kernel_rfl
  i210 := by kernel_rfl
  i212 := by kernel_rfl
  i232 := by kernel_rfl
  i233 := by kernel_rfl
  m15 := by kernel_rfl
  m16 := by kernel_rfl
  m17 := by kernel_rfl
  m18 := by kernel_rfl
  m19 := by kernel_rfl
  c0 := by kernel_rfl
  c2 := by kernel_rfl
  c3 := by kernel_rfl
  c4 := by kernel_rfl
  c5 := by kernel_rfl
  c9 := by kernel_rfl
  c20 := by kernel_rfl
  c21 := by kernel_rfl
  c37 := by kernel_rfl
  c46 := by kernel_rfl
  c51 := by kernel_rfl
  c53 := by kernel_rfl
  c75 := by kernel_rfl
  c76 := by kernel_rfl
  c80 := by kernel_rfl
  c85 := by kernel_rfl
  c127 := by kernel_rfl
  c143 := by kernel_rfl
  c145 := by kernel_rfl
  c167 := by kernel_rfl
  c168 := by kernel_rfl
  c171 := by kernel_rfl
  c173 := by kernel_rfl
  c175 := by kernel_rfl
  c210 := by kernel_rfl
  c212 := by kernel_rfl
  c213 := by kernel_rfl
  c232 := by kernel_rfl
  c233 := by kernel_rfl }
open Go.RowKit in
theorem Tryz.strconv_Atoi_ok (s : ByteArray) (hmax : s.size ≤ 9223372036854775806) (v : Int) (h : Lib.atoiAll s.data.toList = .ok v) (w : World) :
    Calls Tryz.prog 65 #[.string s] w fun e w' => e = .returned (.tuple #[.int .i64 v, .nilIface]) ∧ (w' = w ∨ ∃ t, w' = Lib.bytesWorld w 5 t) := Any.strconv_Atoi_ok Tryz.laysC172 s hmax v h w
def numSyn (x : Lib.NumEnd Int) : Bool := match x with | .ok _ => false | .range => false | _ => true
open Go.RowKit in
theorem Tryz.strconv_Atoi_syntax (s : ByteArray) (hlim : s.size ≤ 281474976710656) (h : numSyn (Lib.atoiAll s.data.toList) = true) (ev : Value) (w : World) (hv : w.cell? ⟨1, 0, none⟩ = some ev) (hev : ev = .nilIface ∨ ∃ te pe, ev = .iface te pe) :
    Calls Tryz.prog 65 #[.string s] w fun e w' => ∃ N, e = .returned (.tuple #[.int .i64 (0), .iface 155 (.pointer (some ⟨N, 0, none⟩))]) ∧ w.heap.size ≤ N ∧ w'.heap[N]? = some (.cells #[.string ⟨#[65, 116, 111, 105]⟩, .string s, ev] 183 (0, 0)) ∧ Below w.heap.size w w' := Any.strconv_Atoi_syntax Tryz.laysC172 s hlim (by cases h' : Lib.atoiAll s.data.toList <;> simp_all [numSyn]) ev w hv hev
open Go.RowKit in
theorem Tryz.strconv_Atoi_range (s : ByteArray) (hlim : s.size ≤ 281474976710656) (h : Lib.atoiAll s.data.toList = .range) (ev : Value) (w : World) (hv : w.cell? ⟨2, 0, none⟩ = some ev) (hev : ev = .nilIface ∨ ∃ te pe, ev = .iface te pe) :
    Calls Tryz.prog 65 #[.string s] w fun e w' => ∃ N, e = .returned (.tuple #[.int .i64 (Lib.atoiSat s.data.toList), .iface 155 (.pointer (some ⟨N, 0, none⟩))]) ∧ w.heap.size ≤ N ∧ w'.heap[N]? = some (.cells #[.string ⟨#[65, 116, 111, 105]⟩, .string s, ev] 183 (0, 0)) ∧ Below w.heap.size w w' := Any.strconv_Atoi_range Tryz.laysC172 s hlim h ev w hv hev
def Tryz.lays146_ren : Go.Shelf.Ren := ⟨fun | 146 => 61 | 221 => 97 | 268 => 116 | 138 => 117 | 143 => 118 | 195 => 141 | 197 => 142 | 218 => 143 | 219 => 144 | 260 => 158 | 217 => 78 | 225 => 159 | 224 => 160 | 267 => 161 | 266 => 110 | 314 => 167 | n => n, fun | 9 => 9 | 31 => 63 | 3 => 3 | 4 => 4 | 0 => 0 | 105 => 177 | 21 => 21 | 5 => 5 | 46 => 145 | 119 => 200 | 139 => 203 | 138 => 202 | 146 => 204 | 51 => 167 | n => n, fun | 1 => 0 | 3 => 4 | 4 => 5 | n => n⟩
theorem Tryz.lays146 : Go.Proofs.Lays.n146 Tryz.prog Tryz.lays146_ren := {
  mixed := by kernel_rfl
  f138 := Tryz.func117.trans (congrArg some (by kernel_rfl))
  f143 := Tryz.func118.trans (congrArg some (by kernel_rfl))
  f146 := Tryz.func61.trans (congrArg some (by kernel_rfl))
  f195 := Tryz.func141.trans (congrArg some (by kernel_rfl))
  f197 := Tryz.func142.trans (congrArg some (by kernel_rfl))
  f217 := Tryz.func78.trans (congrArg some (by kernel_rfl))
  f218 := Tryz.func143.trans (congrArg some (by kernel_rfl))
  f219 := Tryz.func144.trans (congrArg some (by kernel_rfl))
  f221 := Tryz.func97.trans (congrArg some (by kernel_rfl))
  f224 := Tryz.func160.trans (congrArg some (by kernel_rfl))
  f225 := Tryz.func159.trans (congrArg some (by kernel_rfl))
  f260 := Tryz.func158.trans (congrArg some (by kernel_rfl))
  f266 := Tryz.func110.trans (congrArg some (by kernel_rfl))
  f267 := Tryz.func161.trans (congrArg some (by kernel_rfl))
  f268 := Tryz.func116.trans (congrArg some (by kernel_rfl))
  f314 := Tryz.func167.trans (congrArg some (by kernel_rfl))
  t0 := Tryz.underlying0
  a0 := Tryz.isAgg0
  z0 := Tryz.sizeOf0
  v0 := Tryz.zeroValue0
  t3 := Tryz.underlying3
  a3 := Tryz.isAgg3
  z3 := Tryz.sizeOf3
  v3 := Tryz.zeroValue3
  t4 := Tryz.underlying4
  a4 := Tryz.isAgg4
  z4 := Tryz.sizeOf4
  v4 := Tryz.zeroValue4
  t5 := Tryz.underlying5
  a5 := Tryz.isAgg5
  z5 := Tryz.sizeOf5
  v5 := Tryz.zeroValue5
  t9 := Tryz.underlying9
  a9 := Tryz.isAgg9
  z9 := Tryz.sizeOf9
  v9 := Tryz.zeroValue9
  t21 := Tryz.underlying21
  a21 := Tryz.isAgg21
  z21 := Tryz.sizeOf21
  v21 := Tryz.zeroValue21
  t31 := Tryz.underlying63
  a31 := Tryz.isAgg63
  z31 := Tryz.sizeOf63
  v31 := Tryz.zeroValue63
  t46 := Tryz.underlying145
  a46 := Tryz.isAgg145
  z46 := Tryz.sizeOf145
  v46 := Tryz.zeroValue145
  t51 := Tryz.underlying167
  a51 := Tryz.isAgg167
  z51 := Tryz.sizeOf167
  v51 := Tryz.zeroValue167
  t105 := Tryz.underlying177
  a105 := Tryz.isAgg177
  z105 := Tryz.sizeOf177
  v105 := Tryz.zeroValue177
  t119 := Tryz.underlying200
  a119 := Tryz.isAgg200
  z119 := Tryz.sizeOf200
  t138 := Tryz.underlying202
  a138 := Tryz.isAgg202
  z138 := Tryz.sizeOf202
  v138 := Tryz.zeroValue202
  t139 := Tryz.underlying203
  a139 := Tryz.isAgg203
  z139 := Tryz.sizeOf203
  v139 := Tryz.zeroValue203
  t146 := Tryz.underlying204
  a146 := Tryz.isAgg204
  z146 := Tryz.sizeOf204
  v146 := Tryz.zeroValue204
  g1 := by kernel_rfl
  g3 := by kernel_rfl
  g4 := by kernel_rfl }
open Go.RowKit Go.Lib in
theorem Tryz.strings_Split (s sep : ByteArray) (m : Int) (w : World) (hs : s.size < 4294967281) (hm : w.cell? ⟨0, 0, none⟩ = some (.int .i64 m)) (h1 : 1 ≤ sep.size) :
    Calls Tryz.prog 61 #[.string s, .string sep] w fun e w' =>
      e = .returned (.slice (some ⟨w.heap.size, 0, none⟩) (Lib.countB s sep + 1) (Lib.countB s sep + 1)) ∧ w' = w.alloc (.cells ((Lib.splitB sep 0 (Lib.countB s sep) s).map Value.string).toArray 9) := Any.strings_Split Tryz.lays146 (by kernel_rfl) s sep m w hs hm h1
end Go.Proofs
set_option linter.unusedVariables false
set_option linter.unusedSimpArgs false
namespace Go.Proofs.YtkohjcfmcliioaaGreatDoor
open Go Go.RowKit Go.Proofs.YtkohjcfmcliioaaGreatDoorW.PrintWords Go.Proofs.YtkohjcfmcliioaaGreatDoorW.PrintLast Go.Proofs.YtkohjcfmcliioaaGreatDoorW.PrintMore
open Go.Proofs.YtkohjcfmcliioaaGreatDoor.ZA (S76 S31 k31 k76)
theorem feat_calls (name : ByteArray) (kind axis x y z lo hi : Int) (A : Option Addr) (c : Nat) (l : List S31) (w : World) (hr : Kd.C k31 w A l.length l) (hc : l.length ≤ c) :
    Calls Tryz.prog 39 #[.agg #[.string name, .int .i64 kind, .int .i64 axis, .int .i64 x, .int .i64 y, .int .i64 z, .int .i64 lo, .int .i64 hi, .slice A l.length c]] w fun e w' => e = .returned (.int .i64 (featS name kind axis x y z lo hi)) ∧ Below w.heap.size w w' :=
  ZF.feature_Check.calls 4 name kind axis x y z lo hi A c l _ w hr hc (feat_f 0 ..)
/-- The letters of the kinds of features, and whether a kind's letter is among some. -/
def lettersS : List UInt8 := [108, 104, 112, 115, 98]
def isS (l : Array UInt8) (kind : Int) : Bool := decide (Lib.indexByte l.toList (lettersS.getD kind.toNat 0) ≥ 0)
theorem letters_at (kind : Int) (h0 : 0 ≤ kind) (h5 : kind < 5) (w : World) :
    (Instr.index 9 (.string ⟨#[108, 104, 112, 115, 98]⟩) (.int .i64 kind)).run Tryz.prog w = .ok (.int .u8 ((lettersS.getD kind.toNat 0).toNat : Int)) w := by
  have : kind = 0 ∨ kind = 1 ∨ kind = 2 ∨ kind = 3 ∨ kind = 4 := by omega
  rcases this with rfl | rfl | rfl | rfl | rfl <;> exact (show _ = _ from by kernel_rfl)
theorem u8_back (x : UInt8) : (((x.toNat : Int)).toNat).toUInt8 = x := by simp
theorem is_calls (l : Array UInt8) (B : Nat) (kind : Int) (w : World) (hcell : w.cell? ⟨B, 1, none⟩ = some (.int .i64 kind)) (h0 : 0 ≤ kind) (h5 : kind < 5) :
    Calls Tryz.prog 41 #[.string ⟨l⟩, .pointer (some ⟨B, 0, none⟩)] w fun e w' => e = .returned (.bool (isS l kind)) ∧ w = w' := by
  have hix := letters_at kind h0 h5
  have hI := Tryz.strings_IndexByte ⟨l⟩ ((lettersS.getD kind.toNat 0).toNat : Int)
  rw [u8_back] at hI
  generalize hk : lettersS.getD kind.toNat 0 = ch at hix hI
  have hS : Hid (isS l kind = decide (Lib.indexByte l.toList ch ≥ 0)) := Hid.mk' (by unfold isS; rw [hk])
  clear hk
  go_enter Tryz.func41, Tryz.ntmps41
  go_wp2_with fail
  refine (hI _).mono ?_
  rintro e w1 ⟨rfl, rfl⟩
  go_wp2_with fail
  go_ret
  rw [hS.out]
  exact ⟨rfl, rfl⟩
theorem row_at (k : Int) (h0 : 0 ≤ k) (h9 : k < 9) (w : World) :
    (Instr.index 81 (.agg rowsC.toArray) (.int .i64 k)).run Tryz.prog w = .ok (.agg (RowS.cells (rowsS.getD k.toNat ⟨#[], #[], #[], 0, 0, false⟩)).toArray) w := by
  have : k = 0 ∨ k = 1 ∨ k = 2 ∨ k = 3 ∨ k = 4 ∨ k = 5 ∨ k = 6 ∨ k = 7 ∨ k = 8 := by omega
  rcases this with rfl | rfl | rfl | rfl | rfl | rfl | rfl | rfl | rfl <;> exact (show _ = _ from by kernel_rfl)
/-- The error of a frame of a feature. -/
def rowS (k : Int) : RowS := rowsS.getD k.toNat ⟨#[], #[], #[], 0, 0, false⟩
/-- What is left of Check's answer behind the row. -/
def restS (b1 b2 : Bool) (R : RowS) (kind : Int) (disc : Bool) (tol mat : Int) (n : Nat) (F : Bool) : Int :=
  if b1 = false then 14
  else if (disc && !b2) = true then 3
  else if tol = 0 ∧ mat ≠ 1 then 10
  else if mat ≠ 0 ∧ (R.mat = false ∨ kind = 0) then 3
  else if (n : Int) < R.least then 13
  else if (n : Int) > R.most then 5
  else if F = true then 7 else 0
def checkS (name : ByteArray) (kind axis x y z lo hi : Int) (xk : Int) (disc : Bool) (tol mat : Int) (ds : List S76) : Int :=
  if featS name kind axis x y z lo hi ≠ 0 then featS name kind axis x y z lo hi
  else if plainS xk tol mat ds ≠ 0 then plainS xk tol mat ds
  else restS (isS (rowS xk).on kind) (isS (rowS xk).disc kind) (rowS xk) kind disc tol mat ds.length (ds.any (fun d => d.f0.toList == name.toList))
theorem featS_kind {name : ByteArray} {kind axis x y z lo hi : Int} (h : featS name kind axis x y z lo hi = 0) : 0 ≤ kind ∧ kind < 5 := by
  unfold featS at h
  split at h
  · exact absurd h ‹_›
  · split at h
    · exact absurd h (by decide)
    · omega
theorem plainS_ok {xk tol mat : Int} {ds : List S76} (h : plainS xk tol mat ds = 0) : 0 ≤ xk ∧ xk < 9 ∧ condS mat = 0 ∧ 0 ≤ tol ∧ tol ≤ 100000 ∧ ds.length ≤ 3 ∧ datS [] ds = 0 := by
  unfold plainS at h
  split at h
  · exact absurd h (by decide)
  · split at h
    · exact absurd h ‹_›
    · split at h
      · exact absurd h (by decide)
      · split at h
        · exact absurd h (by decide)
        · refine ⟨by omega, by omega, ?_, by omega, by omega, by omega, h⟩
          rename_i h2 _ _
          exact Classical.not_not.1 h2
section
variable (name : ByteArray) (kind axis x y z lo hi : Int) (A : Option Addr) (c : Nat) (l : List S31) (A1 : Option Addr) (c1 : Nat) (xk : Int) (disc : Bool) (tol mat : Int) (ds : List S76) (w : World)
def CheckP (r : Int) : Prop :=
  Calls Tryz.prog 13 #[.agg #[.string name, .int .i64 kind, .int .i64 axis, .int .i64 x, .int .i64 y, .int .i64 z, .int .i64 lo, .int .i64 hi, .slice A l.length c], .agg #[.int .i64 xk, .bool disc, .int .i64 tol, .int .i64 mat, .slice A1 ds.length c1]] w fun e w' => e = .returned (.int .i64 r) ∧ Below w.heap.size w w'
set_option maxRecDepth 100000 in
theorem check_feat (hr : Kd.C k31 w A l.length l) (hc : l.length ≤ c) (r : Int) (hf : featS name kind axis x y z lo hi = r) (h0 : ¬ r = 0) : CheckP name kind axis x y z lo hi A c l A1 c1 xk disc tol mat ds w r := by
  unfold CheckP
  have hC := fun W hr => feat_calls name kind axis x y z lo hi A c l W hr hc
  rw [hf] at hC
  have HR := Hid.mk' hr
  have HC := Hid.mk' hC
  clear hC hf hr hc
  go_enter Tryz.func13, Tryz.ntmps13
  go_wp2_with fail
  refine (HC.out _ ?_).mono ?_
  · exact Kd.C_below HR.out (below_alloc (below_alloc (Below.refl _ w) _) _)
  rintro e w1 ⟨rfl, hb⟩
  have HB := Hid.mk' (Below.trans (below_alloc (below_alloc (Below.refl _ w) _) _) (hb.mono (by simp; omega)))
  clear hb HC
  go_wp2_with fail
  go_ret
  exact ⟨rfl, HB.out⟩
set_option maxRecDepth 100000 in
theorem check_plain (hr : Kd.C k31 w A l.length l) (hc : l.length ≤ c) (hr1 : Kd.C k76 w A1 ds.length ds) (hc1 : ds.length ≤ c1) (hf : featS name kind axis x y z lo hi = 0) (r : Int) (hp : plainS xk tol mat ds = r) (h0 : ¬ r = 0) : CheckP name kind axis x y z lo hi A c l A1 c1 xk disc tol mat ds w r := by
  unfold CheckP
  have hC := fun W hr => feat_calls name kind axis x y z lo hi A c l W hr hc
  rw [hf] at hC
  have hP := fun W hr => plain_any A1 c1 xk disc tol mat ds W hr hc1
  unfold PlainP at hP
  rw [hp] at hP
  have HR := Hid.mk' hr
  have HR1 := Hid.mk' hr1
  have HC := Hid.mk' hC
  have HP := Hid.mk' hP
  clear hC hf hr hc hP hp hr1 hc1
  go_enter Tryz.func13, Tryz.ntmps13
  go_wp2_with fail
  refine (HC.out _ ?_).mono ?_
  · exact Kd.C_below HR.out (below_alloc (below_alloc (Below.refl _ w) _) _)
  rintro e w1 ⟨rfl, hb⟩
  have hx := fun (j : Nat) => hb.cell (p := ⟨w.heap.size + 1, j, none⟩) (by simp)
  simp at hx
  have HB := Hid.mk' (Below.trans (below_alloc (below_alloc (Below.refl _ w) _) _) (hb.mono (by simp; omega)))
  clear hb HC
  go_wp2_with fail
  refine (HP.out _ ?_).mono ?_
  · exact Kd.C_below HR1.out HB.out
  rintro e w2 ⟨rfl, hb⟩
  have HB2 := Hid.mk' (Below.trans HB.out (hb.mono HB.out.size))
  clear hb HP
  go_wp2_with fail
  go_ret
  exact ⟨rfl, HB2.out⟩
theorem cell_of_blk {w : World} {g : Nat} {cs : Array Value} {t : TypeId} {fr : Nat × Nat} (h : w.heap[g]? = some (.cells cs t fr)) (j : Nat) : w.cell? ⟨g, j, none⟩ = cs[j]? := by simp [World.cell?, h]
/-- A store of a whole row, in a region's step. -/
theorem store_row_ {P : Program} {ops : Array Oper} {Q : Exit → Act → World → Prop} {oi : Oper} {a : Act} {w : World} {K : Act → World → Prop} (ty : TypeId) (x y : Operand) (hw : Region.wanted oi (yielded ops a.tmps) = true) (hN : oi.dst = none) (ho : oi.op = .store ty x y)
    (g : Nat) (cells : Array Value) (hx : a.eval x = .pointer (some ⟨g, 0, none⟩)) (hy : a.eval y = .agg cells)
    (t : TypeId) (old : Array Value) (hg : w.heap[g]? = some (.cells old t (0, 0))) (hi : (P.info? ty).map (·.size) = some cells.size) (hold : old.size = cells.size) (h1 : cells.all (·.oneCell') = true)
    (h : K a (w.setRow g cells)) : if Region.wanted oi (yielded ops a.tmps) = true then Oper.wp P oi a w K Q else K (a.put none undef) w := by
  rw [if_pos hw]
  refine wp_store_row ty x y ho g cells hx hy t old hg hi hold h1 ?_
  rw [hN]
  exact h
theorem below_setRow {B g : Nat} {w0 w : World} (hb : Below B w0 w) (hBg : B ≤ g) (cs : Array Value) : Below B w0 (w.setRow g cs) :=
  hb.trans ⟨rfl, rfl, rfl, by simp [World.setRow], fun k hk => setRow_other w g k cs (by omega)⟩
def rowZ : Array Value := (RowS.cells ⟨#[], #[], #[], 0, 0, false⟩).toArray
theorem size_row (r : RowS) : (Tryz.prog.info? 80).map (·.size) = some (RowS.cells r).toArray.size := by kernel_rfl
theorem one_row (r : RowS) : (RowS.cells r).toArray.all (·.oneCell') = true := by kernel_rfl
theorem len_row (r : RowS) : rowZ.size = (RowS.cells r).toArray.size := by kernel_rfl
set_option maxRecDepth 100000 in
set_option maxHeartbeats 2000000 in
theorem check_rest (hr : Kd.C k31 w A l.length l) (hc : l.length ≤ c) (hr1 : Kd.C k76 w A1 ds.length ds) (hc1 : ds.length ≤ c1) (hf : featS name kind axis x y z lo hi = 0) (hp : plainS xk tol mat ds = 0)
    (x0 : 0 ≤ xk) (x9 : xk < 9) (k0 : 0 ≤ kind) (k5 : kind < 5) (r : Int)
    (hres : Hid (restS (isS (rowS xk).on kind) (isS (rowS xk).disc kind) (rowS xk) kind disc tol mat ds.length (ds.any (fun d => d.f0.toList == name.toList)) = r)) : CheckP name kind axis x y z lo hi A c l A1 c1 xk disc tol mat ds w r := by
  unfold CheckP
  have hC := fun W hr => feat_calls name kind axis x y z lo hi A c l W hr hc
  rw [hf] at hC
  have hP := fun W hr => plain_any A1 c1 xk disc tol mat ds W hr hc1
  unfold PlainP at hP
  rw [hp] at hP
  have HR := Hid.mk' hr
  have HR1 := Hid.mk' hr1
  have HC := Hid.mk' hC
  have HP := Hid.mk' hP
  have hix := row_at xk x0 x9
  have hl0 : ds.length ≤ 9000000000000000000 := by have := (plainS_ok hp).2.2.2.2.2.1; omega
  clear hC hf hr hc hP hp hr1 hc1
  go_enter Tryz.func13, Tryz.ntmps13
  go_wp2_with fail
  refine (HC.out _ ?_).mono ?_
  · exact Kd.C_below HR.out (below_alloc (below_alloc (Below.refl _ w) _) _)
  rintro e w1 ⟨rfl, hb⟩
  have hx := fun (j : Nat) => hb.cell (p := ⟨w.heap.size + 1, j, none⟩) (by simp)
  have hy := fun (j : Nat) => hb.cell (p := ⟨w.heap.size, j, none⟩) (by simp; omega)
  simp at hx hy
  have hz : w.heap.size + 1 < w1.heap.size := Nat.lt_of_lt_of_le (by simp) hb.size
  have HB := Hid.mk' (Below.trans (below_alloc (below_alloc (Below.refl _ w) _) _) (hb.mono (by simp; omega)))
  clear hb HC
  go_wp2_with fail
  refine (HP.out _ ?_).mono ?_
  · exact Kd.C_below HR1.out HB.out
  rintro e w2 ⟨rfl, hb⟩
  have hx2 := fun (j : Nat) => (hb.cell (p := ⟨w.heap.size + 1, j, none⟩) hz).trans (hx j)
  have hy2 := fun (j : Nat) => (hb.cell (p := ⟨w.heap.size, j, none⟩) (Nat.lt_of_succ_lt hz)).trans (hy j)
  have hz2 : w.heap.size + 1 < w2.heap.size := Nat.lt_of_lt_of_le hz hb.size
  have HB2 := Hid.mk' (Below.trans HB.out (hb.mono HB.out.size))
  clear hb HP hx hy hz
  go_upto_region 7 with fail
  obtain ⟨R, hR⟩ : ∃ R : RowS, R = rowS xk := ⟨_, rfl⟩
  have hix2 : ∀ w, (Instr.index 81 (.agg rowsC.toArray) (.int .i64 xk)).run Tryz.prog w = .ok (.agg (RowS.cells R).toArray) w := by rw [hR]; exact hix
  have HRow := Hid.mk' hR
  clear hix hR
  go_cut [7] (fun s7 wx => ∃ g : Nat, s7 = .pointer (some ⟨g, 0, none⟩) ∧ Hid (wx.heap[g]? = some (.cells (RowS.cells R).toArray 80 (0, 0))) ∧ Hid (w2.heap.size ≤ g) ∧ Hid (Below w2.heap.size w2 wx))
  case first =>
    refine start_ (n := 6) (S := fun w' => w'.cell? ⟨w.heap.size + 1, 0, none⟩ = some (.int .i64 xk)) (ds := []) #[false, false, false, false, false, false] (by kernel_rfl) rfl rfl ?hS (fun hHeld => ?_)
    case hS => exact (hx2 0).trans rfl
    generalize hw3 : w2.drew = w3 at hHeld ⊢
    have HB3 := Hid.mk' (show Below w2.heap.size w2 w3 from hw3 ▸ below_drew (Below.refl _ w2))
    clear hw3
    have hsz3 : w2.heap.size ≤ w3.heap.size := HB3.out.size
    refine pure_ (i := 1) (N := some 20) (v := ?_) (a' := ?_) #[false, true, false, false, false, false] rfl rfl (by kernel_rfl) (fun _ _ _ h => h) (Or.inl ⟨by rfl, ?_⟩) ?_ ?_
    rotate_left
    · intro w'
      go_simp
      with_reducible rfl
    rotate_left
    · simp only [Act.put, List.setIfInBounds_toArray, List.set_cons_zero, List.set_cons_succ, i64_w, i32_w]
      rfl
    refine take_ (i := 2) (N := some 21) (v := ?_) (a' := ?_) #[false, true, true, false, false, false] rfl rfl (by kernel_rfl) (fun _ _ _ h => h) (Or.inl ⟨by rfl, ?_⟩) hHeld ?_ ?_
    rotate_left
    · intro w' s0
      go_simp
      with_reducible rfl
    rotate_left
    · simp only [Act.put, List.setIfInBounds_toArray, List.set_cons_zero, List.set_cons_succ, i64_w, i32_w]
      rfl
    refine two_ (i := 0) (j := 4) (Ni := some 19) (Nj := some 7) #[true, true, true, false, false, false] #[false, true, true, false, true, false] rfl rfl rfl rfl (by kernel_rfl) (by decide) (by decide) (fun K hK => ?_) (fun K hK => ?_)
    · refine goes_ Tryz.func40 (by kernel_rfl) rfl #[] (by rfl) rfl rfl (by (try simp only [List.map_toArray, List.map_cons, List.map_nil]); first | done | rfl) ?_
      refine (rows_any w3).mono ?_
      rintro e w4 ⟨rfl, hb⟩
      refine ⟨_, rfl, ?_⟩
      have HB4 := Hid.mk' (below_step HB3.out hb)
      refine hK.out _ _ ((hb.cell (World.block_lt_of_cell? _ _ hHeld)).trans hHeld) (fun hHeld => ?_)
      clear hK K
      clear hb
      refine norm_ (a' := ?_) ?_ ?_
      rotate_left
      · show Act.put _ (some 19) _ = _
        simp only [Act.put, List.setIfInBounds_toArray, List.set_cons_zero, List.set_cons_succ, i64_w, i32_w]
        rfl
      refine pure_ (i := 3) (N := some 22) (v := ?_) (a' := ?_) #[true, true, true, true, false, false] rfl rfl (by kernel_rfl) (fun _ _ _ h => h) (Or.inl ⟨by rfl, ?_⟩) ?_ ?_
      rotate_left
      · intro w'
        go_simp
        with_reducible rfl
      rotate_left
      · simp only [Act.put, List.setIfInBounds_toArray, List.set_cons_zero, List.set_cons_succ, i64_w, i32_w]
        rfl
      refine one_ (i := 4) (N := some 7) #[true, true, true, true, true, false] rfl rfl (by kernel_rfl) (by decide) (fun K hK => ?_)
      refine value_ (v := .pointer (some ⟨w4.heap.size, 0, none⟩)) (w1 := w4.alloc (.cells rowZ 80)) (by rfl) rfl (by kernel_rfl) ?_
      have hg := heap_alloc_new w4 (.cells rowZ 80)
      have HB5 := Hid.mk' (HB4.out.alloc HB4.out.size (.cells rowZ 80))
      have hS5 : (w4.alloc (.cells rowZ 80)).cell? ⟨w.heap.size + 1, 0, none⟩ = some (.int .i64 xk) := (World.cell?_alloc_old _ _ _ (Nat.ne_of_lt (World.block_lt_of_cell? _ _ hHeld))).trans hHeld
      generalize w4.alloc (.cells rowZ 80) = w5 at hg HB5 hS5 ⊢
      refine hK.out _ _ hS5 (fun hHeld => ?_)
      clear hK K
      refine norm_ (a' := ?_) ?_ ?_
      rotate_left
      · show Act.put _ (some 7) _ = _
        simp only [Act.put, List.setIfInBounds_toArray, List.set_cons_zero, List.set_cons_succ, i64_w, i32_w]
        rfl
      refine one_ (i := 5) (N := none) #[true, true, true, true, true, true] rfl rfl (by kernel_rfl) (by decide) (fun K hK => ?_)
      refine store_row_ 80 (.tmp 7) (.tmp 22) (by rfl) (by rfl) (by rfl) w4.heap.size (RowS.cells R).toArray (by rfl) (by rfl) 80 rowZ hg (size_row R) (len_row R) (one_row R) ?_
      have hS6 : (w5.setRow w4.heap.size (RowS.cells R).toArray).cell? ⟨w.heap.size + 1, 0, none⟩ = some (.int .i64 xk) := (cell_setRow_other w5 _ _ _ (by have := HB4.out.size; simp; omega)).trans hS5
      have hg6 := setRow_heap w5 w4.heap.size _ (RowS.cells R).toArray _ _ hg
      have HB6 := Hid.mk' (below_setRow HB5.out HB4.out.size (RowS.cells R).toArray)
      refine hK.out _ _ hS6 (fun hHeld => ?_)
      clear hK K
      refine done_ (by kernel_rfl) ?_
      go_wp2_with fail
      go_meet
      case rel => exact ⟨w4.heap.size, rfl, Hid.mk' hg6, Hid.mk' HB4.out.size, HB6⟩
    · refine value_ (v := .pointer (some ⟨w3.heap.size, 0, none⟩)) (w1 := w3.alloc (.cells rowZ 80)) (by rfl) rfl (by kernel_rfl) ?_
      have hg := heap_alloc_new w3 (.cells rowZ 80)
      have hgl : w3.heap.size < (w3.alloc (.cells rowZ 80)).heap.size := by simp
      have HB4 := Hid.mk' (HB3.out.alloc hsz3 (.cells rowZ 80))
      have hS4 : (w3.alloc (.cells rowZ 80)).cell? ⟨w.heap.size + 1, 0, none⟩ = some (.int .i64 xk) := (World.cell?_alloc_old _ _ _ (Nat.ne_of_lt (World.block_lt_of_cell? _ _ hHeld))).trans hHeld
      generalize w3.alloc (.cells rowZ 80) = w4 at hg hgl HB4 hS4 ⊢
      refine hK.out _ _ hS4 (fun hHeld => ?_)
      clear hK K
      refine norm_ (a' := ?_) ?_ ?_
      rotate_left
      · show Act.put _ (some 7) _ = _
        simp only [Act.put, List.setIfInBounds_toArray, List.set_cons_zero, List.set_cons_succ, i64_w, i32_w]
        rfl
      refine one_ (i := 0) (N := some 19) #[true, true, true, false, true, false] rfl rfl (by kernel_rfl) (by decide) (fun K hK => ?_)
      refine goes_ Tryz.func40 (by kernel_rfl) rfl #[] (by rfl) rfl rfl (by (try simp only [List.map_toArray, List.map_cons, List.map_nil]); first | done | rfl) ?_
      refine (rows_any w4).mono ?_
      rintro e w5 ⟨rfl, hb⟩
      refine ⟨_, rfl, ?_⟩
      have HB5 := Hid.mk' (below_step HB4.out hb)
      have hg5 := (hb.block _ hgl).trans hg
      have hS5 := (hb.cell (World.block_lt_of_cell? _ _ hS4)).trans hS4
      clear hb
      refine hK.out _ _ hS5 (fun hHeld => ?_)
      clear hK K
      refine norm_ (a' := ?_) ?_ ?_
      rotate_left
      · show Act.put _ (some 19) _ = _
        simp only [Act.put, List.setIfInBounds_toArray, List.set_cons_zero, List.set_cons_succ, i64_w, i32_w]
        rfl
      refine pure_ (i := 3) (N := some 22) (v := ?_) (a' := ?_) #[true, true, true, true, true, false] rfl rfl (by kernel_rfl) (fun _ _ _ h => h) (Or.inl ⟨by rfl, ?_⟩) ?_ ?_
      rotate_left
      · intro w'
        go_simp
        with_reducible rfl
      rotate_left
      · simp only [Act.put, List.setIfInBounds_toArray, List.set_cons_zero, List.set_cons_succ, i64_w, i32_w]
        rfl
      refine one_ (i := 5) (N := none) #[true, true, true, true, true, true] rfl rfl (by kernel_rfl) (by decide) (fun K hK => ?_)
      refine store_row_ 80 (.tmp 7) (.tmp 22) (by rfl) (by rfl) (by rfl) w3.heap.size (RowS.cells R).toArray (by rfl) (by rfl) 80 rowZ hg5 (size_row R) (len_row R) (one_row R) ?_
      have hS6 : (w5.setRow w3.heap.size (RowS.cells R).toArray).cell? ⟨w.heap.size + 1, 0, none⟩ = some (.int .i64 xk) := (cell_setRow_other w5 _ _ _ (by simp; omega)).trans hS5
      have hg6 := setRow_heap w5 w3.heap.size _ (RowS.cells R).toArray _ _ hg5
      have HB6 := Hid.mk' (below_setRow HB5.out hsz3 (RowS.cells R).toArray)
      refine hK.out _ _ hS6 (fun hHeld => ?_)
      clear hK K
      refine done_ (by kernel_rfl) ?_
      go_wp2_with fail
      go_meet
      case rel => exact ⟨w3.heap.size, rfl, Hid.mk' hg6, Hid.mk' hsz3, HB6⟩
  case rest =>
    obtain ⟨g, rfl, hG, hg2, hBx⟩ := hcut
    have hf0 : wc.cell? ⟨w.heap.size, 0, none⟩ = some (.string name) := (hBx.out.cell (p := ⟨w.heap.size, 0, none⟩) (Nat.lt_of_succ_lt hz2)).trans ((hy2 0).trans rfl)
    have hf1 : wc.cell? ⟨w.heap.size, 1, none⟩ = some (.int .i64 kind) := (hBx.out.cell (p := ⟨w.heap.size, 1, none⟩) (Nat.lt_of_succ_lt hz2)).trans ((hy2 1).trans rfl)
    have hx1 : wc.cell? ⟨w.heap.size + 1, 1, none⟩ = some (.bool disc) := (hBx.out.cell (p := ⟨w.heap.size + 1, 1, none⟩) hz2).trans ((hx2 1).trans rfl)
    have hxt : wc.cell? ⟨w.heap.size + 1, 2, none⟩ = some (.int .i64 tol) := (hBx.out.cell (p := ⟨w.heap.size + 1, 2, none⟩) hz2).trans ((hx2 2).trans rfl)
    have hxm : wc.cell? ⟨w.heap.size + 1, 3, none⟩ = some (.int .i64 mat) := (hBx.out.cell (p := ⟨w.heap.size + 1, 3, none⟩) hz2).trans ((hx2 3).trans rfl)
    have hxd : wc.cell? ⟨w.heap.size + 1, 4, none⟩ = some (.slice A1 ds.length c1) := (hBx.out.cell (p := ⟨w.heap.size + 1, 4, none⟩) hz2).trans ((hx2 4).trans rfl)
    have hr1 : wc.cell? ⟨g, 1, none⟩ = some (.string ⟨R.on⟩) := (cell_of_blk hG.out 1).trans rfl
    have hr2 : wc.cell? ⟨g, 2, none⟩ = some (.string ⟨R.disc⟩) := (cell_of_blk hG.out 2).trans rfl
    have hr3 : wc.cell? ⟨g, 3, none⟩ = some (.int .i64 R.least) := (cell_of_blk hG.out 3).trans rfl
    have hr4 : wc.cell? ⟨g, 4, none⟩ = some (.int .i64 R.most) := (cell_of_blk hG.out 4).trans rfl
    have hr5 : wc.cell? ⟨g, 5, none⟩ = some (.bool R.mat) := (cell_of_blk hG.out 5).trans rfl
    have hOn := is_calls R.on w.heap.size kind wc hf1 k0 k5
    have hDi := is_calls R.disc w.heap.size kind wc hf1 k0 k5
    have hltc : w.heap.size < wc.heap.size := Nat.lt_of_lt_of_le (Nat.lt_of_succ_lt hz2) hBx.out.size
    have HBc := Hid.mk' (Below.trans HB2.out (hBx.out.mono HB2.out.size))
    have hK := contains_D 44 #[.pointer (some ⟨w.heap.size, 0, none⟩)] (fun d => d.f0.toList == name.toList) (enters_of Tryz.func44 (by kernel_rfl) rfl) A1 c1 ds wc (check_pred name w.heap.size wc hltc hf0) (Kd.C_below HR1.out HBc.out)
    have hK := Hid.mk' (hK hl0)
    have hres2 := hres.out
    rw [← HRow.out] at hres2
    generalize isS R.on kind = b1 at hOn hres2
    generalize isS R.disc kind = b2 at hDi hres2
    unfold ContP at hK
    generalize ds.any (fun d => d.f0.toList == name.toList) = F at hK hres2
    generalize hn : ds.length = n at *
    clear hn
    obtain ⟨rw, ron, rdi, rl, rm, rmat⟩ := R
    simp only at hr1 hr2 hr3 hr4 hr5 hOn hDi hres2
    have HRes := Hid.mk' hres2
    clear hres2 hx2 hy2 hf0 hix2
    go_wp2_with fail
    refine hOn.mono ?_
    rintro e w' ⟨rfl, rfl⟩
    clear hOn
    cases b1 with
    | false =>
      have hq : Hid (14 = r) := Hid.mk' HRes.out
      go_wp2_with fail
      go_ret
      rw [← hq.out]
      exact ⟨rfl, HBc.out⟩
    | true =>
      go_upto_region 11 with fail
      go_cut [30] (fun s30 wx => s30 = .bool (disc && !b2) ∧ wc = wx)
      case first =>
        cases disc with
        | true =>
          go_wp2_with fail
          refine hDi.mono ?_
          rintro e w' ⟨rfl, rfl⟩
          go_wp2_with fail
          go_meet
          case rel => exact ⟨by cases b2 <;> rfl, rfl⟩
        | false =>
          go_wp2_with fail
          go_meet
          case rel => exact ⟨rfl, rfl⟩
      case rest =>
        obtain ⟨rfl, rfl⟩ := hcut
        clear hDi hx1 hr2
        generalize hD : (disc && !b2) = D
        have hD2 := Hid.mk' hD
        clear hD
        cases D with
        | true =>
          have hq : Hid (3 = r) := Hid.mk' (by have := HRes.out; unfold restS at this; rw [hD2.out] at this; exact this)
          clear HRes hD2
          go_wp2_with fail
          go_ret
          rw [← hq.out]
          exact ⟨rfl, HBc.out⟩
        | false =>
          go_upto_region 13 with fail
          go_cut [40] (fun s40 wx => s40 = .bool (decide (tol = 0 ∧ mat ≠ 1)) ∧ wc = wx)
          case first =>
            by_cases ht : tol = 0
            · subst ht
              go_wp2_with fail
              go_meet
              case rel => exact ⟨by congr 1; by_cases hm : mat = 1 <;> simp [hm], rfl⟩
            · have ht2 : (tol == 0) = false := beq_eq_false_iff_ne.2 ht
              go_wp2_with fail
              go_meet
              case rel => exact ⟨by congr 1; simp [ht], rfl⟩
          case rest =>
            obtain ⟨rfl, rfl⟩ := hcut
            clear hxt
            generalize hE : decide (tol = 0 ∧ mat ≠ 1) = E
            have hE2 := Hid.mk' hE
            clear hE
            cases E with
            | true =>
              have hq : Hid (10 = r) := Hid.mk' (by have := HRes.out; unfold restS at this; rw [hD2.out, if_pos (of_decide_eq_true hE2.out)] at this; exact this)
              clear HRes hD2 hE2
              go_wp2_with fail
              go_ret
              rw [← hq.out]
              exact ⟨rfl, HBc.out⟩
            | false =>
              go_upto_region 15 with fail
              go_cut [49] (fun s49 wx => s49 = .bool (decide (mat ≠ 0 ∧ (rmat = false ∨ kind = 0))) ∧ wc = wx)
              case first =>
                by_cases hm : mat = 0
                · subst hm
                  go_wp2_with fail
                  go_meet
                  case rel => exact ⟨rfl, rfl⟩
                · have hm2 : (mat == 0) = false := beq_eq_false_iff_ne.2 hm
                  have hm3 : (mat != 0) = true := by simp [bne, hm2]
                  cases rmat with
                  | false =>
                    go_wp2_with fail
                    go_meet
                    case rel => exact ⟨by congr 1; simp [hm], rfl⟩
                  | true =>
                    go_wp2_with fail
                    go_meet
                    case rel => exact ⟨by congr 1; by_cases hk : kind = 0 <;> simp [hm, hk], rfl⟩
              case rest =>
                obtain ⟨rfl, rfl⟩ := hcut
                clear hxm hf1 hr5
                generalize hG2 : decide (mat ≠ 0 ∧ (rmat = false ∨ kind = 0)) = G
                have hG3 := Hid.mk' hG2
                clear hG2
                cases G with
                | true =>
                  have hq : Hid (3 = r) := Hid.mk' (by have := HRes.out; unfold restS at this; rw [hD2.out, if_neg (of_decide_eq_false hE2.out), if_pos (of_decide_eq_true hG3.out)] at this; exact this)
                  clear HRes hD2 hE2 hG3
                  go_wp2_with fail
                  go_ret
                  rw [← hq.out]
                  exact ⟨rfl, HBc.out⟩
                | false =>
                  have hq : Hid ((if (n : Int) < rl then 13 else if (n : Int) > rm then 5 else if F = true then 7 else 0) = r) := Hid.mk' (by have := HRes.out; unfold restS at this; rw [hD2.out, if_neg (of_decide_eq_false hE2.out), if_neg (of_decide_eq_false hG3.out)] at this; exact this)
                  clear HRes hD2 hE2 hG3
                  by_cases h1 : (n : Int) < rl
                  · have hq : Hid (13 = r) := Hid.mk' (by have := hq.out; rw [if_pos h1] at this; exact this)
                    have h1b : decide ((n : Int) < rl) = true := decide_eq_true h1
                    go_wp2_with fail
                    go_ret
                    rw [← hq.out]
                    exact ⟨rfl, HBc.out⟩
                  · have h1b : decide ((n : Int) < rl) = false := decide_eq_false h1
                    by_cases h2 : (n : Int) > rm
                    · have hq : Hid (5 = r) := Hid.mk' (by have := hq.out; rw [if_neg h1, if_pos h2] at this; exact this)
                      have h2b : decide ((n : Int) > rm) = true := decide_eq_true h2
                      go_wp2_with fail
                      go_ret
                      rw [← hq.out]
                      exact ⟨rfl, HBc.out⟩
                    · have hq : Hid ((if F = true then 7 else 0) = r) := Hid.mk' (by have := hq.out; rw [if_neg h1, if_neg h2] at this; exact this)
                      have h2b : decide ((n : Int) > rm) = false := decide_eq_false h2
                      go_wp2_with fail
                      refine hK.out.mono ?_
                      rintro e w5 ⟨rfl, hb⟩
                      have HB5 := Hid.mk' (Below.trans HBc.out (hb.mono HBc.out.size))
                      clear hb hK
                      cases F with
                      | true =>
                        go_wp2_with fail
                        go_ret
                        rw [← hq.out]
                        exact ⟨rfl, HB5.out⟩
                      | false =>
                        go_wp2_with fail
                        go_ret
                        rw [← hq.out]
                        exact ⟨rfl, HB5.out⟩
theorem check_any (hr : Kd.C k31 w A l.length l) (hc : l.length ≤ c) (hr1 : Kd.C k76 w A1 ds.length ds) (hc1 : ds.length ≤ c1) :
    CheckP name kind axis x y z lo hi A c l A1 c1 xk disc tol mat ds w (checkS name kind axis x y z lo hi xk disc tol mat ds) := by
  unfold checkS
  by_cases hf : featS name kind axis x y z lo hi = 0
  · rw [if_neg (by rw [hf]; decide)]
    by_cases hp : plainS xk tol mat ds = 0
    · rw [if_neg (by rw [hp]; decide)]
      obtain ⟨k0, k5⟩ := featS_kind hf
      obtain ⟨x0, x9, _⟩ := plainS_ok hp
      exact check_rest name kind axis x y z lo hi A c l A1 c1 xk disc tol mat ds w hr hc hr1 hc1 hf hp x0 x9 k0 k5 _ rfl
    · rw [if_pos hp]
      exact check_plain name kind axis x y z lo hi A c l A1 c1 xk disc tol mat ds w hr hc hr1 hc1 hf _ rfl hp
  · rw [if_pos hf]
    exact check_feat name kind axis x y z lo hi A c l A1 c1 xk disc tol mat ds w hr hc _ rfl hf
end
def frame_Check.f (a0_0 : ByteArray) (a0_1 : Int) (a0_2 : Int) (a0_3 : Int) (a0_4 : Int) (a0_5 : Int) (a0_6 : Int) (a0_7 : Int) (l0_8 : List S31) (a1_0 : Int) (a1_1 : Bool) (a1_2 : Int) (a1_3 : Int) (l1_4 : List S76) : Option Int :=
  some (checkS a0_0 a0_1 a0_2 a0_3 a0_4 a0_5 a0_6 a0_7 a1_0 a1_1 a1_2 a1_3 l1_4)
theorem frame_Check.calls (a0_0 : ByteArray) (a0_1 : Int) (a0_2 : Int) (a0_3 : Int) (a0_4 : Int) (a0_5 : Int) (a0_6 : Int) (a0_7 : Int) (A0_8 : Option Addr) (c0_8 : Nat) (l0_8 : List (S31)) (a1_0 : Int) (a1_1 : Bool) (a1_2 : Int) (a1_3 : Int) (A1_4 : Option Addr) (c1_4 : Nat) (l1_4 : List (S76)) (r : Int) (w : World) (hr0_8 : Kd.C k31 w A0_8 l0_8.length l0_8) (hc0_8 : l0_8.length ≤ c0_8) (hr1_4 : Kd.C k76 w A1_4 l1_4.length l1_4) (hc1_4 : l1_4.length ≤ c1_4) (h : frame_Check.f a0_0 a0_1 a0_2 a0_3 a0_4 a0_5 a0_6 a0_7 l0_8 a1_0 a1_1 a1_2 a1_3 l1_4 = some r) :
    Calls Tryz.prog 13 #[.agg #[.string a0_0, .int .i64 a0_1, .int .i64 a0_2, .int .i64 a0_3, .int .i64 a0_4, .int .i64 a0_5, .int .i64 a0_6, .int .i64 a0_7, .slice A0_8 l0_8.length c0_8], .agg #[.int .i64 a1_0, .bool a1_1, .int .i64 a1_2, .int .i64 a1_3, .slice A1_4 l1_4.length c1_4]] w fun e w' => e = .returned (.int .i64 r) ∧ Below w.heap.size w w' := by
  cases h
  exact check_any a0_0 a0_1 a0_2 a0_3 a0_4 a0_5 a0_6 a0_7 A0_8 c0_8 l0_8 A1_4 c1_4 a1_0 a1_1 a1_2 a1_3 l1_4 w hr0_8 hc0_8 hr1_4 hc1_4
end Go.Proofs.YtkohjcfmcliioaaGreatDoor
set_option linter.unusedVariables false
set_option linter.unusedSimpArgs false
namespace Go.Proofs.YtkohjcfmcliioaaGreatDoor
open Go Go.RowKit Go.Proofs.YtkohjcfmcliioaaGreatDoorW.PrintWords Go.Proofs.YtkohjcfmcliioaaGreatDoorW.PrintLast Go.Proofs.YtkohjcfmcliioaaGreatDoorW.PrintMore
open Go.Proofs.YtkohjcfmcliioaaGreatDoor.ZA (S76 S31 k31 k76 S124 k124 rd_T124 at_T124)
def rowsR : List S124 := (ZA.metrolabref19_Rows.f).getD []
theorem rowsR_f : ZA.metrolabref19_Rows.f = some rowsR := by kernel_rfl
theorem rowsR_len : rowsR.length = 9 := by kernel_rfl
def rowR (k : Int) : S124 := rd_T124 rowsR k
theorem perm_row (xk : Int) (x0 : 0 ≤ xk) (x9 : xk < 9) : (rowR xk).f2 = (rowS xk).least ∧ (rowR xk).f3 = (rowS xk).most := by
  have : xk = 0 ∨ xk = 1 ∨ xk = 2 ∨ xk = 3 ∨ xk = 4 ∨ xk = 5 ∨ xk = 6 ∨ xk = 7 ∨ xk = 8 := by omega
  rcases this with rfl | rfl | rfl | rfl | rfl | rfl | rfl | rfl | rfl <;> exact ⟨(show _ = _ from by kernel_rfl), (show _ = _ from by kernel_rfl)⟩
theorem perm_has (xk kind : Int) (x0 : 0 ≤ xk) (x9 : xk < 9) (k0 : 0 ≤ kind) (k5 : kind < 5) :
    ZA.metrolabref19_has.f 9 (rowR xk).f1 kind = some (isS (rowS xk).on kind) ∧ ZA.metrolabref19_has.f 9 (rowR xk).f4 kind = some (isS (rowS xk).disc kind) := by
  have h1 : xk = 0 ∨ xk = 1 ∨ xk = 2 ∨ xk = 3 ∨ xk = 4 ∨ xk = 5 ∨ xk = 6 ∨ xk = 7 ∨ xk = 8 := by omega
  have h2 : kind = 0 ∨ kind = 1 ∨ kind = 2 ∨ kind = 3 ∨ kind = 4 := by omega
  rcases h1 with rfl | rfl | rfl | rfl | rfl | rfl | rfl | rfl | rfl <;> rcases h2 with rfl | rfl | rfl | rfl | rfl <;> exact ⟨(show _ = _ from by kernel_rfl), (show _ = _ from by kernel_rfl)⟩
theorem perm_may (xk kind : Int) (x0 : 0 ≤ xk) (x9 : xk < 9) (name : ByteArray) (axis x y z lo hi : Int) (l : List S31) :
    ZA.metrolabref19_mayMaterial.f name kind axis x y z lo hi l xk = some (!decide ((rowS xk).mat = false ∨ kind = 0)) := by
  unfold ZA.metrolabref19_mayMaterial.f
  by_cases h : kind = 0
  · rw [if_pos h, decide_eq_true (.inr h)]; rfl
  · rw [if_neg h]
    have h1 : xk = 0 ∨ xk = 1 ∨ xk = 2 ∨ xk = 3 ∨ xk = 4 ∨ xk = 5 ∨ xk = 6 ∨ xk = 7 ∨ xk = 8 := by omega
    rcases h1 with rfl | rfl | rfl | rfl | rfl | rfl | rfl | rfl | rfl <;> simp [h, rowS, rowsS]
def zero124 : Array Value := #[.string ⟨#[]⟩, .string ⟨#[]⟩, .int .i64 0, .int .i64 0, .string ⟨#[]⟩]
def cells124 (r : S124) : Array Value := #[.string r.f0, .string r.f1, .int .i64 r.f2, .int .i64 r.f3, .string r.f4]
theorem size_124 (r : S124) : (Tryz.prog.info? 124).map (·.size) = some (cells124 r).size := by kernel_rfl
theorem one_124 (r : S124) : (cells124 r).all (·.oneCell') = true := by kernel_rfl
theorem len_124 (r : S124) : zero124.size = (cells124 r).size := by kernel_rfl
section
variable (name : ByteArray) (kind axis x y z lo hi : Int) (A : Option Addr) (c : Nat) (l : List S31) (A1 : Option Addr) (c1 : Nat) (xk : Int) (disc : Bool) (tol mat : Int) (ds : List S76) (w : World)
def PermP (r : Int) : Prop :=
  Calls Tryz.prog 46 #[.agg #[.string name, .int .i64 kind, .int .i64 axis, .int .i64 x, .int .i64 y, .int .i64 z, .int .i64 lo, .int .i64 hi, .slice A l.length c], .agg #[.int .i64 xk, .bool disc, .int .i64 tol, .int .i64 mat, .slice A1 ds.length c1]] w fun e w' => e = .returned (.int .i64 r) ∧ Below w.heap.size w w'
set_option maxRecDepth 100000 in
set_option maxHeartbeats 2000000 in
theorem perm_rest (hr : Kd.C k31 w A l.length l) (hc : l.length ≤ c) (x0 : 0 ≤ xk) (x9 : xk < 9) (k0 : 0 ≤ kind) (k5 : kind < 5) (r : Int)
    (hres : Hid (restS (isS (rowS xk).on kind) (isS (rowS xk).disc kind) (rowS xk) kind disc tol mat ds.length false = r)) : PermP name kind axis x y z lo hi A c l A1 c1 xk disc tol mat ds w r := by
  unfold PermP
  have HR := Hid.mk' hr
  have HC := Hid.mk' hc
  have hlen := rowsR_len
  have x9L : xk < (rowsR.length : Int) := by rw [hlen]; exact x9
  clear hr hc hlen
  go_enter Tryz.func46, Tryz.ntmps46
  go_upto_region 1 with fail
  obtain ⟨w2, hw2⟩ : ∃ w2 : World, w2 = (w.alloc (.cells #[.string name, .int .i64 kind, .int .i64 axis, .int .i64 x, .int .i64 y, .int .i64 z, .int .i64 lo, .int .i64 hi, .slice A l.length c] 28)).alloc (.cells #[.int .i64 xk, .bool disc, .int .i64 tol, .int .i64 mat, .slice A1 ds.length c1] 31) := ⟨_, rfl⟩
  have HB2 := Hid.mk' (show Below w.heap.size w w2 by rw [hw2]; exact below_alloc (below_alloc (Below.refl _ w) _) _)
  have hz2 : w.heap.size + 1 < w2.heap.size := by rw [hw2]; simp
  have hx2 : ∀ j : Nat, w2.cell? ⟨w.heap.size + 1, j, none⟩ = #[Value.int .i64 xk, .bool disc, .int .i64 tol, .int .i64 mat, .slice A1 ds.length c1][j]? := by rw [hw2]; intro j; exact cell_of_blk (heap_alloc2_new w _ _) j
  have hy2 : ∀ j : Nat, w2.cell? ⟨w.heap.size, j, none⟩ = #[Value.string name, .int .i64 kind, .int .i64 axis, .int .i64 x, .int .i64 y, .int .i64 z, .int .i64 lo, .int .i64 hi, .slice A l.length c][j]? := by rw [hw2]; intro j; exact cell_of_blk (heap_alloc2_old w _ _) j
  rw [← hw2]
  clear hw2
  obtain ⟨R, hR⟩ : ∃ R : S124, R = rowR xk := ⟨_, rfl⟩
  have HRow := Hid.mk' hR
  clear hR
  go_cut [5] (fun s5 wx => ∃ g : Nat, s5 = .pointer (some ⟨g, 0, none⟩) ∧ Hid (wx.heap[g]? = some (.cells (cells124 R) 124 (0, 0))) ∧ Hid (w2.heap.size ≤ g) ∧ Hid (Below w2.heap.size w2 wx))
  case first =>
    refine start_ (n := 7) (S := fun w' => w'.cell? ⟨w.heap.size + 1, 0, none⟩ = some (.int .i64 xk)) (ds := []) #[false, false, false, false, false, false, false] (by kernel_rfl) rfl rfl ?hS (fun hHeld => ?_)
    case hS => exact (hx2 0).trans rfl
    generalize hw3 : w2.drew = w3 at hHeld ⊢
    have HB3 := Hid.mk' (show Below w2.heap.size w2 w3 from hw3 ▸ below_drew (Below.refl _ w2))
    clear hw3
    have hsz3 : w2.heap.size ≤ w3.heap.size := HB3.out.size
    refine pure_ (i := 1) (N := some 7) (v := ?_) (a' := ?_) #[false, true, false, false, false, false, false] rfl rfl (by kernel_rfl) (fun _ _ _ h => h) (Or.inl ⟨by rfl, ?_⟩) ?_ ?_
    rotate_left
    · intro w'
      go_simp
      with_reducible rfl
    rotate_left
    · simp only [Act.put, List.setIfInBounds_toArray, List.set_cons_zero, List.set_cons_succ, i64_w, i32_w]
      rfl
    refine take_ (i := 2) (N := some 8) (v := ?_) (a' := ?_) #[false, true, true, false, false, false, false] rfl rfl (by kernel_rfl) (fun _ _ _ h => h) (Or.inl ⟨by rfl, ?_⟩) hHeld ?_ ?_
    rotate_left
    · intro w' s0
      go_simp
      with_reducible rfl
    rotate_left
    · simp only [Act.put, List.setIfInBounds_toArray, List.set_cons_zero, List.set_cons_succ, i64_w, i32_w]
      rfl
    refine two_ (i := 0) (j := 5) (Ni := some 6) (Nj := some 5) #[true, true, true, false, false, false, false] #[false, true, true, false, false, true, false] rfl rfl rfl rfl (by kernel_rfl) (by decide) (by decide) (fun K hK => ?_) (fun K hK => ?_)
    · refine goes_ Tryz.func83 (by kernel_rfl) rfl #[] (by rfl) rfl rfl (by (try simp only [List.map_toArray, List.map_cons, List.map_nil]); first | done | rfl) ?_
      refine (ZA.metrolabref19_Rows.calls rowsR w3 rowsR_f).mono ?_
      rintro e w4 ⟨v0, rfl, ho, hb⟩
      obtain ⟨Ao, co, rfl⟩ := Kd.R_slice ho
      obtain ⟨ad, rfl, hc0, hc1, hc2, hc3, hc4⟩ := at_T124 (Kd.R_reads' ho).2.2 xk x0 x9L
      rw [show rd_T124 rowsR xk = R from HRow.out.symm] at hc0 hc1 hc2 hc3 hc4
      refine ⟨_, rfl, ?_⟩
      have HB4 := Hid.mk' (below_step HB3.out hb)
      have hsz4 : w2.heap.size ≤ w4.heap.size := HB4.out.size
      refine hK.out _ _ ((hb.cell (World.block_lt_of_cell? _ _ hHeld)).trans hHeld) (fun hHeld => ?_)
      clear hK K
      clear hb ho
      refine norm_ (a' := ?_) ?_ ?_
      rotate_left
      · show Act.put _ (some 6) _ = _
        simp only [Act.put, List.setIfInBounds_toArray, List.set_cons_zero, List.set_cons_succ, i64_w, i32_w]
        rfl
      refine pure_ (i := 3) (N := some 9) (v := ?_) (a' := ?_) #[true, true, true, true, false, false, false] rfl rfl (by kernel_rfl) (fun _ _ _ h => h) (Or.inl ⟨by rfl, ?_⟩) ?_ ?_
      rotate_left
      · intro w'
        go_simp
        with_reducible rfl
      rotate_left
      · simp only [Act.put, List.setIfInBounds_toArray, List.set_cons_zero, List.set_cons_succ, i64_w, i32_w]
        rfl
      refine two_ (i := 4) (j := 5) (Ni := some 10) (Nj := some 5) #[true, true, true, true, true, false, false] #[true, true, true, true, false, true, false] rfl rfl rfl rfl (by kernel_rfl) (by decide) (by decide) (fun K hK => ?_) (fun K hK => ?_)
      · refine value_ (v := .agg (cells124 R)) (w1 := w4) (by rfl) rfl ?_ ?_
        · go_simp
          rfl
        refine hK.out _ _ hHeld (fun hHeld => ?_)
        clear hK K
        refine norm_ (a' := ?_) ?_ ?_
        rotate_left
        · show Act.put _ (some 10) _ = _
          simp only [Act.put, List.setIfInBounds_toArray, List.set_cons_zero, List.set_cons_succ, i64_w, i32_w]
          rfl
        refine one_ (i := 5) (N := some 5) #[true, true, true, true, true, true, false] rfl rfl (by kernel_rfl) (by decide) (fun K hK => ?_)
        refine value_ (v := .pointer (some ⟨w4.heap.size, 0, none⟩)) (w1 := w4.alloc (.cells zero124 124)) (by rfl) rfl (by kernel_rfl) ?_
        have hg := heap_alloc_new w4 (.cells zero124 124)
        have hgl : w4.heap.size < (w4.alloc (.cells zero124 124)).heap.size := by simp
        have hba : Below w4.heap.size w4 (w4.alloc (.cells zero124 124)) := (Below.refl _ _).alloc (Nat.le_refl _) _
        have HB5 := Hid.mk' (below_step HB4.out hba)
        have hS5 := (hba.cell (World.block_lt_of_cell? _ _ hHeld)).trans hHeld
        clear hba
        generalize w4.alloc (.cells zero124 124) = w5 at hg hgl HB5 hS5 ⊢
        refine hK.out _ _ hS5 (fun hHeld => ?_)
        clear hK K
        refine norm_ (a' := ?_) ?_ ?_
        rotate_left
        · show Act.put _ (some 5) _ = _
          simp only [Act.put, List.setIfInBounds_toArray, List.set_cons_zero, List.set_cons_succ, i64_w, i32_w]
          rfl
        refine one_ (i := 6) (N := none) #[true, true, true, true, true, true, true] rfl rfl (by kernel_rfl) (by decide) (fun K hK => ?_)
        refine store_row_ 124 (.tmp 5) (.tmp 10) (by rfl) (by rfl) (by rfl) w4.heap.size (cells124 R) (by rfl) (by rfl) 124 zero124 hg (size_124 R) (len_124 R) (one_124 R) ?_
        have hS6 : (w5.setRow w4.heap.size (cells124 R)).cell? ⟨w.heap.size + 1, 0, none⟩ = some (.int .i64 xk) := (cell_setRow_other w5 _ _ _ (by simp; omega)).trans hHeld
        have hg6 := setRow_heap w5 w4.heap.size _ (cells124 R) _ _ hg
        have HB6 := Hid.mk' (below_setRow HB5.out hsz4 (cells124 R))
        refine hK.out _ _ hS6 (fun hHeld => ?_)
        clear hK K
        refine done_ (by kernel_rfl) ?_
        go_wp2_with fail
        go_meet
        case rel => exact ⟨w4.heap.size, rfl, Hid.mk' hg6, Hid.mk' hsz4, HB6⟩
      · refine value_ (v := .pointer (some ⟨w4.heap.size, 0, none⟩)) (w1 := w4.alloc (.cells zero124 124)) (by rfl) rfl (by kernel_rfl) ?_
        have hg := heap_alloc_new w4 (.cells zero124 124)
        have hgl : w4.heap.size < (w4.alloc (.cells zero124 124)).heap.size := by simp
        have hba : Below w4.heap.size w4 (w4.alloc (.cells zero124 124)) := (Below.refl _ _).alloc (Nat.le_refl _) _
        have HB5 := Hid.mk' (below_step HB4.out hba)
        have hS5 := (hba.cell (World.block_lt_of_cell? _ _ hHeld)).trans hHeld
        replace hc0 := (hba.cell (World.block_lt_of_cell? _ _ hc0)).trans hc0
        replace hc1 := (hba.cell (World.block_lt_of_cell? _ _ hc1)).trans hc1
        replace hc2 := (hba.cell (World.block_lt_of_cell? _ _ hc2)).trans hc2
        replace hc3 := (hba.cell (World.block_lt_of_cell? _ _ hc3)).trans hc3
        replace hc4 := (hba.cell (World.block_lt_of_cell? _ _ hc4)).trans hc4
        clear hba
        generalize w4.alloc (.cells zero124 124) = w5 at hg hgl HB5 hS5 hc0 hc1 hc2 hc3 hc4 ⊢
        refine hK.out _ _ hS5 (fun hHeld => ?_)
        clear hK K
        refine norm_ (a' := ?_) ?_ ?_
        rotate_left
        · show Act.put _ (some 5) _ = _
          simp only [Act.put, List.setIfInBounds_toArray, List.set_cons_zero, List.set_cons_succ, i64_w, i32_w]
          rfl
        refine one_ (i := 4) (N := some 10) #[true, true, true, true, true, true, false] rfl rfl (by kernel_rfl) (by decide) (fun K hK => ?_)
        refine value_ (v := .agg (cells124 R)) (w1 := w5) (by rfl) rfl ?_ ?_
        · go_simp
          rfl
        refine hK.out _ _ hHeld (fun hHeld => ?_)
        clear hK K
        refine norm_ (a' := ?_) ?_ ?_
        rotate_left
        · show Act.put _ (some 10) _ = _
          simp only [Act.put, List.setIfInBounds_toArray, List.set_cons_zero, List.set_cons_succ, i64_w, i32_w]
          rfl
        refine one_ (i := 6) (N := none) #[true, true, true, true, true, true, true] rfl rfl (by kernel_rfl) (by decide) (fun K hK => ?_)
        refine store_row_ 124 (.tmp 5) (.tmp 10) (by rfl) (by rfl) (by rfl) w4.heap.size (cells124 R) (by rfl) (by rfl) 124 zero124 hg (size_124 R) (len_124 R) (one_124 R) ?_
        have hS6 : (w5.setRow w4.heap.size (cells124 R)).cell? ⟨w.heap.size + 1, 0, none⟩ = some (.int .i64 xk) := (cell_setRow_other w5 _ _ _ (by simp; omega)).trans hHeld
        have hg6 := setRow_heap w5 w4.heap.size _ (cells124 R) _ _ hg
        have HB6 := Hid.mk' (below_setRow HB5.out hsz4 (cells124 R))
        refine hK.out _ _ hS6 (fun hHeld => ?_)
        clear hK K
        refine done_ (by kernel_rfl) ?_
        go_wp2_with fail
        go_meet
        case rel => exact ⟨w4.heap.size, rfl, Hid.mk' hg6, Hid.mk' hsz4, HB6⟩
    · refine value_ (v := .pointer (some ⟨w3.heap.size, 0, none⟩)) (w1 := w3.alloc (.cells zero124 124)) (by rfl) rfl (by kernel_rfl) ?_
      have hg := heap_alloc_new w3 (.cells zero124 124)
      have hgl : w3.heap.size < (w3.alloc (.cells zero124 124)).heap.size := by simp
      have hba : Below w3.heap.size w3 (w3.alloc (.cells zero124 124)) := (Below.refl _ _).alloc (Nat.le_refl _) _
      have HB4 := Hid.mk' (below_step HB3.out hba)
      have hS4 := (hba.cell (World.block_lt_of_cell? _ _ hHeld)).trans hHeld
      clear hba
      generalize w3.alloc (.cells zero124 124) = w4 at hg hgl HB4 hS4 ⊢
      refine hK.out _ _ hS4 (fun hHeld => ?_)
      clear hK K
      refine norm_ (a' := ?_) ?_ ?_
      rotate_left
      · show Act.put _ (some 5) _ = _
        simp only [Act.put, List.setIfInBounds_toArray, List.set_cons_zero, List.set_cons_succ, i64_w, i32_w]
        rfl
      refine one_ (i := 0) (N := some 6) #[true, true, true, false, false, true, false] rfl rfl (by kernel_rfl) (by decide) (fun K hK => ?_)
      refine goes_ Tryz.func83 (by kernel_rfl) rfl #[] (by rfl) rfl rfl (by (try simp only [List.map_toArray, List.map_cons, List.map_nil]); first | done | rfl) ?_
      refine (ZA.metrolabref19_Rows.calls rowsR w4 rowsR_f).mono ?_
      rintro e w5 ⟨v0, rfl, ho, hb⟩
      obtain ⟨Ao, co, rfl⟩ := Kd.R_slice ho
      obtain ⟨ad, rfl, hc0, hc1, hc2, hc3, hc4⟩ := at_T124 (Kd.R_reads' ho).2.2 xk x0 x9L
      rw [show rd_T124 rowsR xk = R from HRow.out.symm] at hc0 hc1 hc2 hc3 hc4
      refine ⟨_, rfl, ?_⟩
      have HB5 := Hid.mk' (below_step HB4.out hb)
      replace hg := (hb.block _ hgl).trans hg
      refine hK.out _ _ ((hb.cell (World.block_lt_of_cell? _ _ hHeld)).trans hHeld) (fun hHeld => ?_)
      clear hK K
      clear hb ho
      refine norm_ (a' := ?_) ?_ ?_
      rotate_left
      · show Act.put _ (some 6) _ = _
        simp only [Act.put, List.setIfInBounds_toArray, List.set_cons_zero, List.set_cons_succ, i64_w, i32_w]
        rfl
      refine pure_ (i := 3) (N := some 9) (v := ?_) (a' := ?_) #[true, true, true, true, false, true, false] rfl rfl (by kernel_rfl) (fun _ _ _ h => h) (Or.inl ⟨by rfl, ?_⟩) ?_ ?_
      rotate_left
      · intro w'
        go_simp
        with_reducible rfl
      rotate_left
      · simp only [Act.put, List.setIfInBounds_toArray, List.set_cons_zero, List.set_cons_succ, i64_w, i32_w]
        rfl
      refine one_ (i := 4) (N := some 10) #[true, true, true, true, true, true, false] rfl rfl (by kernel_rfl) (by decide) (fun K hK => ?_)
      refine value_ (v := .agg (cells124 R)) (w1 := w5) (by rfl) rfl ?_ ?_
      · go_simp
        rfl
      refine hK.out _ _ hHeld (fun hHeld => ?_)
      clear hK K
      refine norm_ (a' := ?_) ?_ ?_
      rotate_left
      · show Act.put _ (some 10) _ = _
        simp only [Act.put, List.setIfInBounds_toArray, List.set_cons_zero, List.set_cons_succ, i64_w, i32_w]
        rfl
      refine one_ (i := 6) (N := none) #[true, true, true, true, true, true, true] rfl rfl (by kernel_rfl) (by decide) (fun K hK => ?_)
      refine store_row_ 124 (.tmp 5) (.tmp 10) (by rfl) (by rfl) (by rfl) w3.heap.size (cells124 R) (by rfl) (by rfl) 124 zero124 hg (size_124 R) (len_124 R) (one_124 R) ?_
      have hS6 : (w5.setRow w3.heap.size (cells124 R)).cell? ⟨w.heap.size + 1, 0, none⟩ = some (.int .i64 xk) := (cell_setRow_other w5 _ _ _ (by simp; omega)).trans hHeld
      have hg6 := setRow_heap w5 w3.heap.size _ (cells124 R) _ _ hg
      have HB6 := Hid.mk' (below_setRow HB5.out hsz3 (cells124 R))
      refine hK.out _ _ hS6 (fun hHeld => ?_)
      clear hK K
      refine done_ (by kernel_rfl) ?_
      go_wp2_with fail
      go_meet
      case rel => exact ⟨w3.heap.size, rfl, Hid.mk' hg6, Hid.mk' hsz3, HB6⟩
  case rest =>
    obtain ⟨g, rfl, hG, hg2, hBx⟩ := hcut
    obtain ⟨wo, rfl⟩ : ∃ wo : World, wo = wc := ⟨_, rfl⟩
    have hyc : ∀ j : Nat, wo.cell? ⟨w.heap.size, j, none⟩ = #[Value.string name, .int .i64 kind, .int .i64 axis, .int .i64 x, .int .i64 y, .int .i64 z, .int .i64 lo, .int .i64 hi, .slice A l.length c][j]? := fun j => (hBx.out.cell (p := ⟨w.heap.size, j, none⟩) (Nat.lt_of_succ_lt hz2)).trans (hy2 j)
    have hx1 : wo.cell? ⟨w.heap.size + 1, 1, none⟩ = some (.bool disc) := (hBx.out.cell (p := ⟨w.heap.size + 1, 1, none⟩) hz2).trans ((hx2 1).trans rfl)
    have hxk : wo.cell? ⟨w.heap.size + 1, 0, none⟩ = some (.int .i64 xk) := (hBx.out.cell (p := ⟨w.heap.size + 1, 0, none⟩) hz2).trans ((hx2 0).trans rfl)
    have hxt : wo.cell? ⟨w.heap.size + 1, 2, none⟩ = some (.int .i64 tol) := (hBx.out.cell (p := ⟨w.heap.size + 1, 2, none⟩) hz2).trans ((hx2 2).trans rfl)
    have hxm : wo.cell? ⟨w.heap.size + 1, 3, none⟩ = some (.int .i64 mat) := (hBx.out.cell (p := ⟨w.heap.size + 1, 3, none⟩) hz2).trans ((hx2 3).trans rfl)
    have hxd : wo.cell? ⟨w.heap.size + 1, 4, none⟩ = some (.slice A1 ds.length c1) := (hBx.out.cell (p := ⟨w.heap.size + 1, 4, none⟩) hz2).trans ((hx2 4).trans rfl)
    obtain ⟨hrow1, hrow2⟩ := perm_row xk x0 x9
    obtain ⟨hh1, hh2⟩ := perm_has xk kind x0 x9 k0 k5
    have hmay := perm_may xk kind x0 x9 name axis x y z lo hi l
    rw [← HRow.out] at hrow1 hrow2 hh1 hh2
    have hr1 : wo.cell? ⟨g, 1, none⟩ = some (.string R.f1) := (cell_of_blk hG.out 1).trans rfl
    have hr2 : wo.cell? ⟨g, 2, none⟩ = some (.int .i64 (rowS xk).least) := (cell_of_blk hG.out 2).trans (by rw [← hrow1]; rfl)
    have hr3 : wo.cell? ⟨g, 3, none⟩ = some (.int .i64 (rowS xk).most) := (cell_of_blk hG.out 3).trans (by rw [← hrow2]; rfl)
    have hr4 : wo.cell? ⟨g, 4, none⟩ = some (.string R.f4) := (cell_of_blk hG.out 4).trans rfl
    have hOn := fun W => ZA.metrolabref19_has.calls 9 R.f1 kind _ W hh1
    have hDi := fun W => ZA.metrolabref19_has.calls 9 R.f4 kind _ W hh2
    have hMay := fun W hr => ZA.metrolabref19_mayMaterial.calls name kind axis x y z lo hi A c l xk _ W hr HC.out hmay
    have HBc := Hid.mk' (Below.trans HB2.out (hBx.out.mono HB2.out.size))
    have hres2 := hres.out
    generalize rowS xk = RS at hOn hDi hMay hres2 hr2 hr3 hrow1 hrow2 hh1 hh2 hmay
    clear hrow1 hrow2 hh1 hh2 hmay
    generalize isS RS.on kind = b1 at hOn hres2
    generalize isS RS.disc kind = b2 at hDi hres2
    generalize hn : ds.length = n at *
    clear hn
    obtain ⟨rw, ron, rdi, rl, rm, rmat⟩ := RS
    simp only at hr2 hr3 hMay hres2
    have HRes := Hid.mk' hres2
    have HMay := Hid.mk' hMay
    have hltc : w.heap.size + 1 < wo.heap.size := Nat.lt_of_lt_of_le hz2 hBx.out.size
    clear hres2 hx2 hy2 hMay
    go_wp2_with fail
    refine (hOn _).mono ?_
    rintro e w3 ⟨rfl, hd⟩
    have hb3 := Hid.mk' hd.below
    have HB3 := Hid.mk' (Below.trans HBc.out (hb3.out.mono HBc.out.size))
    clear hOn hd
    cases b1 with
    | false =>
      have hq : Hid (14 = r) := Hid.mk' HRes.out
      go_wp2_with fail
      go_ret
      rw [← hq.out]
      exact ⟨rfl, HB3.out⟩
    | true =>
      replace hx1 := pw_cell_below hb3.out hx1
      replace hr4 := pw_cell_below hb3.out hr4
      have hy1 := pw_cell_below hb3.out ((hyc 1).trans rfl)
      go_upto_region 4 with fail
      go_cut [26] (fun s26 wx => s26 = .bool (disc && !b2) ∧ Hid (Below wo.heap.size wo wx))
      case first =>
        cases disc with
        | true =>
          go_wp2_with fail
          refine (hDi _).mono ?_
          rintro e w4 ⟨rfl, hd⟩
          have hb4 := Hid.mk' (Below.trans hb3.out (hd.below.mono hb3.out.size))
          clear hd
          go_wp2_with fail
          go_meet
          case rel => exact ⟨by cases b2 <;> rfl, hb4⟩
        | false =>
          go_wp2_with fail
          go_meet
          case rel => exact ⟨rfl, hb3⟩
      case rest =>
        obtain ⟨rfl, hb4⟩ := hcut
        obtain ⟨w4, rfl⟩ : ∃ wo : World, wo = wc := ⟨_, rfl⟩
        have HB4 := Hid.mk' (Below.trans HBc.out (hb4.out.mono HBc.out.size))
        clear hDi hx1 hr4 hy1 hb3 HB3
        generalize hD : (disc && !b2) = D
        have hD2 := Hid.mk' hD
        clear hD
        cases D with
        | true =>
          have hq : Hid (3 = r) := Hid.mk' (by have := HRes.out; unfold restS at this; rw [hD2.out] at this; exact this)
          clear HRes hD2
          go_wp2_with fail
          go_ret
          rw [← hq.out]
          exact ⟨rfl, HB4.out⟩
        | false =>
          replace hxt := pw_cell_below hb4.out hxt
          replace hxm := pw_cell_below hb4.out hxm
          go_upto_region 6 with fail
          go_cut [34] (fun s34 wx => s34 = .bool (decide (tol = 0 ∧ mat ≠ 1)) ∧ w4 = wx)
          case first =>
            by_cases ht : tol = 0
            · subst ht
              go_wp2_with fail
              go_meet
              case rel => exact ⟨by congr 1; by_cases hm : mat = 1 <;> simp [hm], rfl⟩
            · have ht2 : (tol == 0) = false := beq_eq_false_iff_ne.2 ht
              go_wp2_with fail
              go_meet
              case rel => exact ⟨by congr 1; simp [ht], rfl⟩
          case rest =>
            obtain ⟨rfl, rfl⟩ := hcut
            clear hxt
            generalize hE : decide (tol = 0 ∧ mat ≠ 1) = E
            have hE2 := Hid.mk' hE
            clear hE
            cases E with
            | true =>
              have hq : Hid (10 = r) := Hid.mk' (by have := HRes.out; unfold restS at this; rw [hD2.out, if_pos (of_decide_eq_true hE2.out)] at this; exact this)
              clear HRes hD2 hE2
              go_wp2_with fail
              go_ret
              rw [← hq.out]
              exact ⟨rfl, HB4.out⟩
            | false =>
              have hyw : ∀ j : Nat, w4.cell? ⟨w.heap.size, j, none⟩ = #[Value.string name, .int .i64 kind, .int .i64 axis, .int .i64 x, .int .i64 y, .int .i64 z, .int .i64 lo, .int .i64 hi, .slice A l.length c][j]? := fun j => (hb4.out.cell (p := ⟨w.heap.size, j, none⟩) (Nat.lt_of_succ_lt hltc)).trans (hyc j)
              have hy0 := (hyw 0).trans rfl
              have hy1 := (hyw 1).trans rfl
              have hy2 := (hyw 2).trans rfl
              have hy3 := (hyw 3).trans rfl
              have hy4 := (hyw 4).trans rfl
              have hy5 := (hyw 5).trans rfl
              have hy6 := (hyw 6).trans rfl
              have hy7 := (hyw 7).trans rfl
              have hy8 := (hyw 8).trans rfl
              replace hxk := pw_cell_below hb4.out hxk
              clear hyw hyc
              go_upto_region 8 with fail
              go_cut [44] (fun s44 wx => s44 = .bool (decide (mat ≠ 0 ∧ (rmat = false ∨ kind = 0))) ∧ Hid (Below wo.heap.size wo wx))
              case first =>
                by_cases hm : mat = 0
                · subst hm
                  go_wp2_with fail
                  go_meet
                  case rel => exact ⟨rfl, hb4⟩
                · have hm2 : (mat == 0) = false := beq_eq_false_iff_ne.2 hm
                  have hm3 : (mat != 0) = true := by simp [bne, hm2]
                  go_wp2_with fail
                  refine (HMay.out _ (Kd.C_below HR.out HB4.out)).mono ?_
                  rintro e w5 ⟨rfl, hb⟩
                  have hb5 := Hid.mk' (Below.trans hb4.out (hb.mono hb4.out.size))
                  clear hb
                  go_wp2_with fail
                  go_meet
                  case rel => exact ⟨by congr 1; simp [hm], hb5⟩
              case rest =>
                obtain ⟨rfl, hb5⟩ := hcut
                clear hxm hxk hy0 hy1 hy2 hy3 hy4 hy5 hy6 hy7 hy8 hb4 HB4
                have HB5 := Hid.mk' (Below.trans HBc.out (hb5.out.mono HBc.out.size))
                replace hxd := pw_cell_below hb5.out hxd
                replace hr2 := pw_cell_below hb5.out hr2
                replace hr3 := pw_cell_below hb5.out hr3
                generalize hG2 : decide (mat ≠ 0 ∧ (rmat = false ∨ kind = 0)) = G
                have hG3 := Hid.mk' hG2
                clear hG2
                cases G with
                | true =>
                  have hq : Hid (3 = r) := Hid.mk' (by have := HRes.out; unfold restS at this; rw [hD2.out, if_neg (of_decide_eq_false hE2.out), if_pos (of_decide_eq_true hG3.out)] at this; exact this)
                  clear HRes hD2 hE2 hG3
                  go_wp2_with fail
                  go_ret
                  rw [← hq.out]
                  exact ⟨rfl, HB5.out⟩
                | false =>
                  have hq : Hid ((if (n : Int) < rl then 13 else if (n : Int) > rm then 5 else 0) = r) := Hid.mk' (by have := HRes.out; unfold restS at this; rw [hD2.out, if_neg (of_decide_eq_false hE2.out), if_neg (of_decide_eq_false hG3.out)] at this; exact this)
                  clear HRes hD2 hE2 hG3
                  by_cases h1 : (n : Int) < rl
                  · have hq : Hid (13 = r) := Hid.mk' (by have := hq.out; rw [if_pos h1] at this; exact this)
                    have h1b : decide ((n : Int) < rl) = true := decide_eq_true h1
                    go_wp2_with fail
                    go_ret
                    rw [← hq.out]
                    exact ⟨rfl, HB5.out⟩
                  · have h1b : decide ((n : Int) < rl) = false := decide_eq_false h1
                    by_cases h2 : (n : Int) > rm
                    · have hq : Hid (5 = r) := Hid.mk' (by have := hq.out; rw [if_neg h1, if_pos h2] at this; exact this)
                      have h2b : decide ((n : Int) > rm) = true := decide_eq_true h2
                      go_wp2_with fail
                      go_ret
                      rw [← hq.out]
                      exact ⟨rfl, HB5.out⟩
                    · have hq : Hid (0 = r) := Hid.mk' (by have := hq.out; rw [if_neg h1, if_neg h2] at this; exact this)
                      have h2b : decide ((n : Int) > rm) = false := decide_eq_false h2
                      go_wp2_with fail
                      go_ret
                      rw [← hq.out]
                      exact ⟨rfl, HB5.out⟩
end
def ref_permitted.f (a0_0 : ByteArray) (a0_1 : Int) (a0_2 : Int) (a0_3 : Int) (a0_4 : Int) (a0_5 : Int) (a0_6 : Int) (a0_7 : Int) (l0_8 : List S31) (a1_0 : Int) (a1_1 : Bool) (a1_2 : Int) (a1_3 : Int) (l1_4 : List S76) : Option Int :=
  if 0 ≤ a1_0 ∧ a1_0 < 9 ∧ 0 ≤ a0_1 ∧ a0_1 < 5 then some (restS (isS (rowS a1_0).on a0_1) (isS (rowS a1_0).disc a0_1) (rowS a1_0) a0_1 a1_1 a1_2 a1_3 l1_4.length false) else none
theorem ref_permitted.calls (a0_0 : ByteArray) (a0_1 : Int) (a0_2 : Int) (a0_3 : Int) (a0_4 : Int) (a0_5 : Int) (a0_6 : Int) (a0_7 : Int) (A0_8 : Option Addr) (c0_8 : Nat) (l0_8 : List (S31)) (a1_0 : Int) (a1_1 : Bool) (a1_2 : Int) (a1_3 : Int) (A1_4 : Option Addr) (c1_4 : Nat) (l1_4 : List (S76)) (r : Int) (w : World) (hr0_8 : Kd.C k31 w A0_8 l0_8.length l0_8) (hc0_8 : l0_8.length ≤ c0_8) (hr1_4 : Kd.C k76 w A1_4 l1_4.length l1_4) (hc1_4 : l1_4.length ≤ c1_4) (h : ref_permitted.f a0_0 a0_1 a0_2 a0_3 a0_4 a0_5 a0_6 a0_7 l0_8 a1_0 a1_1 a1_2 a1_3 l1_4 = some r) :
    Calls Tryz.prog 46 #[.agg #[.string a0_0, .int .i64 a0_1, .int .i64 a0_2, .int .i64 a0_3, .int .i64 a0_4, .int .i64 a0_5, .int .i64 a0_6, .int .i64 a0_7, .slice A0_8 l0_8.length c0_8], .agg #[.int .i64 a1_0, .bool a1_1, .int .i64 a1_2, .int .i64 a1_3, .slice A1_4 l1_4.length c1_4]] w fun e w' => e = .returned (.int .i64 r) ∧ Below w.heap.size w w' := by
  unfold ref_permitted.f at h
  split at h
  · rename_i hx
    obtain ⟨x0, x9, k0, k5⟩ := hx
    exact perm_rest a0_0 a0_1 a0_2 a0_3 a0_4 a0_5 a0_6 a0_7 A0_8 c0_8 l0_8 A1_4 c1_4 a1_0 a1_1 a1_2 a1_3 l1_4 w hr0_8 hc0_8 x0 x9 k0 k5 r (Hid.mk' (Option.some.inj h))
  · cases h
end Go.Proofs.YtkohjcfmcliioaaGreatDoor
set_option linter.unusedVariables false
set_option linter.unusedSimpArgs false
namespace Go.Proofs.YtkohjcfmcliioaaGreatDoor
open Go Go.RowKit Go.Proofs.YtkohjcfmcliioaaGreatDoorW.PrintWords Go.Proofs.YtkohjcfmcliioaaGreatDoorW.PrintLast Go.Proofs.YtkohjcfmcliioaaGreatDoorW.PrintMore
open Go.Proofs.YtkohjcfmcliioaaGreatDoor.ZA (S76 S31 k31 k76 S124 k124 rd_T124 at_T124)
/-- The mark of a material condition. -/
def markS (m : Int) : ByteArray := if m = 1 then ⟨#[40, 77, 41]⟩ else if m = 2 then ⟨#[40, 76, 41]⟩ else ⟨#[]⟩
theorem mark_at (m : Int) (h0 : 0 ≤ m) (h3 : m < 3) (w : World) : (Instr.index 132 (.agg #[.string ⟨#[]⟩, .string ⟨#[40, 77, 41]⟩, .string ⟨#[40, 76, 41]⟩]) (.int .i64 m)).run Tryz.prog w = .ok (.string (markS m)) w := by
  have : m = 0 ∨ m = 1 ∨ m = 2 := by omega
  rcases this with rfl | rfl | rfl <;> exact (show _ = _ from by kernel_rfl)
theorem markS_size (m : Int) : (markS m).size ≤ 3 := by
  unfold markS
  split
  · exact Nat.le_refl _
  · split
    · exact Nat.le_refl _
    · exact Nat.zero_le _
theorem marked_any (s : ByteArray) (m : Int) (h0 : 0 ≤ m) (h3 : m < 3) (hs : s.size ≤ 140737488355328) (w : World) :
    Calls Tryz.prog 57 #[.string s, .int .i64 m] w fun e w' => e = .returned (.string (s ++ markS m)) ∧ w = w' := by
  have hix := mark_at m h0 h3
  have hb : ¬ (9223372036854775807 < s.size + (markS m).size) := by have := markS_size m; omega
  generalize markS m = mk at hix hb
  clear h0 h3 hs
  go_enter Tryz.func57, Tryz.ntmps57
  go_wp2_with fail
  go_ret
  exact ⟨rfl, rfl⟩
def frame_marked.f (s : ByteArray) (m : Int) : Option ByteArray := if 0 ≤ m ∧ m < 3 ∧ s.size ≤ 140737488355328 then some (s ++ markS m) else none
theorem frame_marked.calls (a0 : ByteArray) (a1 : Int) (r : ByteArray) (w : World) (h : frame_marked.f a0 a1 = some r) :
    Calls Tryz.prog 57 #[.string a0, .int .i64 a1] w fun e w' => e = .returned (.string r) ∧ Below w.heap.size w w' := by
  unfold frame_marked.f at h
  split at h
  · rename_i hx
    obtain ⟨h0, h3, hs⟩ := hx
    cases h
    exact (marked_any a0 a1 h0 h3 hs w).mono fun _ _ ⟨he, hw⟩ => ⟨he, hw ▸ Below.refl _ _⟩
  · cases h
def strings_CutSuffix.f (s p : ByteArray) : Option (ByteArray × Bool) := if s.size ≤ 9223372036854775807 then some (⟨(Lib.trimSuffix s.data.toList p.data.toList).toArray⟩, Lib.hasSuffix s.data.toList p.data.toList) else none
theorem strings_CutSuffix.calls (a0 a1 : ByteArray) (r1 : ByteArray) (r2 : Bool) (w : World) (h : strings_CutSuffix.f a0 a1 = some (r1, r2)) :
    Calls Tryz.prog 100 #[.string a0, .string a1] w fun e w' => e = .returned (.tuple #[.string r1, .bool r2]) ∧ Below w.heap.size w w' := by
  unfold strings_CutSuffix.f at h
  split at h
  · cases h
    exact (Tryz.strings_CutSuffix a0 a1 w ‹_›).mono fun _ _ ⟨he, hw⟩ => ⟨he, by rw [hw]; exact Below.refl _ _⟩
  · cases h
def innerS (kind : Int) : Bool := decide (kind = 1 ∨ kind = 3)
theorem inner_f (kind : Int) : ZA.feature_inner.f kind = some (innerS kind) := by
  unfold ZA.feature_inner.f innerS
  by_cases h1 : kind = 1
  · rw [if_pos h1, decide_eq_true (.inl h1)]
  · rw [if_neg h1]
    by_cases h3 : kind = 3
    · subst h3; rfl
    · rw [decide_eq_false (by omega), beq_eq_false_iff_ne.2 h3]
section
variable (name : ByteArray) (kind axis x y z lo hi : Int) (A : Option Addr) (c : Nat) (l : List S31) (A1 : Option Addr) (c1 : Nat) (xk : Int) (disc : Bool) (tol mat : Int) (ds : List S76) (w : World)
/-- feature.Inner, and the size at the least or the most material. -/
def InnS : Bool × Int := if featS name kind axis x y z lo hi ≠ 0 then (false, featS name kind axis x y z lo hi) else (innerS kind, 0)
def extS (least : Bool) : Int × Int := if featS name kind axis x y z lo hi ≠ 0 then (0, featS name kind axis x y z lo hi) else if kind = 0 then (0, 14) else (if least = true then lo else hi, 0)
theorem Inn_f (m : Nat) : ZF.feature_Inner.f (m + 4) name kind axis x y z lo hi l = some (InnS name kind axis x y z lo hi) := by
  unfold ZF.feature_Inner.f InnS
  rw [feat_f]
  simp only [Option.bind_some, inner_f]
  by_cases h : featS name kind axis x y z lo hi = 0 <;> simp [h]
theorem ext_f (m : Nat) (b : Bool) : ZF.feature_extreme.f (m + 4) name kind axis x y z lo hi l b = some (extS name kind axis x y z lo hi b) := by
  unfold ZF.feature_extreme.f extS
  rw [feat_f]
  simp only [Option.bind_some]
  generalize featS name kind axis x y z lo hi = e
  by_cases h : e = 0 <;> by_cases hk : kind = 0 <;> cases b <;> simp [h, hk]
theorem max_f (m : Nat) : ZF.feature_Maximum.f (m + 4) name kind axis x y z lo hi l = some (extS name kind axis x y z lo hi (innerS kind)) := by
  unfold ZF.feature_Maximum.f
  simp only [inner_f, ext_f, Option.bind_some]
theorem min_f (m : Nat) : ZF.feature_Least.f (m + 4) name kind axis x y z lo hi l = some (extS name kind axis x y z lo hi (!innerS kind)) := by
  unfold ZF.feature_Least.f
  simp only [inner_f, ext_f, Option.bind_some]
theorem inner_calls (hc : l.length ≤ c) (hr : Kd.C k31 w A l.length l) : Calls Tryz.prog 21 #[.agg #[.string name, .int .i64 kind, .int .i64 axis, .int .i64 x, .int .i64 y, .int .i64 z, .int .i64 lo, .int .i64 hi, .slice A l.length c]] w fun e w' => e = .returned (.tuple #[.bool (InnS name kind axis x y z lo hi).1, .int .i64 (InnS name kind axis x y z lo hi).2]) ∧ Below w.heap.size w w' :=
  ZF.feature_Inner.calls 4 name kind axis x y z lo hi A c l (InnS name kind axis x y z lo hi).1 (InnS name kind axis x y z lo hi).2 w hr hc (Inn_f name kind axis x y z lo hi l 0)
theorem max_calls (hc : l.length ≤ c) (hr : Kd.C k31 w A l.length l) : Calls Tryz.prog 88 #[.agg #[.string name, .int .i64 kind, .int .i64 axis, .int .i64 x, .int .i64 y, .int .i64 z, .int .i64 lo, .int .i64 hi, .slice A l.length c]] w fun e w' => e = .returned (.tuple #[.int .i64 (extS name kind axis x y z lo hi (innerS kind)).1, .int .i64 (extS name kind axis x y z lo hi (innerS kind)).2]) ∧ Below w.heap.size w w' :=
  ZF.feature_Maximum.calls 4 name kind axis x y z lo hi A c l (extS name kind axis x y z lo hi (innerS kind)).1 (extS name kind axis x y z lo hi (innerS kind)).2 w hr hc (max_f name kind axis x y z lo hi l 0)
theorem min_calls (hc : l.length ≤ c) (hr : Kd.C k31 w A l.length l) : Calls Tryz.prog 89 #[.agg #[.string name, .int .i64 kind, .int .i64 axis, .int .i64 x, .int .i64 y, .int .i64 z, .int .i64 lo, .int .i64 hi, .slice A l.length c]] w fun e w' => e = .returned (.tuple #[.int .i64 (extS name kind axis x y z lo hi (!innerS kind)).1, .int .i64 (extS name kind axis x y z lo hi (!innerS kind)).2]) ∧ Below w.heap.size w w' :=
  ZF.feature_Least.calls 4 name kind axis x y z lo hi A c l (extS name kind axis x y z lo hi (!innerS kind)).1 (extS name kind axis x y z lo hi (!innerS kind)).2 w hr hc (min_f name kind axis x y z lo hi l 0)
def matS (mat : Int) : Int × Bool × Int :=
  if (InnS name kind axis x y z lo hi).2 ≠ 0 then (0, false, (InnS name kind axis x y z lo hi).2)
  else if mat = 2 then ((extS name kind axis x y z lo hi (!innerS kind)).1, (InnS name kind axis x y z lo hi).1, (extS name kind axis x y z lo hi (!innerS kind)).2)
  else ((extS name kind axis x y z lo hi (innerS kind)).1, (InnS name kind axis x y z lo hi).1, (extS name kind axis x y z lo hi (innerS kind)).2)
def MatP (r : Int × Bool × Int) : Prop :=
  Calls Tryz.prog 52 #[.agg #[.string name, .int .i64 kind, .int .i64 axis, .int .i64 x, .int .i64 y, .int .i64 z, .int .i64 lo, .int .i64 hi, .slice A l.length c], .agg #[.int .i64 xk, .bool disc, .int .i64 tol, .int .i64 mat, .slice A1 ds.length c1]] w fun e w' => e = .returned (.tuple #[.int .i64 r.1, .bool r.2.1, .int .i64 r.2.2]) ∧ Below w.heap.size w w'
set_option maxRecDepth 100000 in
set_option maxHeartbeats 1000000 in
theorem material_any (hr : Kd.C k31 w A l.length l) (hc : l.length ≤ c) (r : Int × Bool × Int) (hres : Hid (matS name kind axis x y z lo hi mat = r)) : MatP name kind axis x y z lo hi A c l A1 c1 xk disc tol mat ds w r := by
  unfold MatP
  have hI := fun W => inner_calls name kind axis x y z lo hi A c l W hc
  have hMx := fun W => max_calls name kind axis x y z lo hi A c l W hc
  have hMn := fun W => min_calls name kind axis x y z lo hi A c l W hc
  have hres2 := hres.out
  unfold matS at hres2
  generalize InnS name kind axis x y z lo hi = I at hI hres2
  generalize extS name kind axis x y z lo hi (innerS kind) = M at hMx hres2
  generalize extS name kind axis x y z lo hi (!innerS kind) = N at hMn hres2
  obtain ⟨b, e0⟩ := I
  obtain ⟨m1, m2⟩ := M
  obtain ⟨n1, n2⟩ := N
  simp only at hI hMx hMn hres2
  have HRes := Hid.mk' hres2
  clear hres2
  have HI := Hid.mk' hI
  have HMx := Hid.mk' hMx
  have HMn := Hid.mk' hMn
  have HR := Hid.mk' hr
  clear hI hMx hMn hr hc
  go_enter Tryz.func52, Tryz.ntmps52
  go_wp2_with fail
  refine (HI.out _ ?_).mono ?_
  · exact Kd.C_below HR.out (below_alloc (below_alloc (Below.refl _ w) _) _)
  rintro e w1 ⟨rfl, hb⟩
  have hx := fun (j : Nat) => hb.cell (p := ⟨w.heap.size + 1, j, none⟩) (by simp)
  have hy := fun (j : Nat) => hb.cell (p := ⟨w.heap.size, j, none⟩) (by simp; omega)
  simp at hx hy
  have hx3 := (hx 3).trans rfl
  have hy0 := (hy 0).trans rfl
  have hy1 := (hy 1).trans rfl
  have hy2 := (hy 2).trans rfl
  have hy3 := (hy 3).trans rfl
  have hy4 := (hy 4).trans rfl
  have hy5 := (hy 5).trans rfl
  have hy6 := (hy 6).trans rfl
  have hy7 := (hy 7).trans rfl
  have hy8 := (hy 8).trans rfl
  have HB := Hid.mk' (Below.trans (below_alloc (below_alloc (Below.refl _ w) _) _) (hb.mono (by simp; omega)))
  clear hb hx hy HI
  by_cases he : e0 = 0
  · subst he
    by_cases hm : mat = 2
    · subst hm
      have hq := Hid.mk' (show (n1, b, n2) = r by have := HRes.out; rw [if_neg (by decide), if_pos rfl] at this; exact this)
      go_wp2_with fail
      refine (HMn.out _ (Kd.C_below HR.out HB.out)).mono ?_
      rintro e w2 ⟨rfl, hb⟩
      have HB2 := Hid.mk' (Below.trans HB.out (hb.mono HB.out.size))
      clear hb
      go_wp2_with fail
      go_ret3
      rw [← hq.out]
      exact ⟨rfl, HB2.out⟩
    · have hq := Hid.mk' (show (m1, b, m2) = r by have := HRes.out; rw [if_neg (by decide), if_neg hm] at this; exact this)
      have hm2 : (mat == 2) = false := beq_eq_false_iff_ne.2 hm
      go_wp2_with fail
      refine (HMx.out _ (Kd.C_below HR.out HB.out)).mono ?_
      rintro e w2 ⟨rfl, hb⟩
      have HB2 := Hid.mk' (Below.trans HB.out (hb.mono HB.out.size))
      clear hb
      go_wp2_with fail
      go_ret3
      rw [← hq.out]
      exact ⟨rfl, HB2.out⟩
  · have hq := Hid.mk' (show (0, false, e0) = r by have := HRes.out; rw [if_pos he] at this; exact this)
    go_wp2_with fail
    go_ret3
    rw [← hq.out]
    exact ⟨rfl, HB.out⟩
end
def frame_material.f (a0_0 : ByteArray) (a0_1 : Int) (a0_2 : Int) (a0_3 : Int) (a0_4 : Int) (a0_5 : Int) (a0_6 : Int) (a0_7 : Int) (l0_8 : List S31) (a1_0 : Int) (a1_1 : Bool) (a1_2 : Int) (a1_3 : Int) (l1_4 : List S76) : Option (Int × Bool × Int) :=
  some (matS a0_0 a0_1 a0_2 a0_3 a0_4 a0_5 a0_6 a0_7 a1_3)
theorem frame_material.calls (a0_0 : ByteArray) (a0_1 : Int) (a0_2 : Int) (a0_3 : Int) (a0_4 : Int) (a0_5 : Int) (a0_6 : Int) (a0_7 : Int) (A0_8 : Option Addr) (c0_8 : Nat) (l0_8 : List (S31)) (a1_0 : Int) (a1_1 : Bool) (a1_2 : Int) (a1_3 : Int) (A1_4 : Option Addr) (c1_4 : Nat) (l1_4 : List (S76)) (r1 : Int) (r2 : Bool) (r3 : Int) (w : World) (hr0_8 : Kd.C k31 w A0_8 l0_8.length l0_8) (hc0_8 : l0_8.length ≤ c0_8) (hr1_4 : Kd.C k76 w A1_4 l1_4.length l1_4) (hc1_4 : l1_4.length ≤ c1_4) (h : frame_material.f a0_0 a0_1 a0_2 a0_3 a0_4 a0_5 a0_6 a0_7 l0_8 a1_0 a1_1 a1_2 a1_3 l1_4 = some (r1, r2, r3)) :
    Calls Tryz.prog 52 #[.agg #[.string a0_0, .int .i64 a0_1, .int .i64 a0_2, .int .i64 a0_3, .int .i64 a0_4, .int .i64 a0_5, .int .i64 a0_6, .int .i64 a0_7, .slice A0_8 l0_8.length c0_8], .agg #[.int .i64 a1_0, .bool a1_1, .int .i64 a1_2, .int .i64 a1_3, .slice A1_4 l1_4.length c1_4]] w fun e w' => e = .returned (.tuple #[.int .i64 r1, .bool r2, .int .i64 r3]) ∧ Below w.heap.size w w' :=
  material_any a0_0 a0_1 a0_2 a0_3 a0_4 a0_5 a0_6 a0_7 A0_8 c0_8 l0_8 A1_4 c1_4 a1_0 a1_1 a1_2 a1_3 l1_4 w hr0_8 hc0_8 (r1, r2, r3) (Hid.mk' (Option.some.inj h))
end Go.Proofs.YtkohjcfmcliioaaGreatDoor
set_option linter.unusedVariables false
set_option linter.unusedSimpArgs false
namespace Go.Proofs.YtkohjcfmcliioaaGreatDoor
open Go Go.RowKit Go.Proofs.YtkohjcfmcliioaaGreatDoorW.PrintWords Go.Proofs.YtkohjcfmcliioaaGreatDoorW.PrintLast Go.Proofs.YtkohjcfmcliioaaGreatDoorW.PrintMore
open Go.Proofs.YtkohjcfmcliioaaGreatDoor.ZA (S76 S31 k31 k76 S124 k124 rd_T124 at_T124 rd_T31 at_T31)
section
variable (name : ByteArray) (kind axis x y z lo hi : Int) (A : Option Addr) (c : Nat) (l : List S31) (w : World)
/-- The first error of frames; bs: which kinds have been seen. -/
def framesS : List Bool → List S31 → Int
  | _, [] => 0
  | bs, f :: t => if checkS name kind axis x y z lo hi f.f0 f.f1 f.f2 f.f3 f.f4 ≠ 0 then checkS name kind axis x y z lo hi f.f0 f.f1 f.f2 f.f3 f.f4
    else if bs.getD f.f0.toNat false = true then 7 else framesS (bs.set f.f0.toNat true) t
def allS : Int := if featS name kind axis x y z lo hi ≠ 0 then featS name kind axis x y z lo hi else if 8 < l.length then 5 else framesS name kind axis x y z lo hi (List.replicate 9 false) l
end
def frame_All.f (a0_0 : ByteArray) (a0_1 : Int) (a0_2 : Int) (a0_3 : Int) (a0_4 : Int) (a0_5 : Int) (a0_6 : Int) (a0_7 : Int) (l0_8 : List S31) : Option Int := some (allS a0_0 a0_1 a0_2 a0_3 a0_4 a0_5 a0_6 a0_7 l0_8)
end Go.Proofs.YtkohjcfmcliioaaGreatDoor
set_option linter.unusedVariables false
set_option linter.unusedSimpArgs false
namespace Go.Proofs.YtkohjcfmcliioaaGreatDoor
open Go Go.RowKit Go.Proofs.YtkohjcfmcliioaaGreatDoorW.PrintWords Go.Proofs.YtkohjcfmcliioaaGreatDoorW.PrintLast Go.Proofs.YtkohjcfmcliioaaGreatDoorW.PrintMore
theorem cell_lt {w : World} {a : Addr} {v : Value} (h : w.cell? a = some v) : a.block < w.heap.size := World.block_lt_of_cell? w a h
def Tab (w : World) : Prop := Lib.TabIs Tryz.prog w "internal/strconv.uint64pow10" .u64 Lib.pow10Tab
theorem tabNamed : Tryz.prog.globalNamed "internal/strconv.uint64pow10" = some 3 := by kernel_rfl
theorem Tab.below {w w' : World} (h : Tab w) (hb : Below w.heap.size w w') : Tab w' := by
  have h0 : w.var? Tryz.prog "internal/strconv.uint64pow10" = some (Lib.pow10Tab.map fun z => Value.int .u64 z).toArray := h
  have hg : 3 < w.heap.size := by
    rcases Nat.lt_or_ge 3 w.heap.size with h1 | h1
    · exact h1
    · unfold World.var? at h0
      rw [tabNamed, Option.bind_some, Array.getElem?_eq_none h1] at h0
      cases h0
  exact var?_below hb tabNamed hg h0
/-- What the package-level variables hold. -/
def Env (w : World) : Prop := Tab w ∧ (∃ m, w.cell? ⟨0, 0, none⟩ = some (.int .i64 m)) ∧
  (∃ ev, w.cell? ⟨1, 0, none⟩ = some ev ∧ (ev = .nilIface ∨ ∃ te pe, ev = .iface te pe)) ∧ ∃ ev, w.cell? ⟨2, 0, none⟩ = some ev ∧ (ev = .nilIface ∨ ∃ te pe, ev = .iface te pe)
theorem Env.below {w w' : World} (h : Env w) (hb : Below w.heap.size w w') : Env w' := by
  obtain ⟨h1, ⟨m, h2⟩, ⟨ev, h3, h4⟩, ev', h5, h6⟩ := h
  exact ⟨h1.below hb, ⟨m, pw_cell_below hb h2⟩, ⟨ev, pw_cell_below hb h3, h4⟩, ev', pw_cell_below hb h5, h6⟩
def strconv_Itoa.f (n : Int) : Option ByteArray := if -9223372036854775808 ≤ n ∧ n ≤ 9223372036854775807 then some ⟨(Lib.itoa n).toArray⟩ else none
theorem strconv_Itoa.calls (a0 : Int) (r : ByteArray) (w : World) (h : strconv_Itoa.f a0 = some r) (HE_ : Env w) :
    Calls Tryz.prog 58 #[.int .i64 a0] w fun e w' => e = .returned (.string r) ∧ Below w.heap.size w w' := by
  unfold strconv_Itoa.f at h
  split at h
  · rename_i hx
    cases h
    refine (Tryz.strconv_Itoa a0 hx.1 hx.2 w HE_.1).mono fun e w' ⟨he, k, os, hw⟩ => ⟨he, ?_⟩
    rw [hw]
    exact Lib.below_grow _ w (Nat.le_refl _) k os
  · cases h
def strings_Join.f (xs : List ByteArray) (sep : ByteArray) : Option ByteArray :=
  if xs ≠ [] ∧ xs.length ≤ 140737488355328 ∧ (Lib.join (xs.map (·.data.toList)) sep.data.toList).length ≤ 140737488355328 then some ⟨(Lib.join (xs.map (·.data.toList)) sep.data.toList).toArray⟩ else none
theorem strings_Join.calls (A0 : Option Addr) (c0 : Nat) (l0 : List ByteArray) (a1 : ByteArray) (r : ByteArray) (w : World) (hr0 : Kd.C Kd.string w A0 l0.length l0) (hc0 : l0.length ≤ c0) (h : strings_Join.f l0 a1 = some r) :
    Calls Tryz.prog 59 #[.slice A0 l0.length c0, .string a1] w fun e w' => e = .returned (.string r) ∧ Below w.heap.size w w' := by
  unfold strings_Join.f at h
  split at h
  · rename_i hx
    obtain ⟨h0, h1, h2⟩ := hx
    cases h
    have hpos : 0 < l0.length := List.length_pos_iff.2 h0
    obtain ⟨_, hn, hcell⟩ := hr0
    obtain ⟨ad, rfl, hall⟩ := hcell hpos
    have hc : ∀ (j : Nat) x, l0[j]? = some x → w.cell? (ad.add j) = some (.string x) := fun j x hj => by
      obtain ⟨c, hl, hk, hi⟩ := hall j x hj
      subst hk
      have := hi 0 _ rfl
      have e1 : j * Kd.string.sz + 0 = j := by show j * 1 + 0 = j; omega
      rw [e1] at this
      exact this
    have h0c := hc 0 (l0[0]) (List.getElem?_eq_getElem hpos)
    have hadd : ad.add 0 = ad := rfl
    rw [hadd] at h0c
    obtain ⟨bk, o, spot⟩ := ad
    have hspot : spot = none := by
      unfold World.cell? at h0c
      split at h0c
      · cases spot with
        | none => rfl
        | some s => simp at h0c
      · cases h0c
    subst hspot
    refine Tryz.strings_Join bk o c0 l0 a1 w (fun j x hj => ?_) (cell_lt h0c) h1 hc0 h2
    have := hc j x hj
    unfold Addr.add at this
    split at this
    · rename_i hj0
      subst hj0
      exact this
    · exact this
  · cases h
/-- The word of a row of the table (for the print: its walk is put in by hand). -/
def frame_word.f (k : Int) : Option ByteArray := if 0 ≤ k ∧ k < 9 then some ⟨(rowS k).word⟩ else none
theorem R_lit1 (W : World) (x : ByteArray) (base : Nat) (hb : base ≤ W.heap.size) : Kd.R Kd.string 9 (W.alloc (.cells #[.string x] 9)) base (fun _ => True) (.slice (some ⟨W.heap.size, 0, none⟩) 1 1) [x] := by
  refine ⟨fun _ _ => trivial, [.string x], ?_, Reps.one (show Kd.M Kd.string _ _ _ x [.string x] from rfl) (Reps.none _ _)⟩
  exact World.ownsRow_lit (base := base) (e := 9) (size := 1) W #[.string x] 1 hb (by decide) (by rfl)
end Go.Proofs.YtkohjcfmcliioaaGreatDoor
namespace Go.Proofs.YtkohjcfmcliioaaGreatDoor.ZX
open Go.Proofs.YtkohjcfmcliioaaGreatDoor.ZA (errW errW_none errW_some info9 S76 z76 k76 k76_open k76_mkM rd_T76 at_T76)
open Go.RowKit Go.Proofs.YtkohjcfmcliioaaGreatDoorW.PrintWords Go.Proofs.YtkohjcfmcliioaaGreatDoorW.PrintLast Go.Proofs.YtkohjcfmcliioaaGreatDoorW.PrintMore
attribute [local go_sem] max2_int min2_int max_two min_two max_three min_three max_four min_four   -- for this text's walks alone
set_option linter.unusedVariables false
set_option linter.unusedSimpArgs false
mutual
def frame_Text.j0 : Nat → List ByteArray → Int → Bool → Int → Int → List (S76) → Option (ByteArray × Int)
  | 0, _, _, _, _, _, _ => none
  | k + 1, x5, x102000, x102001, x102002, x102003, x102004 => (strconv_Itoa.f x102002).bind fun t110 => ((frame_marked.f t110 x102003).bind fun t111 => (if x5.length < 8796093022208 then (frame_Text.l0 k (x5 ++ [t111]) x102004 (x102004.length : Int) 0) else (none)))
def frame_Text.l0 : Nat → List ByteArray → List (S76) → Int → Int → Option (ByteArray × Int)
  | 0, _, _, _, _ => none
  | k + 1, x5, x34, x35, x36 => if x36 < x35 then (if 0 ≤ x36 then (if x36 < (x34.length : Int) then ((frame_marked.f ((rd_T76 x34 x36).f0) ((rd_T76 x34 x36).f1)).bind fun t117 => (if x5.length < 8796093022208 then (frame_Text.l0 k (x5 ++ [t117]) x34 x35 (wrap64 (x36 + 1))) else (none))) else (none)) else (none)) else ((strings_Join.f x5 (⟨#[32]⟩ : ByteArray)).bind fun t121 => (some (t121, 0)))
end
def frame_Text.f (k : Nat) (a0_0 : Int) (a0_1 : Bool) (a0_2 : Int) (a0_3 : Int) (l0_4 : List (S76)) : Option (ByteArray × Int) := (frame_Plain.f a0_0 a0_1 a0_2 a0_3 l0_4).bind fun t102 => (if t102 = 0 then ((frame_word.f a0_0).bind fun t103 => ((some (([t103] : List ByteArray) : List ByteArray)).bind fun y104 => (if a0_1 = true then (if y104.length < 8796093022208 then (frame_Text.j0 k (y104 ++ [(⟨#[100, 105, 115, 99]⟩ : ByteArray)]) a0_0 a0_1 a0_2 a0_3 l0_4) else (none)) else (frame_Text.j0 k y104 a0_0 a0_1 a0_2 a0_3 l0_4)))) else (some ((⟨#[]⟩ : ByteArray), t102)))
theorem frame_Text.mono_l : ∀ k, (∀ y0 y1 y2 y3 y4 y5, LeO (frame_Text.j0 k y0 y1 y2 y3 y4 y5) (frame_Text.j0 (k + 1) y0 y1 y2 y3 y4 y5)) ∧ (∀ y0 y1 y2 y3, LeO (frame_Text.l0 k y0 y1 y2 y3) (frame_Text.l0 (k + 1) y0 y1 y2 y3))
  | 0 => ⟨fun _ _ _ _ _ _ r h => by simp [frame_Text.j0] at h, fun _ _ _ _ r h => by simp [frame_Text.l0] at h⟩
  | k + 1 => by
    obtain ⟨ih0, ih1⟩ := frame_Text.mono_l k
    refine ⟨?_, ?_⟩
    · intro y0 y1 y2 y3 y4 y5
      unfold frame_Text.j0
      repeat' first
      | (with_reducible exact ih0 _ _ _ _ _ _)
      | (with_reducible exact ih1 _ _ _ _)
      | (with_reducible exact LeO.refl _)
      | (with_reducible exact LeO.none _)
      | (with_reducible refine LeO.ite ?_ ?_)
      | (with_reducible refine LeO.bind ?_ (fun _ => ?_))
      | exact ih0 _ _ _ _ _ _
      | exact ih1 _ _ _ _
      | exact LeO.none _
      | refine LeO.ite ?_ ?_
      | refine LeO.bind ?_ (fun _ => ?_)
    · intro y0 y1 y2 y3
      unfold frame_Text.l0
      repeat' first
      | (with_reducible exact ih0 _ _ _ _ _ _)
      | (with_reducible exact ih1 _ _ _ _)
      | (with_reducible exact LeO.refl _)
      | (with_reducible exact LeO.none _)
      | (with_reducible refine LeO.ite ?_ ?_)
      | (with_reducible refine LeO.bind ?_ (fun _ => ?_))
      | exact ih0 _ _ _ _ _ _
      | exact ih1 _ _ _ _
      | exact LeO.none _
      | refine LeO.ite ?_ ?_
      | refine LeO.bind ?_ (fun _ => ?_)
theorem frame_Text.mono : ∀ a0 a1 a2 a3 a4 k, LeO (frame_Text.f k a0 a1 a2 a3 a4) (frame_Text.f (k + 1) a0 a1 a2 a3 a4) := by
  intro a0 a1 a2 a3 a4 k
  obtain ⟨ih0, ih1⟩ := frame_Text.mono_l k
  unfold frame_Text.f
  repeat' first
      | (with_reducible exact ih0 _ _ _ _ _ _)
      | (with_reducible exact ih1 _ _ _ _)
      | (with_reducible exact LeO.refl _)
      | (with_reducible exact LeO.none _)
      | (with_reducible refine LeO.ite ?_ ?_)
      | (with_reducible refine LeO.bind ?_ (fun _ => ?_))
      | exact ih0 _ _ _ _ _ _
      | exact ih1 _ _ _ _
      | exact LeO.none _
      | refine LeO.ite ?_ ?_
      | refine LeO.bind ?_ (fun _ => ?_)
def frame_Text.T7 : Bool × List (List Nat × List Nat) := (true, [([], []), ([], []), ([1], [1]), ([2], [2]), ([], []), ([4], [4]), ([3, 5, 3], [3, 5]), ([6], [6]), ([0, 7, 6], [0, 7]), ([8, 8, 0, 1, 2, 3, 4, 5, 6, 7, 8], [0, 8])])
def frame_Text.B7 : List Nat := [0, 0, 2, 6, 0, 16, 62, 126, 255, 511]
theorem frame_Text.tab7 : rtab .any (opsOf Tryz.f23 7) = frame_Text.T7 := by kernel_rfl
theorem frame_Text.bits7 : waitsOk frame_Text.T7.2 frame_Text.B7 = true := by kernel_rfl
set_option maxHeartbeats 8000000 in
set_option maxRecDepth 100000 in
theorem frame_Text.calls (k : Nat) (a0_0 : Int) (a0_1 : Bool) (a0_2 : Int) (a0_3 : Int) (A0_4 : Option Addr) (c0_4 : Nat) (l0_4 : List (S76)) (r1 : ByteArray) (r2 : Int) (w : World) (hr0_4 : Kd.C k76 w A0_4 l0_4.length l0_4) (hc0_4 : l0_4.length ≤ c0_4) (h : frame_Text.f k a0_0 a0_1 a0_2 a0_3 l0_4 = some (r1, r2)) (HE_ : Env w) :
    Calls Tryz.prog 23 #[.agg #[.int .i64 a0_0, .bool a0_1, .int .i64 a0_2, .int .i64 a0_3, .slice A0_4 l0_4.length c0_4]] w fun e w' => e = .returned (.tuple #[.string r1, .int .i64 r2]) ∧ Below w.heap.size w w' := by
  have hu31 := Tryz.underlying31
  have hu76 := Tryz.underlying76
  have HR0_4 := Aside0.mk hr0_4
  have HC0_4 := Aside0.mk hc0_4
  clear hr0_4 hc0_4
  have ENV0 := Aside0.mk HE_
  clear HE_
  have HB := Aside0.mk (Below.refl w.heap.size w)
  have H : ((frame_Plain.f a0_0 a0_1 a0_2 a0_3 l0_4).bind fun t102 => (if t102 = 0 then ((frame_word.f a0_0).bind fun t103 => ((some (([t103] : List ByteArray) : List ByteArray)).bind fun y104 => (if a0_1 = true then (if y104.length < 8796093022208 then (frame_Text.j0 k (y104 ++ [(⟨#[100, 105, 115, 99]⟩ : ByteArray)]) a0_0 a0_1 a0_2 a0_3 l0_4) else (none)) else (frame_Text.j0 k y104 a0_0 a0_1 a0_2 a0_3 l0_4)))) else (some ((⟨#[]⟩ : ByteArray), t102)))) = some (r1, r2) := h
  clear h
  replace H := Option.bind_eq_some_iff.mp H
  obtain ⟨t102, A20, H⟩ := H
  replace H : (if t102 = 0 then ((frame_word.f a0_0).bind fun t103 => ((some (([t103] : List ByteArray) : List ByteArray)).bind fun y104 => (if a0_1 = true then (if y104.length < 8796093022208 then (frame_Text.j0 k (y104 ++ [(⟨#[100, 105, 115, 99]⟩ : ByteArray)]) a0_0 a0_1 a0_2 a0_3 l0_4) else (none)) else (frame_Text.j0 k y104 a0_0 a0_1 a0_2 a0_3 l0_4)))) else (some ((⟨#[]⟩ : ByteArray), t102))) = some (r1, r2) := H
  have A2 := Aside0.mk A20
  clear A20
  by_cases c3 : t102 = 0
  · rw [if_pos c3] at H
    have c3b0 : (t102 == 0) = true := beq_iff_eq.mpr c3
    have c3b1 : (t102 != 0) = false := bne_eq_false_iff_eq.mpr c3
    clear c3
    replace H := Option.bind_eq_some_iff.mp H
    obtain ⟨t103, A40, H⟩ := H
    replace H : ((some (([t103] : List ByteArray) : List ByteArray)).bind fun y104 => (if a0_1 = true then (if y104.length < 8796093022208 then (frame_Text.j0 k (y104 ++ [(⟨#[100, 105, 115, 99]⟩ : ByteArray)]) a0_0 a0_1 a0_2 a0_3 l0_4) else (none)) else (frame_Text.j0 k y104 a0_0 a0_1 a0_2 a0_3 l0_4))) = some (r1, r2) := H
    have A4 := Aside0.mk A40
    clear A40
    obtain ⟨y104, hy104⟩ : ∃ y_ : List ByteArray, y_ = (([t103] : List ByteArray)) := ⟨_, rfl⟩
    replace H : (if a0_1 = true then (if y104.length < 8796093022208 then (frame_Text.j0 k (y104 ++ [(⟨#[100, 105, 115, 99]⟩ : ByteArray)]) a0_0 a0_1 a0_2 a0_3 l0_4) else (none)) else (frame_Text.j0 k y104 a0_0 a0_1 a0_2 a0_3 l0_4)) = some (r1, r2) := by first | (rw [hy104]; with_reducible exact H) | (have H2_ := (Option.bind_some _ _).symm.trans H; rw [hy104]; with_reducible exact H2_) | (have H2_ := (Option.bind_some _ _).symm.trans H; with_reducible exact H2_) | with_reducible exact H | (rw [hy104]; exact H) | exact H
    have Ny104 := Aside0.mk hy104
    clear hy104
    have HC5 := Aside0.mk H
    clear H
    go_enter Tryz.func23, Tryz.ntmps23
    go_upto_region 4 with (first | ((with_reducible refine gate_dst (N := 1) rfl ?_); refine box_event ?hg (N := 1) ?hd (cs := #[.int .i64 a0_0, .bool a0_1, .int .i64 a0_2, .int .i64 a0_3, .slice A0_4 l0_4.length c0_4]) (t := 31) ?hr ?_; (case hd => rfl); (case hg => rfl); (case hr => first | (go_simp; done) | (go_simp; rfl)); intro gb101 hg w6 hbox hb; have n0_ := Aside0.mk (below_step (by repeat (first | (with_reducible first | exact HB.out | apply below_alloc | apply pw_below_drewN | apply below_drew1) | exact HB.out)) hb); have n1_ := Aside0.mk (hbox); have n2_ := Aside0.mk ((by rw [hg]; exact (below_size (by repeat (first | (with_reducible first | exact HB.out | apply below_alloc | apply pw_below_drewN | apply below_drew1) | exact HB.out))) : w.heap.size ≤ gb101)); have n3_ := Aside0.mk ((by rw [hg]; exact (below_size (by repeat (first | (with_reducible first | exact HB.out | apply below_alloc | apply pw_below_drewN | apply below_drew1) | exact HB.out))) : w.heap.size ≤ gb101)); clear HB; have HB := n0_; have BK101 := n1_; have GW101 := n2_; have GE101 := n3_; clear n0_ n1_ n2_ n3_; clear hb hbox hg; have hcz7_0 : w6.cell? ⟨gb101, 0, none⟩ = some (.int .i64 a0_0) := (blk_cell BK101.out 0).trans rfl; have hcz7_1 : w6.cell? ⟨gb101, 1, none⟩ = some (.bool a0_1) := (blk_cell BK101.out 1).trans rfl; have hcz7_2 : w6.cell? ⟨gb101, 2, none⟩ = some (.int .i64 a0_2) := (blk_cell BK101.out 2).trans rfl; have hcz7_3 : w6.cell? ⟨gb101, 3, none⟩ = some (.int .i64 a0_3) := (blk_cell BK101.out 3).trans rfl; have hcz7_4 : w6.cell? ⟨gb101, 4, none⟩ = some (.slice A0_4 l0_4.length c0_4) := (blk_cell BK101.out 4).trans rfl; have hfz7_0 := blk_frozen BK101.out 0; have hfz7_1 := blk_frozen BK101.out 1; have hfz7_2 := blk_frozen BK101.out 2; have hfz7_3 := blk_frozen BK101.out 3; have hfz7_4 := blk_frozen BK101.out 4) | ((with_reducible refine gate_callee (f := 15) rfl ?_); refine goesL_ (some 9) rfl rfl Tryz.func15 (by kernel_rfl) rfl #[.agg #[.int .i64 a0_0, .bool a0_1, .int .i64 a0_2, .int .i64 a0_3, .slice A0_4 l0_4.length c0_4]] rfl (by (try simp only [List.map_toArray, List.map_cons, List.map_nil]); first | done | rfl | (simp only [List.length_drop, List.length_take]; rfl)) ?_; (with_reducible refine (frame_Plain.calls a0_0 a0_1 a0_2 a0_3 _ _ l0_4 t102 _ ?side1 ?side2 A2.out).mono ?_); (case side1 => repeat (first | exact (Kd.C_below HR0_4.out HB.out) | (with_reducible refine Kd.C_alloc ?_ _) | (with_reducible refine Kd.C_drewN ?_ _) | (with_reducible refine Kd.C_drew ?_))); (case side2 => exact HC0_4.out); rintro e w8 ⟨rfl, hb⟩; refine ⟨_, rfl, ?_⟩; have n0_ := Aside0.mk (blk_below (g := gb101) (o := .cells #[.int .i64 a0_0, .bool a0_1, .int .i64 a0_2, .int .i64 a0_3, .slice A0_4 l0_4.length c0_4] 31 (0, 0)) (by (with_reducible repeat (first | refine blk_drewN ?_ _ | refine blk_drew ?_ | refine blk_alloc ?_ _)); exact BK101.out) hb); have n1_ := Aside0.mk (below_step (by repeat (first | (with_reducible first | exact HB.out | apply below_alloc | apply pw_below_drewN | apply below_drew1 | refine below_set ?_ GE101.out) | exact HB.out)) hb); clear BK101; clear HB; have BK101 := n0_; have HB := n1_; clear n0_ n1_; (try clear hb); (try clear hb2); (try clear hk); (try clear hi); have hcz9_0 : w8.cell? ⟨gb101, 0, none⟩ = some (.int .i64 a0_0) := (blk_cell BK101.out 0).trans rfl; have hcz9_1 : w8.cell? ⟨gb101, 1, none⟩ = some (.bool a0_1) := (blk_cell BK101.out 1).trans rfl; have hcz9_2 : w8.cell? ⟨gb101, 2, none⟩ = some (.int .i64 a0_2) := (blk_cell BK101.out 2).trans rfl; have hcz9_3 : w8.cell? ⟨gb101, 3, none⟩ = some (.int .i64 a0_3) := (blk_cell BK101.out 3).trans rfl; have hcz9_4 : w8.cell? ⟨gb101, 4, none⟩ = some (.slice A0_4 l0_4.length c0_4) := (blk_cell BK101.out 4).trans rfl; have hfz9_0 := blk_frozen BK101.out 0; have hfz9_1 := blk_frozen BK101.out 1; have hfz9_2 := blk_frozen BK101.out 2; have hfz9_3 := blk_frozen BK101.out 3; have hfz9_4 := blk_frozen BK101.out 4))
    have hwx := A4.out
    unfold frame_word.f at hwx
    split at hwx
    rotate_left
    · cases hwx
    rename_i hx9
    have hwr : t103 = ⟨(rowS a0_0).word⟩ := (Option.some.inj hwx).symm
    have hix := row_at a0_0 hx9.1 hx9.2
    have hRow : ∃ R : RowS, R = rowS a0_0 := ⟨_, rfl⟩
    obtain ⟨R, hR⟩ := hRow
    have hix2 : ∀ w, (Instr.index 81 (.agg rowsC.toArray) (.int .i64 a0_0)).run Tryz.prog w = .ok (.agg (RowS.cells R).toArray) w := by rw [hR]; exact hix
    have hfd : ∀ w, (Instr.field 80 (.agg (RowS.cells R).toArray) 0).run Tryz.prog w = .ok (.string ⟨R.word⟩) w := fun w => by kernel_rfl
    have HWR := Aside0.mk (show t103 = ⟨R.word⟩ by rw [hR]; exact hwr)
    clear hix hR hwx hwr hx9
    refine start_ (n := 7) (S := fun w' => w'.cell? ⟨gb101, 0, none⟩ = some (.int .i64 a0_0)) (ds := []) #[false, false, false, false, false, false, false] (by kernel_rfl) rfl rfl ?hS (fun hHeld => ?_)
    case hS => exact (blk_cell (blk_drew BK101.out) 0).trans rfl
    have n0_ := Aside0.mk (blk_drew BK101.out)
    have n1_ := Aside0.mk (below_drew1 HB.out)
    clear BK101 HB
    have BK101 := n0_
    have HB := n1_
    clear n0_ n1_
    generalize w8.drew = wq at BK101 HB hHeld ⊢
    refine pure_ (i := 1) (N := some 14) (v := ?_) (a' := ?_) #[false, true, false, false, false, false, false] rfl rfl (by kernel_rfl) (fun _ _ _ h => h) (Or.inl ⟨by rfl, ?_⟩) ?_ ?_
    rotate_left
    · intro w'
      go_simp
      with_reducible rfl
    rotate_left
    · simp only [Act.put, List.setIfInBounds_toArray, List.set_cons_zero, List.set_cons_succ, i64_w, i32_w]
      rfl
    refine take_ (i := 2) (N := some 15) (v := ?_) (a' := ?_) #[false, true, true, false, false, false, false] rfl rfl (by kernel_rfl) (fun _ _ _ h => h) (Or.inl ⟨by rfl, ?_⟩) hHeld ?_ ?_
    rotate_left
    · intro w' s0
      go_simp
      with_reducible rfl
    rotate_left
    · simp only [Act.put, List.setIfInBounds_toArray, List.set_cons_zero, List.set_cons_succ, i64_w, i32_w]
      rfl
    refine one_ (i := 0) (N := some 13) #[true, true, true, false, false, false, false] rfl rfl (by kernel_rfl) (by decide) (fun K hK => ?_)
    refine goes_ Tryz.func40 (by kernel_rfl) rfl #[] (by rfl) rfl rfl (by (try simp only [List.map_toArray, List.map_cons, List.map_nil]); first | done | rfl) ?_
    refine (rows_any wq).mono ?_
    rintro e wr ⟨rfl, hb⟩
    refine ⟨_, rfl, ?_⟩
    have n0_ := Aside0.mk (blk_below BK101.out hb)
    have n1_ := Aside0.mk (below_step HB.out hb)
    clear BK101 HB
    have BK101 := n0_
    have HB := n1_
    clear n0_ n1_
    refine hK.out _ _ ((hb.cell (World.block_lt_of_cell? _ _ hHeld)).trans hHeld) (fun hHeld => ?_)
    clear hK K
    clear hb
    refine norm_ (a' := ?_) ?_ ?_
    rotate_left
    · show Act.put _ (some 13) _ = _
      simp only [Act.put, List.setIfInBounds_toArray, List.set_cons_zero, List.set_cons_succ, i64_w, i32_w]
      rfl
    refine pure_ (i := 3) (N := some 16) (v := ?_) (a' := ?_) #[true, true, true, true, false, false, false] rfl rfl (by kernel_rfl) (fun _ _ _ h => h) (Or.inl ⟨by rfl, ?_⟩) ?_ ?_
    rotate_left
    · intro w'
      go_simp
      with_reducible rfl
    rotate_left
    · simp only [Act.put, List.setIfInBounds_toArray, List.set_cons_zero, List.set_cons_succ, i64_w, i32_w]
      rfl
    refine pure_ (i := 4) (N := some 17) (v := ?_) (a' := ?_) #[true, true, true, true, true, false, false] rfl rfl (by kernel_rfl) (fun _ _ _ h => h) (Or.inl ⟨by rfl, ?_⟩) ?_ ?_
    rotate_left
    · intro w'
      go_simp
      with_reducible rfl
    rotate_left
    · simp only [Act.put, List.setIfInBounds_toArray, List.set_cons_zero, List.set_cons_succ, i64_w, i32_w]
      rfl
    refine one_ (i := 5) (N := some 18) #[true, true, true, true, true, true, false] rfl rfl (by kernel_rfl) (by decide) (fun K hK => ?_)
    refine value_ (v := .slice (some ⟨wr.heap.size, 0, none⟩) 1 1) (w1 := wr.alloc (.cells #[.string ⟨R.word⟩] 9)) (by rfl) rfl (by kernel_rfl) ?_
    have HL := R_lit1 wr ⟨R.word⟩ w.heap.size (below_size HB.out)
    rw [← HWR.out] at HL ⊢
    rw [← Ny104.out] at HL
    have hba : Below wr.heap.size wr (wr.alloc (.cells #[.string t103] 9)) := (Below.refl _ _).alloc (Nat.le_refl _) _
    have n0_ := Aside0.mk (blk_below BK101.out hba)
    have n1_ := Aside0.mk (below_step HB.out hba)
    clear BK101 HB
    have BK101 := n0_
    have HB := n1_
    clear n0_ n1_
    have HO106 := Aside0.mk HL
    have hS5 := (hba.cell (World.block_lt_of_cell? _ _ hHeld)).trans hHeld
    clear HL hba
    obtain ⟨v105, hv_⟩ : ∃ v_ : Value, v_ = .slice (some ⟨wr.heap.size, 0, none⟩) 1 1 := ⟨_, rfl⟩
    rw [← hv_] at HO106 ⊢
    clear hv_
    generalize wr.alloc (.cells #[.string t103] 9) = w11 at BK101 HB HO106 hS5 ⊢
    refine hK.out _ _ hS5 (fun hHeld => ?_)
    clear hK K
    refine norm_ (a' := ?_) ?_ ?_
    rotate_left
    · show Act.put _ (some 18) _ = _
      simp only [Act.put, List.setIfInBounds_toArray, List.set_cons_zero, List.set_cons_succ, i64_w, i32_w]
      rfl
    refine pure_ (i := 6) (N := some 5) (v := ?_) (a' := ?_) #[true, true, true, true, true, true, true] rfl rfl (by kernel_rfl) (fun _ _ _ h => h) (Or.inl ⟨by rfl, ?_⟩) ?_ ?_
    rotate_left
    · intro w'
      go_simp
      with_reducible rfl
    rotate_left
    · simp only [Act.put, List.setIfInBounds_toArray, List.set_cons_zero, List.set_cons_succ, i64_w, i32_w]
      rfl
    refine done_ (by kernel_rfl) ?_
    have hcz13_0 : w11.cell? ⟨gb101, 0, none⟩ = some (.int .i64 a0_0) := (blk_cell BK101.out 0).trans rfl
    have hcz13_1 : w11.cell? ⟨gb101, 1, none⟩ = some (.bool a0_1) := (blk_cell BK101.out 1).trans rfl
    have hcz13_2 : w11.cell? ⟨gb101, 2, none⟩ = some (.int .i64 a0_2) := (blk_cell BK101.out 2).trans rfl
    have hcz13_3 : w11.cell? ⟨gb101, 3, none⟩ = some (.int .i64 a0_3) := (blk_cell BK101.out 3).trans rfl
    have hcz13_4 : w11.cell? ⟨gb101, 4, none⟩ = some (.slice A0_4 l0_4.length c0_4) := (blk_cell BK101.out 4).trans rfl
    have hfz13_0 := blk_frozen BK101.out 0
    have hfz13_1 := blk_frozen BK101.out 1
    have hfz13_2 := blk_frozen BK101.out 2
    have hfz13_3 := blk_frozen BK101.out 3
    have hfz13_4 := blk_frozen BK101.out 4
    go_upto_if 20 with fail
    (try simp only [Act.put, List.setIfInBounds_toArray, List.set_cons_zero, List.set_cons_succ])
    go_cut [5] (fun v5 wc => ∃ (kq : Nat) (x5_4 : List ByteArray), Aside0 (frame_Text.j0 kq x5_4 a0_0 a0_1 a0_2 a0_3 l0_4 = some (r1, r2)) ∧ Aside0 (kq ≤ k) ∧ Aside0 (Kd.R Kd.string 9 wc w.heap.size (fun _ => True) v5 x5_4) ∧ Aside0 (wc.heap[gb101]? = some (.cells #[.int .i64 a0_0, .bool a0_1, .int .i64 a0_2, .int .i64 a0_3, (.slice A0_4 l0_4.length c0_4)] 31 (0, 0))) ∧ Aside0 (Below w.heap.size w wc))
    case first =>
      have H := HC5.out
      clear HC5
      by_cases c14 : a0_1 = true
      · subst c14
        have H1 : (if y104.length < 8796093022208 then (frame_Text.j0 k (y104 ++ [(⟨#[100, 105, 115, 99]⟩ : ByteArray)]) a0_0 true a0_2 a0_3 l0_4) else (none)) = some (r1, r2) := by rw [if_pos rfl] at H; exact H
        clear H
        have H := H1
        clear H1
        by_cases c15 : y104.length < 8796093022208
        · rw [if_pos c15] at H
          have LMc15 := Aside0.mk c15
          clear c15
          obtain ⟨y107, hy107⟩ : ∃ y_ : List ByteArray, y_ = (y104 ++ [(⟨#[100, 105, 115, 99]⟩ : ByteArray)]) := ⟨_, rfl⟩
          replace H : (frame_Text.j0 k y107 a0_0 true a0_2 a0_3 l0_4) = some (r1, r2) := by first | (rw [hy107]; with_reducible exact H) | (have H2_ := (Option.bind_some _ _).symm.trans H; rw [hy107]; with_reducible exact H2_) | (have H2_ := (Option.bind_some _ _).symm.trans H; with_reducible exact H2_) | with_reducible exact H | (rw [hy107]; exact H) | exact H
          have Ny107 := Aside0.mk hy107
          clear hy107
          have H' := Aside0.mk H
          clear H
          go_wp2_with (first | ((with_reducible refine gate_builtin (b := .append) (xs := #[.tmp 21, .tmp 22]) rfl ?_); at_builtin; refine Kd.R_append Kd.string (w0 := w) w.heap.size rfl (.tmp 21) (.tmp 22) 63 9 (.string ⟨#[]⟩) 16 rfl Tryz.underlying63 info9 rfl (by decide) (by omega) v105 y104 (⟨#[100, 105, 115, 99]⟩ : ByteArray) [.string (⟨#[100, 105, 115, 99]⟩ : ByteArray)] (fun _ => True) (fun _ => False) rfl rfl ?aP (fun _ hk => hk.elim) ?aF ?aO ?aB ?aS ?aL ?_; (case aP => exact rfl); (case aB => exact (by repeat (first | (with_reducible first | exact HB.out | apply below_alloc | apply pw_below_drewN | apply below_drew1 | refine below_set ?_ GE101.out) | exact HB.out))); (case aF => exact (fun _ _ => trivial)); (case aO => exact (by (with_reducible repeat (first | apply Kd.R_alloc | apply Kd.R_drewN | apply Kd.R_drew)); exact HO106.out)); (case aS => exact (below_size (by repeat (first | (with_reducible first | exact HB.out | apply below_alloc | apply pw_below_drewN | apply below_drew1 | refine below_set ?_ GE101.out) | exact HB.out)))); (case aL => have := LMc15.out; omega); intro v108 w16 ho hb hg hat; rw [← Ny107.out] at ho; have n0_ := Aside0.mk (blk_grown (g := gb101) (o := .cells #[.int .i64 a0_0, .bool true, .int .i64 a0_2, .int .i64 a0_3, .slice A0_4 l0_4.length c0_4] 31 (0, 0)) (by (with_reducible repeat (first | refine blk_drewN ?_ _ | refine blk_drew ?_ | refine blk_alloc ?_ _)); exact BK101.out) hg (Kd.R_ne HO106.out BK101.out (by decide))); have n1_ := Aside0.mk (hb); have n2_ := Aside0.mk (ho); clear BK101; clear HB; clear HO106; have BK101 := n0_; have HB := n1_; have HO109 := n2_; clear n0_ n1_ n2_; clear ho hb hg hat))
          go_meet
          case rel => exact ⟨_, (y107), H', ⟨by first | omega | exact Nat.le_refl _⟩, ⟨by (with_reducible repeat (first | apply Kd.R_alloc | apply Kd.R_drewN | apply Kd.R_drew)); exact HO109.out⟩, ⟨by (with_reducible repeat (first | refine blk_drewN ?_ _ | refine blk_drew ?_ | refine blk_alloc ?_ _)); exact BK101.out⟩, ⟨by repeat (first | (with_reducible first | exact HB.out | apply below_alloc | apply pw_below_drewN | apply below_drew1 | refine below_set ?_ GE101.out) | exact HB.out)⟩⟩
        · rw [if_neg c15] at H
          exact absurd H (by simp)
      · replace c14 := Bool.eq_false_iff.mpr c14
        subst c14
        have H1 : (frame_Text.j0 k y104 a0_0 false a0_2 a0_3 l0_4) = some (r1, r2) := by rw [if_neg (show ¬ (false = true) by decide)] at H; exact H
        clear H
        have H := H1
        clear H1
        have H' := Aside0.mk H
        clear H
        go_wp2
        go_meet
        case rel => exact ⟨_, (y104), H', ⟨by first | omega | exact Nat.le_refl _⟩, ⟨by (with_reducible repeat (first | apply Kd.R_alloc | apply Kd.R_drewN | apply Kd.R_drew)); exact HO106.out⟩, ⟨by (with_reducible repeat (first | refine blk_drewN ?_ _ | refine blk_drew ?_ | refine blk_alloc ?_ _)); exact BK101.out⟩, ⟨by repeat (first | (with_reducible first | exact HB.out | apply below_alloc | apply pw_below_drewN | apply below_drew1 | refine below_set ?_ GE101.out) | exact HB.out)⟩⟩
    case rest =>
      clear HC5
      try clear c1
      try clear c2
      try clear p2
      try clear c3
      try clear c3b0
      try clear c3b1
      try clear c9
      try clear c14
      try clear c15
      try clear hcz13_0
      try clear hcz13_1
      try clear hcz13_2
      try clear hcz13_3
      try clear hcz13_4
      try clear hcz7_0
      try clear hcz7_1
      try clear hcz7_2
      try clear hcz7_3
      try clear hcz7_4
      try clear hcz9_0
      try clear hcz9_1
      try clear hcz9_2
      try clear hcz9_3
      try clear hcz9_4
      try clear hfz13_0
      try clear hfz13_1
      try clear hfz13_2
      try clear hfz13_3
      try clear hfz13_4
      try clear hfz7_0
      try clear hfz7_1
      try clear hfz7_2
      try clear hfz7_3
      try clear hfz7_4
      try clear hfz9_0
      try clear hfz9_1
      try clear hfz9_2
      try clear hfz9_3
      try clear hfz9_4
      obtain ⟨kq, x5_4, HA, HJ4, HO_5, BK101, HB⟩ := hcut
      cases kq with
      | zero => exact absurd HA.out (by simp [frame_Text.j0])
      | succ kj4 =>
        have H := HA.out
        clear HA
        simp only [frame_Text.j0] at H
        replace H := Option.bind_eq_some_iff.mp H
        obtain ⟨t110, A170, H⟩ := H
        replace H : ((frame_marked.f t110 a0_3).bind fun t111 => (if x5_4.length < 8796093022208 then (frame_Text.l0 kj4 (x5_4 ++ [t111]) l0_4 (l0_4.length : Int) 0) else (none))) = some (r1, r2) := H
        have A17 := Aside0.mk A170
        clear A170
        replace H := Option.bind_eq_some_iff.mp H
        obtain ⟨t111, A180, H⟩ := H
        replace H : (if x5_4.length < 8796093022208 then (frame_Text.l0 kj4 (x5_4 ++ [t111]) l0_4 (l0_4.length : Int) 0) else (none)) = some (r1, r2) := H
        have A18 := Aside0.mk A180
        clear A180
        by_cases c19 : x5_4.length < 8796093022208
        · rw [if_pos c19] at H
          have LMc19 := Aside0.mk c19
          clear c19
          obtain ⟨y112, hy112⟩ : ∃ y_ : List ByteArray, y_ = (x5_4 ++ [t111]) := ⟨_, rfl⟩
          replace H : (frame_Text.l0 kj4 y112 l0_4 (l0_4.length : Int) 0) = some (r1, r2) := by first | (rw [hy112]; with_reducible exact H) | (have H2_ := (Option.bind_some _ _).symm.trans H; rw [hy112]; with_reducible exact H2_) | (have H2_ := (Option.bind_some _ _).symm.trans H; with_reducible exact H2_) | with_reducible exact H | (rw [hy112]; exact H) | exact H
          have Ny112 := Aside0.mk hy112
          clear hy112
          have H' := Aside0.mk H
          clear H
          try go_wp2
          have n0_ := Aside0.mk (Kd.R_drew HO_5.out)
          have n1_ := Aside0.mk (blk_drew BK101.out)
          have n2_ := Aside0.mk (below_drew1 HB.out)
          clear HO_5
          clear BK101
          clear HB
          have HO_5 := n0_
          have BK101 := n1_
          have HB := n2_
          clear n0_ n1_ n2_
          refine start_ (n := 10) (S := fun w' => w'.cell? ⟨gb101, 0, none⟩ = some (.int .i64 a0_0) ∧ w'.cell? ⟨gb101, 1, none⟩ = some (.bool a0_1) ∧ w'.cell? ⟨gb101, 2, none⟩ = some (.int .i64 a0_2) ∧ w'.cell? ⟨gb101, 3, none⟩ = some (.int .i64 a0_3) ∧ w'.cell? ⟨gb101, 4, none⟩ = some (.slice A0_4 l0_4.length c0_4)) (ds := []) #[false, false, false, false, false, false, false, false, false, false] (by kernel_rfl) rfl rfl ⟨(blk_cell BK101.out 0).trans rfl, (blk_cell BK101.out 1).trans rfl, (blk_cell BK101.out 2).trans rfl, (blk_cell BK101.out 3).trans rfl, (blk_cell BK101.out 4).trans rfl⟩ (fun hHeld => ?_); refine with_tabW frame_Text.tab7 frame_Text.bits7 (fun HT_ HW_ => ?_)
          generalize wc.drew = w20 at HO_5 BK101 HB hHeld ⊢
          refine pure_ (i := 0) (N := some 24) (v := ?_) (a' := ?_) #[true, false, false, false, false, false, false, false, false, false] rfl rfl (any_of HT_.out (by kernel_rfl)) (fun _ _ _ h => h) (Or.inl ⟨by rfl, ?_⟩) ?_ ?_
          rotate_left
          · intro w'
            go_simp
            with_reducible rfl
          rotate_left
          · simp only [Act.put, List.setIfInBounds_toArray, List.set_cons_zero, List.set_cons_succ, i64_w, i32_w]
            rfl
          refine pure_ (i := 1) (N := some 25) (v := ?_) (a' := ?_) #[true, true, false, false, false, false, false, false, false, false] rfl rfl (any_of HT_.out (by kernel_rfl)) (fun _ _ _ h => h) (Or.inl ⟨by rfl, ?_⟩) ?_ ?_
          rotate_left
          · intro w'
            go_simp
            with_reducible rfl
          rotate_left
          · simp only [Act.put, List.setIfInBounds_toArray, List.set_cons_zero, List.set_cons_succ, i64_w, i32_w]
            rfl
          refine pure_ (i := 4) (N := some 28) (v := ?_) (a' := ?_) #[true, true, false, false, true, false, false, false, false, false] rfl rfl (any_of HT_.out (by kernel_rfl)) (fun _ _ _ h => h) (Or.inl ⟨by rfl, ?_⟩) ?_ ?_
          rotate_left
          · intro w'
            go_simp
            with_reducible rfl
          rotate_left
          · simp only [Act.put, List.setIfInBounds_toArray, List.set_cons_zero, List.set_cons_succ, i64_w, i32_w]
            rfl
          refine take_ (i := 2) (N := some 26) (v := ?_) (a' := ?_) #[true, true, true, false, true, false, false, false, false, false] rfl rfl (take_ofW HT_.out HW_.out (by kernel_rfl)) (fun _ _ _ h => h) (Or.inl ⟨by rfl, ?_⟩) hHeld ?_ ?_
          rotate_left
          · rintro w' ⟨s0, s1, s2, s3, s4⟩
            go_simp
            with_reducible rfl
          rotate_left
          · simp only [Act.put, List.setIfInBounds_toArray, List.set_cons_zero, List.set_cons_succ, i64_w, i32_w]
            rfl
          refine take_ (i := 5) (N := some 29) (v := ?_) (a' := ?_) #[true, true, true, false, true, true, false, false, false, false] rfl rfl (take_ofW HT_.out HW_.out (by kernel_rfl)) (fun _ _ _ h => h) (Or.inl ⟨by rfl, ?_⟩) hHeld ?_ ?_
          rotate_left
          · rintro w' ⟨s0, s1, s2, s3, s4⟩
            go_simp
            with_reducible rfl
          rotate_left
          · simp only [Act.put, List.setIfInBounds_toArray, List.set_cons_zero, List.set_cons_succ, i64_w, i32_w]
            rfl
          refine one_ (i := 3) (N := some 27) #[true, true, true, true, true, true, false, false, false, false] rfl rfl (one_of HT_.out (by kernel_rfl)) (by decide) (fun K hK => ?_)
          refine goes_ Tryz.func58 (by kernel_rfl) rfl #[.int .i64 a0_2] (by rfl) rfl rfl (by (try simp only [List.map_toArray, List.map_cons, List.map_nil]); first | done | rfl | (simp only [List.length_drop, List.length_take]; rfl)) ?_
          with_reducible refine (strconv_Itoa.calls a0_2 t110 _ A17.out (Env.below ENV0.out (by repeat (first | (with_reducible first | exact HB.out | apply below_alloc | apply pw_below_drewN | apply below_drew1) | exact HB.out)))).mono ?_
          rintro e w21 ⟨rfl, hb⟩
          refine ⟨_, rfl, ?_⟩
          have n0_ := Aside0.mk (Kd.R_below (by (with_reducible repeat (first | apply Kd.R_alloc | apply Kd.R_drewN | apply Kd.R_drew)); exact HO_5.out) hb)
          have n1_ := Aside0.mk (blk_below (g := gb101) (o := .cells #[.int .i64 a0_0, .bool a0_1, .int .i64 a0_2, .int .i64 a0_3, .slice A0_4 l0_4.length c0_4] 31 (0, 0)) (by (with_reducible repeat (first | refine blk_drewN ?_ _ | refine blk_drew ?_ | refine blk_alloc ?_ _)); exact BK101.out) hb)
          have n2_ := Aside0.mk (below_step (by repeat (first | (with_reducible first | exact HB.out | apply below_alloc | apply pw_below_drewN | apply below_drew1 | refine below_set ?_ GE101.out) | exact HB.out)) hb)
          clear HO_5
          clear BK101
          clear HB
          have HO_5 := n0_
          have BK101 := n1_
          have HB := n2_
          clear n0_ n1_ n2_
          (try clear hb)
          (try clear hb2)
          (try clear hk)
          (try clear hi)
          refine hK.out _ _ ⟨(blk_cell BK101.out 0).trans rfl, (blk_cell BK101.out 1).trans rfl, (blk_cell BK101.out 2).trans rfl, (blk_cell BK101.out 3).trans rfl, (blk_cell BK101.out 4).trans rfl⟩ (fun hHeld => ?_)
          clear hK K
          refine norm_ (a' := ?_) ?_ ?_
          rotate_left
          · show Act.put _ (some 27) _ = _
            simp only [Act.put, List.setIfInBounds_toArray, List.set_cons_zero, List.set_cons_succ, i64_w, i32_w]
            rfl
          refine one_ (i := 6) (N := some 30) #[true, true, true, true, true, true, true, false, false, false] rfl rfl (one_of HT_.out (by kernel_rfl)) (by decide) (fun K hK => ?_)
          refine goes_ Tryz.func57 (by kernel_rfl) rfl #[.string t110, .int .i64 a0_3] (by rfl) rfl rfl (by (try simp only [List.map_toArray, List.map_cons, List.map_nil]); first | done | rfl | (simp only [List.length_drop, List.length_take]; rfl)) ?_
          with_reducible refine (frame_marked.calls t110 a0_3 t111 _ A18.out).mono ?_
          rintro e w22 ⟨rfl, hb⟩
          refine ⟨_, rfl, ?_⟩
          have n0_ := Aside0.mk (Kd.R_below (by (with_reducible repeat (first | apply Kd.R_alloc | apply Kd.R_drewN | apply Kd.R_drew)); exact HO_5.out) hb)
          have n1_ := Aside0.mk (blk_below (g := gb101) (o := .cells #[.int .i64 a0_0, .bool a0_1, .int .i64 a0_2, .int .i64 a0_3, .slice A0_4 l0_4.length c0_4] 31 (0, 0)) (by (with_reducible repeat (first | refine blk_drewN ?_ _ | refine blk_drew ?_ | refine blk_alloc ?_ _)); exact BK101.out) hb)
          have n2_ := Aside0.mk (below_step (by repeat (first | (with_reducible first | exact HB.out | apply below_alloc | apply pw_below_drewN | apply below_drew1 | refine below_set ?_ GE101.out) | exact HB.out)) hb)
          clear HO_5
          clear BK101
          clear HB
          have HO_5 := n0_
          have BK101 := n1_
          have HB := n2_
          clear n0_ n1_ n2_
          (try clear hb)
          (try clear hb2)
          (try clear hk)
          (try clear hi)
          refine hK.out _ _ ⟨(blk_cell BK101.out 0).trans rfl, (blk_cell BK101.out 1).trans rfl, (blk_cell BK101.out 2).trans rfl, (blk_cell BK101.out 3).trans rfl, (blk_cell BK101.out 4).trans rfl⟩ (fun hHeld => ?_)
          clear hK K
          refine norm_ (a' := ?_) ?_ ?_
          rotate_left
          · show Act.put _ (some 30) _ = _
            simp only [Act.put, List.setIfInBounds_toArray, List.set_cons_zero, List.set_cons_succ, i64_w, i32_w]
            rfl
          refine one_ (i := 7) (N := some 31) #[true, true, true, true, true, true, true, true, false, false] rfl rfl (one_of HT_.out (by kernel_rfl)) (by decide) (fun K hK => ?_)
          refine value_ (w1 := ?_) (v := ?_) (by rfl) rfl ?_ ?_
          rotate_left 2
          · go_simp
            constructor
            · rfl
            · rfl
          refine hK.out _ _ ⟨(blk_cell (blk_alloc BK101.out _) 0).trans rfl, (blk_cell (blk_alloc BK101.out _) 1).trans rfl, (blk_cell (blk_alloc BK101.out _) 2).trans rfl, (blk_cell (blk_alloc BK101.out _) 3).trans rfl, (blk_cell (blk_alloc BK101.out _) 4).trans rfl⟩ (fun hHeld => ?_)
          clear hK K
          refine norm_ (a' := ?_) ?_ ?_
          rotate_left
          · show Act.put _ (some 31) _ = _
            simp only [Act.put, List.setIfInBounds_toArray, List.set_cons_zero, List.set_cons_succ, i64_w, i32_w]
            rfl
          refine one_ (i := 8) (N := some 32) #[true, true, true, true, true, true, true, true, true, false] rfl rfl (one_of HT_.out (by kernel_rfl)) (by decide) (fun K hK => ?_)
          refine Kd.R_append_step Kd.string (w0 := w) w.heap.size (by rfl) (.tmp 24) (.tmp 31) 63 9 (.string ⟨#[]⟩) 16 rfl Tryz.underlying63 info9 rfl (by decide) (by omega) u5 x5_4 t111 [.string t111] (fun _ => True) (fun _ => False) rfl rfl ?aP (fun _ hk => hk.elim) ?aF ?aO ?aB ?aS ?aL ?_
          (case aP => exact rfl)
          (case aB => exact (by repeat (first | (with_reducible first | exact HB.out | apply below_alloc | apply pw_below_drewN | apply below_drew1 | refine below_set ?_ GE101.out) | exact HB.out)))
          (case aF => exact (fun _ _ => trivial))
          (case aO => exact (by (with_reducible repeat (first | apply Kd.R_alloc | apply Kd.R_drewN | apply Kd.R_drew)); exact HO_5.out))
          (case aS => exact (below_size (by repeat (first | (with_reducible first | exact HB.out | apply below_alloc | apply pw_below_drewN | apply below_drew1 | refine below_set ?_ GE101.out) | exact HB.out))))
          (case aL => have := LMc19.out; omega)
          intro v113 w23 ho hb hg hat
          rw [← Ny112.out] at ho
          have n0_ := Aside0.mk (blk_grown (g := gb101) (o := .cells #[.int .i64 a0_0, .bool a0_1, .int .i64 a0_2, .int .i64 a0_3, .slice A0_4 l0_4.length c0_4] 31 (0, 0)) (by (with_reducible repeat (first | refine blk_drewN ?_ _ | refine blk_drew ?_ | refine blk_alloc ?_ _)); exact BK101.out) hg (Kd.R_ne HO_5.out BK101.out (by decide)))
          have n1_ := Aside0.mk (hb)
          have n2_ := Aside0.mk (ho)
          clear BK101
          clear HB
          clear HO_5
          have BK101 := n0_
          have HB := n1_
          have HO114 := n2_
          clear n0_ n1_ n2_
          clear ho hb hg hat
          refine hK.out _ _ ⟨(blk_cell BK101.out 0).trans rfl, (blk_cell BK101.out 1).trans rfl, (blk_cell BK101.out 2).trans rfl, (blk_cell BK101.out 3).trans rfl, (blk_cell BK101.out 4).trans rfl⟩ (fun hHeld => ?_)
          clear hK K
          refine norm_ (a' := ?_) ?_ ?_
          rotate_left
          · show Act.put _ (some 32) _ = _
            simp only [Act.put, List.setIfInBounds_toArray, List.set_cons_zero, List.set_cons_succ, i64_w, i32_w]
            rfl
          refine pure_ (i := 9) (N := some 5) (v := ?_) (a' := ?_) #[true, true, true, true, true, true, true, true, true, true] rfl rfl (any_of HT_.out (by kernel_rfl)) (fun _ _ _ h => h) (Or.inl ⟨by rfl, ?_⟩) ?_ ?_
          rotate_left
          · intro w'
            go_simp
            with_reducible rfl
          rotate_left
          · simp only [Act.put, List.setIfInBounds_toArray, List.set_cons_zero, List.set_cons_succ, i64_w, i32_w]
            rfl
          refine done_ (done_of HT_.out (by kernel_rfl)) ?_
          have hcz24_0 : w23.cell? ⟨gb101, 0, none⟩ = some (.int .i64 a0_0) := (blk_cell BK101.out 0).trans rfl
          have hcz24_1 : w23.cell? ⟨gb101, 1, none⟩ = some (.bool a0_1) := (blk_cell BK101.out 1).trans rfl
          have hcz24_2 : w23.cell? ⟨gb101, 2, none⟩ = some (.int .i64 a0_2) := (blk_cell BK101.out 2).trans rfl
          have hcz24_3 : w23.cell? ⟨gb101, 3, none⟩ = some (.int .i64 a0_3) := (blk_cell BK101.out 3).trans rfl
          have hcz24_4 : w23.cell? ⟨gb101, 4, none⟩ = some (.slice A0_4 l0_4.length c0_4) := (blk_cell BK101.out 4).trans rfl
          have hfz24_0 := blk_frozen BK101.out 0
          have hfz24_1 := blk_frozen BK101.out 1
          have hfz24_2 := blk_frozen BK101.out 2
          have hfz24_3 := blk_frozen BK101.out 3
          have hfz24_4 := blk_frozen BK101.out 4
          try go_wp2
          go_loopg [5, 36] kj4 (fun kq v5 v36 w' => ∃ (x5_2 : List ByteArray) (x36_2 : Int), v36 = .int .i64 x36_2 ∧ Aside0 (frame_Text.l0 kq x5_2 l0_4 (l0_4.length : Int) x36_2 = some (r1, r2)) ∧ Aside0 (kq ≤ kj4) ∧ Aside0 (Kd.R Kd.string 9 w' w.heap.size (fun _ => True) v5 x5_2) ∧ Aside0 (w'.heap[gb101]? = some (.cells #[.int .i64 a0_0, .bool a0_1, .int .i64 a0_2, .int .i64 a0_3, (.slice A0_4 l0_4.length c0_4)] 31 (0, 0))) ∧ Aside0 (Below w.heap.size w w'))
          case atStart => exact ⟨(y112), (0), (by first | rfl | exact congrArg Value.bool (not_empty _) | exact congrArg Value.bool (is_empty _) | (simp; done) | (simp [*]; done)), H', ⟨Nat.le_refl _⟩, ⟨by (with_reducible repeat (first | apply Kd.R_alloc | apply Kd.R_drewN | apply Kd.R_drew)); exact HO114.out⟩, ⟨by (with_reducible repeat (first | refine blk_drewN ?_ _ | refine blk_drew ?_ | refine blk_alloc ?_ _)); exact BK101.out⟩, ⟨by repeat (first | (with_reducible first | exact HB.out | apply below_alloc | apply pw_below_drewN | apply below_drew1 | refine below_set ?_ GE101.out) | exact HB.out)⟩⟩
          case round =>
            clear H'
            try clear c1
            try clear c2
            try clear p2
            try clear c3
            try clear c3b0
            try clear c3b1
            try clear c5
            try clear c9
            try clear c14
            try clear c15
            try clear c19
            try clear c23
            try clear hcz13_0
            try clear hcz13_1
            try clear hcz13_2
            try clear hcz13_3
            try clear hcz13_4
            try clear hcz24_0
            try clear hcz24_1
            try clear hcz24_2
            try clear hcz24_3
            try clear hcz24_4
            try clear hcz7_0
            try clear hcz7_1
            try clear hcz7_2
            try clear hcz7_3
            try clear hcz7_4
            try clear hcz9_0
            try clear hcz9_1
            try clear hcz9_2
            try clear hcz9_3
            try clear hcz9_4
            try clear hfz13_0
            try clear hfz13_1
            try clear hfz13_2
            try clear hfz13_3
            try clear hfz13_4
            try clear hfz24_0
            try clear hfz24_1
            try clear hfz24_2
            try clear hfz24_3
            try clear hfz24_4
            try clear hfz7_0
            try clear hfz7_1
            try clear hfz7_2
            try clear hfz7_3
            try clear hfz7_4
            try clear hfz9_0
            try clear hfz9_1
            try clear hfz9_2
            try clear hfz9_3
            try clear hfz9_4
            try clear p2
            obtain ⟨x5_2, x36_2, rfl, HA, HK2, HO_5, BK101, HB⟩ := hrel
            cases gk with
            | zero => exact absurd HA.out (by simp [frame_Text.l0])
            | succ k2 =>
              have H := HA.out
              clear HA
              simp only [frame_Text.l0] at H
              by_cases c25 : x36_2 < (l0_4.length : Int)
              · rw [if_pos c25] at H
                have c25b0 : decide (x36_2 < (l0_4.length : Int)) = true := decide_eq_true c25
                clear c25
                by_cases c26 : 0 ≤ x36_2
                · rw [if_pos c26] at H
                  have c26b0 : decide (0 ≤ x36_2) = true := decide_eq_true c26
                  clear c26
                  by_cases c27 : x36_2 < (l0_4.length : Int)
                  · rw [if_pos c27] at H
                    have c27b0 : decide (x36_2 < (l0_4.length : Int)) = true := decide_eq_true c27
                    clear c27
                    replace H := Option.bind_eq_some_iff.mp H
                    obtain ⟨t117, A280, H⟩ := H
                    replace H : (if x5_2.length < 8796093022208 then (frame_Text.l0 k2 (x5_2 ++ [t117]) l0_4 (l0_4.length : Int) (wrap64 (x36_2 + 1))) else (none)) = some (r1, r2) := H
                    have A28 := Aside0.mk A280
                    clear A280
                    by_cases c29 : x5_2.length < 8796093022208
                    · rw [if_pos c29] at H
                      have LMc29 := Aside0.mk c29
                      clear c29
                      obtain ⟨y118, hy118⟩ : ∃ y_ : List ByteArray, y_ = (x5_2 ++ [t117]) := ⟨_, rfl⟩
                      replace H : (frame_Text.l0 k2 y118 l0_4 (l0_4.length : Int) (wrap64 (x36_2 + 1))) = some (r1, r2) := by first | (rw [hy118]; with_reducible exact H) | (have H2_ := (Option.bind_some _ _).symm.trans H; rw [hy118]; with_reducible exact H2_) | (have H2_ := (Option.bind_some _ _).symm.trans H; with_reducible exact H2_) | with_reducible exact H | (rw [hy118]; exact H) | exact H
                      have Ny118 := Aside0.mk hy118
                      clear hy118
                      have H' := Aside0.mk H
                      clear H
                      have p115 : 0 ≤ (x36_2 : Int) := of_decide_eq_true (by first | (with_reducible assumption) | assumption)
                      have q115 : x36_2 < (l0_4.length : Int) := of_decide_eq_true (by first | (with_reducible assumption) | assumption)
                      obtain ⟨ad115, e115, hx115_0, hx115_1⟩ := at_T76 HR0_4.out x36_2 p115 q115
                      cases e115
                      replace hx115_0 := (HB.out.cell (World.block_lt_of_cell? w _ hx115_0)).trans hx115_0
                      replace hx115_1 := (HB.out.cell (World.block_lt_of_cell? w _ hx115_1)).trans hx115_1
                      replace p115 := eq_true p115
                      replace q115 := eq_true q115
                      go_wp2_with (first | ((with_reducible refine gate_dst (N := 7) rfl ?_); refine box_event ?hg (N := 7) ?hd (cs := #[.string (⟨#[]⟩ : ByteArray), .int .i64 0]) (t := 76) ?hr ?_; (case hd => rfl); (case hg => rfl); (case hr => first | (go_simp; done) | (go_simp; rfl)); intro gb116 hg w30 hbox hb; have n0_ := Aside0.mk (Kd.R_below (by (with_reducible repeat (first | apply Kd.R_alloc | apply Kd.R_drewN | apply Kd.R_drew)); exact HO_5.out) hb); have n1_ := Aside0.mk (blk_below (g := gb101) (o := .cells #[.int .i64 a0_0, .bool a0_1, .int .i64 a0_2, .int .i64 a0_3, .slice (some ad115) l0_4.length c0_4] 31 (0, 0)) (by (with_reducible repeat (first | refine blk_drewN ?_ _ | refine blk_drew ?_ | refine blk_alloc ?_ _)); exact BK101.out) hb); have n2_ := Aside0.mk (below_step (by repeat (first | (with_reducible first | exact HB.out | apply below_alloc | apply pw_below_drewN | apply below_drew1 | refine below_set ?_ GE101.out) | exact HB.out)) hb); have n3_ := Aside0.mk (hbox); have n4_ := Aside0.mk ((by rw [hg]; exact (below_size (by repeat (first | (with_reducible first | exact HB.out | apply below_alloc | apply pw_below_drewN | apply below_drew1 | refine below_set ?_ GE101.out) | exact HB.out))) : w.heap.size ≤ gb116)); have n5_ := Aside0.mk ((by rw [hg]; exact (below_size (by repeat (first | (with_reducible first | exact HB.out | apply below_alloc | apply pw_below_drewN | apply below_drew1 | refine below_set ?_ GE101.out) | exact HB.out))) : w.heap.size ≤ gb116)); have n6_ := Aside0.mk ((by rw [hg]; exact Nat.ne_of_lt (blk_lt (g := gb101) (o := .cells #[.int .i64 a0_0, .bool a0_1, .int .i64 a0_2, .int .i64 a0_3, .slice (some ad115) l0_4.length c0_4] 31 (0, 0)) (by (with_reducible repeat (first | refine blk_drewN ?_ _ | refine blk_drew ?_ | refine blk_alloc ?_ _)); exact BK101.out)) : gb101 ≠ gb116)); have n7_ := Aside0.mk ((by rw [hg]; exact Nat.ne_of_gt (blk_lt (g := gb101) (o := .cells #[.int .i64 a0_0, .bool a0_1, .int .i64 a0_2, .int .i64 a0_3, .slice (some ad115) l0_4.length c0_4] 31 (0, 0)) (by (with_reducible repeat (first | refine blk_drewN ?_ _ | refine blk_drew ?_ | refine blk_alloc ?_ _)); exact BK101.out)) : gb116 ≠ gb101)); clear HO_5; clear BK101; clear HB; have HO_5 := n0_; have BK101 := n1_; have HB := n2_; have BK116 := n3_; have GW116 := n4_; have GE116 := n5_; have NB101_116 := n6_; have NB116_101 := n7_; clear n0_ n1_ n2_ n3_ n4_ n5_ n6_ n7_; clear hb hbox hg; have hnb31 := NB116_101.out; have hnc31 := NB101_116.out; have hcz32_0 : w30.cell? ⟨gb116, 0, none⟩ = some (.string (⟨#[]⟩ : ByteArray)) := (blk_cell BK116.out 0).trans rfl; have hcz32_1 : w30.cell? ⟨gb116, 1, none⟩ = some (.int .i64 0) := (blk_cell BK116.out 1).trans rfl; have hfz32_0 := blk_frozen BK116.out 0; have hfz32_1 := blk_frozen BK116.out 1) | ((with_reducible refine gate_callee (f := 57) rfl ?_); refine goesL_ (some 45) rfl rfl Tryz.func57 (by kernel_rfl) rfl #[.string ((rd_T76 l0_4 x36_2).f0), .int .i64 ((rd_T76 l0_4 x36_2).f1)] rfl (by (try simp only [List.map_toArray, List.map_cons, List.map_nil]); first | done | rfl | (simp only [List.length_drop, List.length_take]; rfl)) ?_; (with_reducible refine (frame_marked.calls ((rd_T76 l0_4 x36_2).f0) ((rd_T76 l0_4 x36_2).f1) t117 _ A28.out).mono ?_); rintro e w33 ⟨rfl, hb⟩; refine ⟨_, rfl, ?_⟩; have n0_ := Aside0.mk (Kd.R_below (by (with_reducible repeat (first | apply Kd.R_alloc | apply Kd.R_drewN | apply Kd.R_drew)); exact (Kd.R_mono (Kd.R_far (p := ⟨gb116, 1, none⟩) (Kd.R_far (p := ⟨gb116, 0, none⟩) (Kd.R_types HO_5.out BK116.out (by decide)) (fun _ hk => hk.2) (.string ((rd_T76 l0_4 x36_2).f0))) (fun _ hk => hk.2) (.int .i64 ((rd_T76 l0_4 x36_2).f1))) (fun _ h_ => h_.1))) hb); have n1_ := Aside0.mk (blk_below (g := gb101) (o := .cells #[.int .i64 a0_0, .bool a0_1, .int .i64 a0_2, .int .i64 a0_3, .slice (some ad115) l0_4.length c0_4] 31 (0, 0)) (by (with_reducible repeat (first | refine blk_drewN ?_ _ | refine blk_drew ?_ | refine blk_alloc ?_ _)); refine blk_far ?_ NB101_116.out _; (with_reducible repeat (first | refine blk_drewN ?_ _ | refine blk_drew ?_ | refine blk_alloc ?_ _)); refine blk_far ?_ NB101_116.out _; (with_reducible repeat (first | refine blk_drewN ?_ _ | refine blk_drew ?_ | refine blk_alloc ?_ _)); exact BK101.out) hb); have n2_ := Aside0.mk (blk_below (g := gb116) (o := .cells #[.string ((rd_T76 l0_4 x36_2).f0), .int .i64 ((rd_T76 l0_4 x36_2).f1)] 76 (0, 0)) (by (with_reducible repeat (first | refine blk_drewN ?_ _ | refine blk_drew ?_ | refine blk_alloc ?_ _)); refine blk_put (cs := #[.string ((rd_T76 l0_4 x36_2).f0), .int .i64 0]) ?_ 1 _ rfl; (with_reducible repeat (first | refine blk_drewN ?_ _ | refine blk_drew ?_ | refine blk_alloc ?_ _)); refine blk_put (cs := #[.string (⟨#[]⟩ : ByteArray), .int .i64 0]) ?_ 0 _ rfl; (with_reducible repeat (first | refine blk_drewN ?_ _ | refine blk_drew ?_ | refine blk_alloc ?_ _)); exact BK116.out) hb); have n3_ := Aside0.mk (below_step (by repeat (first | (with_reducible first | exact HB.out | apply below_alloc | apply pw_below_drewN | apply below_drew1 | refine below_set ?_ GE101.out | refine below_set ?_ GE116.out) | exact HB.out)) hb); clear HO_5; clear BK101; clear BK116; clear HB; have HO_5 := n0_; have BK101 := n1_; have BK116 := n2_; have HB := n3_; clear n0_ n1_ n2_ n3_; (try clear hb); (try clear hb2); (try clear hk); (try clear hi)) | ((with_reducible refine gate_builtin (b := .append) (xs := #[.tmp 40, .tmp 46]) rfl ?_); at_builtin; refine Kd.R_append Kd.string (w0 := w) w.heap.size rfl (.tmp 40) (.tmp 46) 63 9 (.string ⟨#[]⟩) 16 rfl Tryz.underlying63 info9 rfl (by decide) (by omega) u5 x5_2 t117 [.string t117] (fun _ => True) (fun _ => False) rfl rfl ?aP (fun _ hk => hk.elim) ?aF ?aO ?aB ?aS ?aL ?_; (case aP => exact rfl); (case aB => exact (by repeat (first | (with_reducible first | exact HB.out | apply below_alloc | apply pw_below_drewN | apply below_drew1 | refine below_set ?_ GE101.out | refine below_set ?_ GE116.out) | exact HB.out))); (case aF => exact (fun _ _ => trivial)); (case aO => exact (by (with_reducible repeat (first | apply Kd.R_alloc | apply Kd.R_drewN | apply Kd.R_drew)); exact HO_5.out)); (case aS => exact (below_size (by repeat (first | (with_reducible first | exact HB.out | apply below_alloc | apply pw_below_drewN | apply below_drew1 | refine below_set ?_ GE101.out | refine below_set ?_ GE116.out) | exact HB.out)))); (case aL => have := LMc29.out; omega); intro v119 w34 ho hb hg hat; rw [← Ny118.out] at ho; have n0_ := Aside0.mk (blk_grown (g := gb101) (o := .cells #[.int .i64 a0_0, .bool a0_1, .int .i64 a0_2, .int .i64 a0_3, .slice (some ad115) l0_4.length c0_4] 31 (0, 0)) (by (with_reducible repeat (first | refine blk_drewN ?_ _ | refine blk_drew ?_ | refine blk_alloc ?_ _)); exact BK101.out) hg (Kd.R_ne HO_5.out BK101.out (by decide))); have n1_ := Aside0.mk (blk_grown (g := gb116) (o := .cells #[.string ((rd_T76 l0_4 x36_2).f0), .int .i64 ((rd_T76 l0_4 x36_2).f1)] 76 (0, 0)) (by (with_reducible repeat (first | refine blk_drewN ?_ _ | refine blk_drew ?_ | refine blk_alloc ?_ _)); exact BK116.out) hg (Kd.R_ne HO_5.out BK116.out (by decide))); have n2_ := Aside0.mk (hb); have n3_ := Aside0.mk (ho); clear BK101; clear BK116; clear HB; clear HO_5; have BK101 := n0_; have BK116 := n1_; have HB := n2_; have HO120 := n3_; clear n0_ n1_ n2_ n3_; clear ho hb hg hat))
                      go_roundg k2
                      case measure => have := HJ4.out; have := HK2.out; omega
                      case rel => exact ⟨(y118), (wrap64 (x36_2 + 1)), (by first | rfl | exact congrArg Value.bool (not_empty _) | exact congrArg Value.bool (is_empty _) | (simp; done) | (simp [*]; done)), H', ⟨by have := HJ4.out; have := HK2.out; omega⟩, ⟨by (with_reducible repeat (first | apply Kd.R_alloc | apply Kd.R_drewN | apply Kd.R_drew)); exact HO120.out⟩, ⟨by (with_reducible repeat (first | refine blk_drewN ?_ _ | refine blk_drew ?_ | refine blk_alloc ?_ _)); exact BK101.out⟩, ⟨by repeat (first | (with_reducible first | exact HB.out | apply below_alloc | apply pw_below_drewN | apply below_drew1 | refine below_set ?_ GE101.out | refine below_set ?_ GE116.out) | exact HB.out)⟩⟩
                    · rw [if_neg c29] at H
                      exact absurd H (by simp)
                  · rw [if_neg c27] at H
                    exact absurd H (by simp)
                · rw [if_neg c26] at H
                  exact absurd H (by simp)
              · rw [if_neg c25] at H
                have c25b0 : decide (x36_2 < (l0_4.length : Int)) = false := decide_eq_false c25
                clear c25
                replace H := Option.bind_eq_some_iff.mp H
                obtain ⟨t121, A350, H⟩ := H
                replace H : (some (t121, 0)) = some (r1, r2) := H
                have A35 := Aside0.mk A350
                clear A350
                simp only [Option.some.injEq, Prod.mk.injEq] at H
                obtain ⟨rfl, rfl⟩ := H
                obtain ⟨Ao36, co36, eo36⟩ := Kd.R_slice HO_5.out
                subst eo36
                go_wp2_with (first | ((with_reducible refine gate_callee (f := 59) rfl ?_); refine goesL_ (some 50) rfl rfl Tryz.func59 (by kernel_rfl) rfl #[.slice Ao36 x5_2.length co36, .string (⟨#[32]⟩ : ByteArray)] rfl (by (try simp only [List.map_toArray, List.map_cons, List.map_nil]); first | done | rfl | (simp only [List.length_drop, List.length_take]; rfl)) ?_; (with_reducible refine (strings_Join.calls _ _ x5_2 (⟨#[32]⟩ : ByteArray) t121 _ ?side1 ?side2 A35.out).mono ?_); (case side1 => repeat (first | exact (Kd.R_reads' HO_5.out).2.2 | (with_reducible refine Kd.C_alloc ?_ _) | (with_reducible refine Kd.C_drewN ?_ _) | (with_reducible refine Kd.C_drew ?_))); (case side2 => exact (Kd.R_reads' HO_5.out).2.1); rintro e w37 ⟨rfl, hb⟩; refine ⟨_, rfl, ?_⟩; have n0_ := Aside0.mk (Kd.R_below (by (with_reducible repeat (first | apply Kd.R_alloc | apply Kd.R_drewN | apply Kd.R_drew)); exact HO_5.out) hb); have n1_ := Aside0.mk (blk_below (g := gb101) (o := .cells #[.int .i64 a0_0, .bool a0_1, .int .i64 a0_2, .int .i64 a0_3, .slice A0_4 l0_4.length c0_4] 31 (0, 0)) (by (with_reducible repeat (first | refine blk_drewN ?_ _ | refine blk_drew ?_ | refine blk_alloc ?_ _)); exact BK101.out) hb); have n2_ := Aside0.mk (below_step (by repeat (first | (with_reducible first | exact HB.out | apply below_alloc | apply pw_below_drewN | apply below_drew1 | refine below_set ?_ GE101.out) | exact HB.out)) hb); clear HO_5; clear BK101; clear HB; have HO_5 := n0_; have BK101 := n1_; have HB := n2_; clear n0_ n1_ n2_; (try clear hb); (try clear hb2); (try clear hk); (try clear hi)))
                go_ret2
                exact ⟨by first | rfl | (simp [errW_none, errW_some] <;> rfl) | (simp [*, errW_none, errW_some] <;> rfl), by repeat (first | (with_reducible first | exact HB.out | apply below_alloc | apply pw_below_drewN | apply below_drew1 | refine below_set ?_ GE101.out) | exact HB.out)⟩
        · rw [if_neg c19] at H
          exact absurd H (by simp)
  · rw [if_neg c3] at H
    have c3b0 : (t102 == 0) = false := beq_eq_false_iff_ne.mpr c3
    have c3b1 : (t102 != 0) = true := bne_iff_ne.mpr c3
    simp only [Option.some.injEq, Prod.mk.injEq] at H
    obtain ⟨rfl, rfl⟩ := H
    go_enter Tryz.func23, Tryz.ntmps23
    go_wp2_with (first | ((with_reducible refine gate_dst (N := 1) rfl ?_); refine box_event ?hg (N := 1) ?hd (cs := #[.int .i64 a0_0, .bool a0_1, .int .i64 a0_2, .int .i64 a0_3, .slice A0_4 l0_4.length c0_4]) (t := 31) ?hr ?_; (case hd => rfl); (case hg => rfl); (case hr => first | (go_simp; done) | (go_simp; rfl)); intro gb101 hg w38 hbox hb; have n0_ := Aside0.mk (below_step (by repeat (first | (with_reducible first | exact HB.out | apply below_alloc | apply pw_below_drewN | apply below_drew1) | exact HB.out)) hb); have n1_ := Aside0.mk (hbox); have n2_ := Aside0.mk ((by rw [hg]; exact (below_size (by repeat (first | (with_reducible first | exact HB.out | apply below_alloc | apply pw_below_drewN | apply below_drew1) | exact HB.out))) : w.heap.size ≤ gb101)); have n3_ := Aside0.mk ((by rw [hg]; exact (below_size (by repeat (first | (with_reducible first | exact HB.out | apply below_alloc | apply pw_below_drewN | apply below_drew1) | exact HB.out))) : w.heap.size ≤ gb101)); clear HB; have HB := n0_; have BK101 := n1_; have GW101 := n2_; have GE101 := n3_; clear n0_ n1_ n2_ n3_; clear hb hbox hg; have hcz39_0 : w38.cell? ⟨gb101, 0, none⟩ = some (.int .i64 a0_0) := (blk_cell BK101.out 0).trans rfl; have hcz39_1 : w38.cell? ⟨gb101, 1, none⟩ = some (.bool a0_1) := (blk_cell BK101.out 1).trans rfl; have hcz39_2 : w38.cell? ⟨gb101, 2, none⟩ = some (.int .i64 a0_2) := (blk_cell BK101.out 2).trans rfl; have hcz39_3 : w38.cell? ⟨gb101, 3, none⟩ = some (.int .i64 a0_3) := (blk_cell BK101.out 3).trans rfl; have hcz39_4 : w38.cell? ⟨gb101, 4, none⟩ = some (.slice A0_4 l0_4.length c0_4) := (blk_cell BK101.out 4).trans rfl; have hfz39_0 := blk_frozen BK101.out 0; have hfz39_1 := blk_frozen BK101.out 1; have hfz39_2 := blk_frozen BK101.out 2; have hfz39_3 := blk_frozen BK101.out 3; have hfz39_4 := blk_frozen BK101.out 4) | ((with_reducible refine gate_callee (f := 15) rfl ?_); refine goesL_ (some 9) rfl rfl Tryz.func15 (by kernel_rfl) rfl #[.agg #[.int .i64 a0_0, .bool a0_1, .int .i64 a0_2, .int .i64 a0_3, .slice A0_4 l0_4.length c0_4]] rfl (by (try simp only [List.map_toArray, List.map_cons, List.map_nil]); first | done | rfl | (simp only [List.length_drop, List.length_take]; rfl)) ?_; (with_reducible refine (frame_Plain.calls a0_0 a0_1 a0_2 a0_3 _ _ l0_4 t102 _ ?side1 ?side2 A2.out).mono ?_); (case side1 => repeat (first | exact (Kd.C_below HR0_4.out HB.out) | (with_reducible refine Kd.C_alloc ?_ _) | (with_reducible refine Kd.C_drewN ?_ _) | (with_reducible refine Kd.C_drew ?_))); (case side2 => exact HC0_4.out); rintro e w40 ⟨rfl, hb⟩; refine ⟨_, rfl, ?_⟩; have n0_ := Aside0.mk (blk_below (g := gb101) (o := .cells #[.int .i64 a0_0, .bool a0_1, .int .i64 a0_2, .int .i64 a0_3, .slice A0_4 l0_4.length c0_4] 31 (0, 0)) (by (with_reducible repeat (first | refine blk_drewN ?_ _ | refine blk_drew ?_ | refine blk_alloc ?_ _)); exact BK101.out) hb); have n1_ := Aside0.mk (below_step (by repeat (first | (with_reducible first | exact HB.out | apply below_alloc | apply pw_below_drewN | apply below_drew1 | refine below_set ?_ GE101.out) | exact HB.out)) hb); clear BK101; clear HB; have BK101 := n0_; have HB := n1_; clear n0_ n1_; (try clear hb); (try clear hb2); (try clear hk); (try clear hi)))
    go_ret2
    exact ⟨by first | rfl | (simp [errW_none, errW_some] <;> rfl) | (simp [*, errW_none, errW_some] <;> rfl), by repeat (first | (with_reducible first | exact HB.out | apply below_alloc | apply pw_below_drewN | apply below_drew1 | refine below_set ?_ GE101.out) | exact HB.out)⟩
end Go.Proofs.YtkohjcfmcliioaaGreatDoor.ZX
set_option linter.unusedVariables false
namespace Go.Proofs.YtkohjcfmcliioaaGreatDoor
open Go Go.RowKit Go.Proofs.YtkohjcfmcliioaaGreatDoorW.PrintWords
open Go.Proofs.YtkohjcfmcliioaaGreatDoor.ZA (S76)
theorem rletter_f (c : Int) : ZA.metrolabref17_letter.f c = some (letB c) := by
  unfold ZA.metrolabref17_letter.f letB
  by_cases h1 : 65 ≤ c <;> by_cases h2 : c ≤ 90 <;> by_cases h3 : 97 ≤ c <;> by_cases h4 : c ≤ 122 <;> simp [h1, h2, h3, h4]
theorem rmaterial_f (m : Int) : ZA.metrolabref19_material.f m = some (condS m) := by
  unfold ZA.metrolabref19_material.f condS
  by_cases h1 : m < 0
  · rw [if_pos h1, if_pos (.inl h1)]
  · rw [if_neg h1]
    by_cases h2 : 3 ≤ m
    · rw [if_pos h2, if_pos (.inr h2)]
    · rw [if_neg h2, if_neg (by omega)]
theorem bt_list (s : ByteArray) (i : Nat) (h : i < s.data.toList.length) : bt s (i : Int) = (s.data.toList[i].toNat : Int) := by
  have h2 : i < s.size := by rw [Array.length_toList] at h; exact h
  unfold bt
  rw [Int.toNat_natCast, dif_pos h2]
  simp
  rfl
theorem rname_loop (s : ByteArray) (hs : s.size ≤ 24) : ∀ (d i : Nat), s.data.toList.length - i = d → i ≤ s.data.toList.length →
    Ev (fun k => ZA.metrolabref17_Name.l0 k s (i : Int)) (if (s.data.toList.drop i).all (fun x => nameB x.toNat) = true then 0 else 3)
  | 0, i, hd, hi => by
    have hl : s.size = s.data.toList.length := (Array.length_toList).symm
    have c1 : ¬ ((i : Int) < (s.size : Int)) := by omega
    obtain rfl : i = s.data.toList.length := by omega
    rw [List.drop_of_length_le (Nat.le_refl _), if_pos (by rfl)]
    refine ⟨1, fun k hk => ?_⟩
    obtain ⟨m, rfl⟩ : ∃ m, k = m + 1 := ⟨k - 1, by omega⟩
    show ZA.metrolabref17_Name.l0 (m + 1) s (s.data.toList.length : Int) = _
    rw [ZA.metrolabref17_Name.l0, if_neg c1]
  | d + 1, i, hd, hi => by
    have hl : s.size = s.data.toList.length := (Array.length_toList).symm
    have hlt : i < s.data.toList.length := by omega
    have c1 : (i : Int) < (s.size : Int) := by omega
    have hw : -9223372036854775808 ≤ (i : Int) + 1 ∧ (i : Int) + 1 ≤ 9223372036854775807 := by omega
    have ih := rname_loop s hs d (i + 1) (by omega) hlt
    have hb := bt_list s i hlt
    rw [List.drop_eq_getElem_cons hlt, List.all_cons]
    generalize hc : (s.data.toList[i].toNat : Int) = c at *
    have hstep : ∀ k, ZA.metrolabref17_Name.l0 (k + 1) s (i : Int) = if letB c = true then ZA.metrolabref17_Name.l0 k s ((i + 1 : Nat) : Int) else (if c < 48 then some 3 else (if c > 57 then some 3 else ZA.metrolabref17_Name.l0 k s ((i + 1 : Nat) : Int))) := by
      intro k
      rw [ZA.metrolabref17_Name.l0, if_pos c1, if_pos (Int.natCast_nonneg i), hb, rletter_f, Option.bind_some, IntWalk.wrap64_in _ hw]
      rfl
    by_cases hn : nameB c = true
    · rw [hn, Bool.true_and]
      refine Ev.step (f := fun k => ZA.metrolabref17_Name.l0 k s ((i + 1 : Nat) : Int)) (fun k => ?_) ih
      rw [hstep]
      by_cases h : letB c = true
      · rw [if_pos h]
      · rw [if_neg h]
        have hd2 : 48 ≤ c ∧ c ≤ 57 := by
          unfold nameB at hn
          rw [show letB c = false by simpa using h] at hn
          simpa using hn
        rw [if_neg (by omega), if_neg (by omega)]
    · have hf : nameB c = false := by simpa using hn
      rw [hf, Bool.false_and, if_neg (by decide)]
      refine ⟨1, fun k hk => ?_⟩
      obtain ⟨m, rfl⟩ : ∃ m, k = m + 1 := ⟨k - 1, by omega⟩
      show ZA.metrolabref17_Name.l0 (m + 1) s (i : Int) = _
      rw [hstep]
      unfold nameB at hf
      have h1 : letB c = false := by
        cases h : letB c with
        | false => rfl
        | true => rw [h, Bool.true_or] at hf; cases hf
      rw [h1, if_neg (by decide)]
      rw [h1] at hf
      by_cases h48 : c < 48
      · rw [if_pos h48]
      · rw [if_neg h48]
        have : ¬ c ≤ 57 := by
          intro h57
          simp at hf
          omega
        rw [if_pos (by omega)]
theorem Ev.pos {α : Type} {c : Prop} [Decidable c] {f g : Nat → Option α} {r : α} (hc : c) (h : Ev f r) : Ev (fun n => if c then f n else g n) r :=
  Ev.congr (fun n => if_pos hc) h
theorem Ev.neg {α : Type} {c : Prop} [Decidable c] {f g : Nat → Option α} {r : α} (hc : ¬ c) (h : Ev g r) : Ev (fun n => if c then f n else g n) r :=
  Ev.congr (fun n => if_neg hc) h
theorem Ev.after {α : Type} {g : Nat → Option α} {r : α} (K : Nat) (h : ∀ m, g (m + K) = some r) : Ev g r :=
  ⟨K, fun k hk => by rw [← h (k - K), Nat.sub_add_cancel hk]⟩
theorem rname_is (s : ByteArray) : Ev (fun k => ZA.metrolabref17_Name.f k s) (nameS s) := by
  unfold ZA.metrolabref17_Name.f nameS
  have hl : s.size = s.data.toList.length := (Array.length_toList).symm
  by_cases h : 24 < s.size
  · rw [if_pos h]
    exact Ev.pos (by omega) (Ev.now _)
  · rw [if_neg h]
    refine Ev.neg (by omega) ?_
    have hloop := rname_loop s (by omega) _ 0 rfl (Nat.zero_le _)
    rw [List.drop_zero] at hloop
    cases hs : s.data.toList with
    | nil =>
      rw [hs] at hl
      refine Ev.pos (by rw [hl]; rfl) ?_
      exact Ev.after 1 fun k => rfl
    | cons c t =>
      have hb := bt_list s 0 (by rw [hs]; simp)
      have hc : (s.data.toList[0]'(by rw [hs]; simp)).toNat = c.toNat := by simp [hs]
      rw [hc] at hb
      have h0 : (0 : Int) < (s.size : Int) := by rw [hl, hs]; simp only [List.length_cons]; omega
      refine Ev.neg (by omega) (Ev.pos h0 ?_)
      rw [show bt s 0 = (c.toNat : Int) from hb, rletter_f]
      simp only [Option.bind_some]
      rw [hs] at hloop
      by_cases hL : letB (c.toNat : Int) = true
      · rw [hL]
        refine Ev.step (f := fun k => ZA.metrolabref17_Name.l0 k s ((0 : Nat) : Int)) (fun k => ?_) hloop
        rw [ZA.metrolabref17_Name.j0, if_neg (show ¬ ((!true) = true) by decide)]
        rfl
      · have hf : letB (c.toNat : Int) = false := by simpa using hL
        rw [hf]
        exact Ev.after 1 fun k => rfl
theorem rd76 (ds : List S76) (i : Nat) (h : i < ds.length) : ZA.rd_T76 ds (i : Int) = ds[i] := by
  unfold ZA.rd_T76
  rw [Int.toNat_natCast, List.getD_eq_getElem?_getD, List.getElem?_eq_getElem h]
  rfl
theorem rdat_inner (ds : List S76) (hds : ds.length ≤ 3) (i : Nat) (hi : i < ds.length) (R : Int) (hR : Ev (fun k => ZA.metrolabref19_datums.l0 k ds ((i + 1 : Nat) : Int)) R) : ∀ (d j : Nat), i - j = d → j ≤ i →
    Ev (fun k => ZA.metrolabref19_datums.l1 k ds (i : Int) (j : Int)) (if ((ds.take i).drop j).any (fun x => x.f0.toList == (ds[i]).f0.toList) = true then 7 else if condS (ds[i]).f1 ≠ 0 then condS (ds[i]).f1 else R)
  | 0, j, hd, hj => by
    obtain rfl : j = i := by omega
    have c1 : ¬ ((j : Int) < (j : Int)) := by omega
    have c2 : (j : Int) < (ds.length : Int) := by omega
    have hw : -9223372036854775808 ≤ (j : Int) + 1 ∧ (j : Int) + 1 ≤ 9223372036854775807 := by omega
    rw [List.drop_of_length_le (by rw [List.length_take]; omega), List.any_nil, if_neg (by decide)]
    refine Ev.step (f := fun k => if condS (ds[j]).f1 = 0 then ZA.metrolabref19_datums.l0 k ds ((j + 1 : Nat) : Int) else some (condS (ds[j]).f1)) (fun k => ?_) ?_
    · rw [ZA.metrolabref19_datums.l1, if_neg c1, if_pos (Int.natCast_nonneg j), if_pos c2, rd76 ds j hi, rmaterial_f, Option.bind_some, IntWalk.wrap64_in _ hw]
      rfl
    · by_cases h : condS (ds[j]).f1 = 0
      · rw [if_neg (by rw [h]; decide)]
        exact Ev.pos h hR
      · rw [if_pos h]
        exact Ev.neg h (Ev.now _)
  | d + 1, j, hd, hj => by
    have hji : j < i := by omega
    have hjl : j < ds.length := by omega
    have c0 : (j : Int) < (i : Int) := by omega
    have c1 : (j : Int) < (ds.length : Int) := by omega
    have c2 : (i : Int) < (ds.length : Int) := by omega
    have hw : -9223372036854775808 ≤ (j : Int) + 1 ∧ (j : Int) + 1 ≤ 9223372036854775807 := by omega
    have hjt : j < (ds.take i).length := by rw [List.length_take]; omega
    have hgt : (ds.take i)[j] = ds[j] := by rw [List.getElem_take]
    have ih := rdat_inner ds hds i hi R hR d (j + 1) (by omega) (by omega)
    rw [List.drop_eq_getElem_cons hjt, List.any_cons, hgt]
    refine Ev.step (f := fun k => if (ds[j]).f0.toList = (ds[i]).f0.toList then some 7 else ZA.metrolabref19_datums.l1 k ds (i : Int) ((j + 1 : Nat) : Int)) (fun k => ?_) ?_
    · rw [ZA.metrolabref19_datums.l1, if_pos c0, if_pos (Int.natCast_nonneg j), if_pos c1, if_pos (Int.natCast_nonneg i), if_pos c2, rd76 ds j hjl, rd76 ds i hi, IntWalk.wrap64_in _ hw]
      rfl
    · by_cases h : (ds[j]).f0.toList = (ds[i]).f0.toList
      · rw [show ((ds[j]).f0.toList == (ds[i]).f0.toList) = true from beq_iff_eq.2 h, Bool.true_or, if_pos rfl]
        exact Ev.pos h (Ev.now _)
      · rw [show ((ds[j]).f0.toList == (ds[i]).f0.toList) = false from beq_eq_false_iff_ne.2 h, Bool.false_or]
        exact Ev.neg h ih
theorem rdat_outer (ds : List S76) (hds : ds.length ≤ 3) : ∀ (d i : Nat), ds.length - i = d → i ≤ ds.length → Ev (fun k => ZA.metrolabref19_datums.l0 k ds (i : Int)) (datS (ds.take i) (ds.drop i))
  | 0, i, hd, hi => by
    obtain rfl : i = ds.length := by omega
    rw [List.drop_of_length_le (Nat.le_refl _)]
    have c1 : ¬ ((ds.length : Int) < (ds.length : Int)) := by omega
    refine Ev.after 1 fun k => ?_
    rw [ZA.metrolabref19_datums.l0, if_neg c1]
    unfold datS
    rfl
  | d + 1, i, hd, hi => by
    have hlt : i < ds.length := by omega
    have c1 : (i : Int) < (ds.length : Int) := by omega
    have ih := rdat_outer ds hds d (i + 1) (by omega) hlt
    have hin := rdat_inner ds hds i hlt _ ih _ 0 rfl (Nat.zero_le _)
    rw [List.drop_zero] at hin
    rw [List.drop_eq_getElem_cons hlt]
    unfold datS
    rw [← List.take_succ_eq_append_getElem hlt]
    refine Ev.step (f := fun k => (ZA.metrolabref17_Name.f k (ds[i]).f0).bind fun t193 => (if t193 = 0 then (ZA.metrolabref19_datums.l1 k ds (i : Int) ((0 : Nat) : Int)) else (some t193))) (fun k => ?_) ?_
    · rw [ZA.metrolabref19_datums.l0, if_pos c1, if_pos (Int.natCast_nonneg i), rd76 ds i hlt]
      rfl
    · refine Ev.bind (rname_is _) ?_
      by_cases h : nameS (ds[i]).f0 = 0
      · rw [if_neg (by rw [h]; decide)]
        exact Ev.pos h hin
      · rw [if_pos h]
        exact Ev.neg h (Ev.now _)
theorem rplain_is (kind : Int) (disc : Bool) (tol mat : Int) (ds : List S76) : Ev (fun k => ZA.metrolabref19_Plain.f k kind disc tol mat ds) (plainS kind tol mat ds) := by
  have hj : ∀ b, (b = true → kind ≥ 9 ∨ kind < 0) → (b = false → 0 ≤ kind ∧ kind < 9) → Ev (fun k => ZA.metrolabref19_Plain.j0 k b kind disc tol mat ds) (plainS kind tol mat ds) := by
    intro b hb1 hb2
    unfold plainS
    cases b with
    | true =>
      rw [if_pos (by have := hb1 rfl; omega)]
      exact Ev.after 1 fun k => rfl
    | false =>
      have := hb2 rfl
      rw [if_neg (by omega)]
      refine Ev.step (f := fun k => if condS mat = 0 then (if tol < 0 then (some 2) else (if tol > 100000 then (some 2) else ((ZA.metrolabref19_datums.f k ds).bind fun t200 => (some t200)))) else some (condS mat)) (fun k => ?_) ?_
      · rw [ZA.metrolabref19_Plain.j0, if_neg (show ¬ (false = true) by decide), rmaterial_f, Option.bind_some]
      · by_cases hm : condS mat = 0
        · rw [if_neg (by rw [hm]; decide)]
          refine Ev.pos hm ?_
          by_cases h1 : tol < 0
          · rw [if_pos (.inl h1)]
            exact Ev.pos h1 (Ev.now _)
          · refine Ev.neg h1 ?_
            by_cases h2 : tol > 100000
            · rw [if_pos (.inr h2)]
              exact Ev.pos h2 (Ev.now _)
            · rw [if_neg (by omega)]
              refine Ev.neg h2 ?_
              unfold ZA.metrolabref19_datums.f
              by_cases h3 : 3 < ds.length
              · rw [if_pos h3]
                refine Ev.bind (a := (5 : Int)) (Ev.pos (by omega) (Ev.now _)) (Ev.now _)
              · rw [if_neg h3]
                have := rdat_outer ds (by omega) _ 0 rfl (Nat.zero_le _)
                rw [List.take_zero, List.drop_zero] at this
                exact Ev.bind (Ev.neg (by omega) this) (Ev.now _)
        · rw [if_pos hm]
          exact Ev.neg hm (Ev.now _)
  unfold ZA.metrolabref19_Plain.f
  by_cases h0 : kind < 0
  · exact Ev.pos h0 (hj true (fun _ => .inr h0) (fun h => by cases h))
  · refine Ev.neg h0 ?_
    by_cases h9 : kind ≥ 9
    · rw [decide_eq_true h9]
      exact hj true (fun _ => .inl h9) (fun h => by cases h)
    · rw [decide_eq_false h9]
      exact hj false (fun h => by cases h) (fun _ => by omega)
end Go.Proofs.YtkohjcfmcliioaaGreatDoor
set_option linter.unusedVariables false
namespace Go.Proofs.YtkohjcfmcliioaaGreatDoor
open Go Go.RowKit Go.Proofs.YtkohjcfmcliioaaGreatDoorW.PrintWords
open Go.Proofs.YtkohjcfmcliioaaGreatDoor.ZA (S76 S31)
/-- What rightness of datums says, datum by datum. -/
theorem datS_ok : ∀ (ds pre : List S76), datS pre ds = 0 → ∀ d ∈ ds, nameS d.f0 = 0 ∧ condS d.f1 = 0
  | [], _, _, d, hd => by cases hd
  | e :: t, pre, h, d, hd => by
    unfold datS at h
    split at h
    · exact absurd h ‹_›
    · split at h
      · exact absurd h (by decide)
      · split at h
        · exact absurd h ‹_›
        · rename_i h1 _ h3
          rcases List.mem_cons.1 hd with rfl | hm
          · exact ⟨Classical.not_not.1 h1, Classical.not_not.1 h3⟩
          · exact datS_ok t _ h d hm
theorem condS_zero {m : Int} (h : condS m = 0) : 0 ≤ m ∧ m < 3 := by
  unfold condS at h
  split at h
  · exact absurd h (by decide)
  · omega
theorem nameS_size {s : ByteArray} (h : nameS s = 0) : s.size ≤ 24 := by
  unfold nameS at h
  split at h
  · exact absurd h (by decide)
  · omega
def itoaB (n : Int) : ByteArray := ⟨(Lib.itoa n).toArray⟩
def discB : ByteArray := ⟨#[100, 105, 115, 99]⟩
/-- The words of a plain frame's text. -/
def wordsS (kind : Int) (disc : Bool) (tol mat : Int) (ds : List S76) : List ByteArray :=
  (if disc = true then [⟨(rowS kind).word⟩, discB] else [⟨(rowS kind).word⟩]) ++ [itoaB tol ++ markS mat] ++ ds.map (fun d => d.f0 ++ markS d.f1)
def textL (kind : Int) (disc : Bool) (tol mat : Int) (ds : List S76) : List UInt8 := Lib.join ((wordsS kind disc tol mat ds).map (·.data.toList)) [32]
def textS (kind : Int) (disc : Bool) (tol mat : Int) (ds : List S76) : ByteArray × Int :=
  if plainS kind tol mat ds ≠ 0 then (⟨#[]⟩, plainS kind tol mat ds) else (⟨(textL kind disc tol mat ds).toArray⟩, 0)
theorem rowS_word (k : Int) : (rowS k).word.size ≤ 8 := by
  have h : ∀ n : Fin 9, (rowsS.getD n.1 ⟨#[], #[], #[], 0, 0, false⟩).word.size ≤ 8 := by decide
  unfold rowS
  by_cases hk : k.toNat < 9
  · exact h ⟨k.toNat, hk⟩
  · rw [List.getD_eq_getElem?_getD, List.getElem?_eq_none (by show 9 ≤ _; omega)]
    exact Nat.zero_le _
theorem sizeL (s : ByteArray) : s.data.toList.length = s.size := Array.length_toList
theorem join_le (N : Nat) : ∀ (xs : List ByteArray) (sep : List UInt8), (∀ x ∈ xs, x.size ≤ N) → (Lib.join (xs.map (·.data.toList)) sep).length ≤ xs.length * (N + sep.length)
  | [], _, _ => Nat.zero_le _
  | x :: t, sep, h => by
    have hx := h x List.mem_cons_self
    have hl : Lib.lens (t.map (·.data.toList)) ≤ t.length * N := by
      have ht : ∀ y ∈ t, y.size ≤ N := fun y hy => h y (List.mem_cons_of_mem _ hy)
      clear h hx
      induction t with
      | nil => exact Nat.zero_le _
      | cons y u ih =>
        have h1 := ht y List.mem_cons_self
        have h2 := ih fun z hz => ht z (List.mem_cons_of_mem _ hz)
        unfold Lib.lens at h2 ⊢
        simp only [List.map_cons, List.sum_cons, List.length_cons, Nat.add_mul, Nat.one_mul]
        rw [sizeL]
        omega
    rw [List.map_cons, Lib.join_cons, List.length_append, Lib.joinTail_length, sizeL, List.length_map, List.length_cons, Nat.add_mul, Nat.one_mul, Nat.mul_add]
    have : sep.length * t.length = t.length * sep.length := Nat.mul_comm _ _
    omega
theorem words_size (kind : Int) (disc : Bool) (tol mat : Int) (ds : List S76) (hp : plainS kind tol mat ds = 0) : ∀ x ∈ wordsS kind disc tol mat ds, x.size ≤ 30 := by
  obtain ⟨h0, h9, hm, t0, t1, hl, hd⟩ := plainS_ok hp
  intro x hx
  unfold wordsS at hx
  rw [List.mem_append, List.mem_append] at hx
  rcases hx with (hx | hx) | hx
  · have h1 : (⟨(rowS kind).word⟩ : ByteArray).size ≤ 8 := rowS_word kind
    have h2 : discB.size ≤ 8 := by decide
    split at hx
    · rcases List.mem_cons.1 hx with rfl | hx
      · omega
      · rw [List.mem_singleton.1 hx]; omega
    · rw [List.mem_singleton.1 hx]; omega
  · rw [List.mem_singleton.1 hx, ByteArray.size_append]
    have h1 := markS_size mat
    have h2 : (itoaB tol).size ≤ 21 := by
      have := Lib.itoa_length_le tol (by omega) (by omega)
      unfold itoaB
      show (Lib.itoa tol).toArray.size ≤ 21
      simpa using this
    omega
  · obtain ⟨d, hdm, rfl⟩ := List.mem_map.1 hx
    obtain ⟨hn, hc⟩ := datS_ok ds [] hd d hdm
    have h1 := nameS_size hn
    have h2 := markS_size d.f1
    rw [ByteArray.size_append]
    omega
theorem text_join (kind : Int) (disc : Bool) (tol mat : Int) (ds : List S76) (hp : plainS kind tol mat ds = 0) : strings_Join.f (wordsS kind disc tol mat ds) (⟨#[32]⟩ : ByteArray) = some ⟨(textL kind disc tol mat ds).toArray⟩ := by
  have hl : (wordsS kind disc tol mat ds).length ≤ 6 := by
    obtain ⟨_, _, _, _, _, hl, _⟩ := plainS_ok hp
    unfold wordsS
    cases disc <;> simp <;> omega
  have hj := join_le 30 (wordsS kind disc tol mat ds) [32] (words_size kind disc tol mat ds hp)
  have h31 : (wordsS kind disc tol mat ds).length * (30 + [(32 : UInt8)].length) ≤ 6 * 31 := Nat.mul_le_mul hl (by decide)
  unfold strings_Join.f
  rw [if_pos ⟨by unfold wordsS; cases disc <;> simp, by omega, by
    have : (⟨#[32]⟩ : ByteArray).data.toList = [32] := rfl
    rw [this]
    omega⟩]
  rfl
theorem marked_f (s : ByteArray) (m : Int) (h : condS m = 0) (hs : s.size ≤ 100) : frame_marked.f s m = some (s ++ markS m) := by
  obtain ⟨h0, h3⟩ := condS_zero h
  exact if_pos ⟨h0, h3, by omega⟩
theorem text_loop (kind : Int) (disc : Bool) (tol mat : Int) (ds : List S76) (hp : plainS kind tol mat ds = 0) (pre : List ByteArray) (hpre : pre.length ≤ 3) (hw : wordsS kind disc tol mat ds = pre ++ ds.map (fun d => d.f0 ++ markS d.f1)) :
    ∀ (d i : Nat), ds.length - i = d → i ≤ ds.length → Ev (fun k => ZX.frame_Text.l0 k (pre ++ (ds.take i).map (fun d => d.f0 ++ markS d.f1)) ds (ds.length : Int) (i : Int)) (⟨(textL kind disc tol mat ds).toArray⟩, (0 : Int))
  | 0, i, hd, hi => by
    obtain rfl : i = ds.length := by omega
    have c1 : ¬ ((ds.length : Int) < (ds.length : Int)) := by omega
    rw [List.take_length, ← hw]
    refine Ev.after 1 fun k => ?_
    rw [ZX.frame_Text.l0, if_neg c1, text_join kind disc tol mat ds hp]
    rfl
  | d + 1, i, hd, hi => by
    have hlt : i < ds.length := by omega
    obtain ⟨_, _, _, _, _, hl, hds⟩ := plainS_ok hp
    have c1 : (i : Int) < (ds.length : Int) := by omega
    have hwr : -9223372036854775808 ≤ (i : Int) + 1 ∧ (i : Int) + 1 ≤ 9223372036854775807 := by omega
    have ih := text_loop kind disc tol mat ds hp pre hpre hw d (i + 1) (by omega) hlt
    obtain ⟨hn, hc⟩ := datS_ok ds [] hds _ (List.getElem_mem hlt)
    have hm := marked_f (ds[i]).f0 (ds[i]).f1 hc (by have := nameS_size hn; omega)
    refine Ev.step (f := fun k => ZX.frame_Text.l0 k (pre ++ (ds.take (i + 1)).map (fun d => d.f0 ++ markS d.f1)) ds (ds.length : Int) ((i + 1 : Nat) : Int)) (fun k => ?_) ih
    have hlen : (pre ++ (ds.take i).map (fun d => d.f0 ++ markS d.f1)).length < 8796093022208 := by
      rw [List.length_append, List.length_map, List.length_take]
      omega
    rw [ZX.frame_Text.l0, if_pos c1, if_pos (Int.natCast_nonneg i), if_pos c1, rd76 ds i hlt, hm, Option.bind_some, if_pos hlen, IntWalk.wrap64_in _ hwr, List.take_succ_eq_append_getElem hlt, List.map_append, List.append_assoc]
    rfl
theorem text_is (kind : Int) (disc : Bool) (tol mat : Int) (ds : List S76) : Ev (fun k => ZX.frame_Text.f k kind disc tol mat ds) (textS kind disc tol mat ds) := by
  unfold ZX.frame_Text.f textS frame_Plain.f
  simp only [Option.bind_some]
  by_cases hp : plainS kind tol mat ds = 0
  · rw [if_neg (by rw [hp]; decide)]
    refine Ev.pos hp ?_
    obtain ⟨h0, h9, hm, t0, t1, hl, hd⟩ := plainS_ok hp
    have hw : frame_word.f kind = some ⟨(rowS kind).word⟩ := if_pos ⟨h0, h9⟩
    have hI : strconv_Itoa.f tol = some (itoaB tol) := if_pos ⟨by omega, by omega⟩
    have hM := marked_f (itoaB tol) mat hm (by
      have := Lib.itoa_length_le tol (by omega) (by omega)
      unfold itoaB
      show (Lib.itoa tol).toArray.size ≤ 100
      have h2 : (Lib.itoa tol).toArray.size = (Lib.itoa tol).length := by simp
      omega)
    simp only [hw, Option.bind_some]
    have hj : ∀ pre : List ByteArray, pre.length ≤ 2 → wordsS kind disc tol mat ds = (pre ++ [itoaB tol ++ markS mat]) ++ ds.map (fun d => d.f0 ++ markS d.f1) →
        Ev (fun k => ZX.frame_Text.j0 k pre kind disc tol mat ds) (⟨(textL kind disc tol mat ds).toArray⟩, (0 : Int)) := by
      intro pre hpre hwd
      have hloop := text_loop kind disc tol mat ds hp (pre ++ [itoaB tol ++ markS mat]) (by rw [List.length_append]; simp; omega) hwd _ 0 rfl (Nat.zero_le _)
      rw [List.take_zero, List.map_nil, List.append_nil] at hloop
      refine Ev.step (f := fun k => ZX.frame_Text.l0 k (pre ++ [itoaB tol ++ markS mat]) ds (ds.length : Int) ((0 : Nat) : Int)) (fun k => ?_) hloop
      rw [ZX.frame_Text.j0, hI, Option.bind_some, hM, Option.bind_some, if_pos (by omega)]
      rfl
    cases disc with
    | true =>
      refine Ev.pos rfl (Ev.pos (by simp) (hj _ (by simp) ?_))
      rfl
    | false =>
      refine Ev.neg (by decide) (hj _ (by simp) ?_)
      rfl
  · rw [if_pos hp]
    exact Ev.neg hp (Ev.now _)
end Go.Proofs.YtkohjcfmcliioaaGreatDoor
set_option linter.unusedVariables false
set_option linter.unusedSimpArgs false
namespace Go.Proofs.YtkohjcfmcliioaaGreatDoor
open Go Go.RowKit Go.Proofs.YtkohjcfmcliioaaGreatDoorW.PrintWords Go.Proofs.YtkohjcfmcliioaaGreatDoorW.PrintLast Go.Proofs.YtkohjcfmcliioaaGreatDoorW.PrintMore
open Go.Proofs.YtkohjcfmcliioaaGreatDoor.ZA (S76 S31 k31 k76)
set_option maxRecDepth 100000 in
theorem parse_pred (w0 : ByteArray) (b4 bw n cp : Nat) (w : World) (hb4 : b4 < w.heap.size) (hbw : bw < w.heap.size) (h4 : w.cell? ⟨b4, 0, none⟩ = some (.slice (some ⟨bw, 0, none⟩) n cp)) (hn : 0 < n) (hw : w.cell? ⟨bw, 0, none⟩ = some (.string w0)) :
    PredBelow Tryz.prog 63 #[.pointer (some ⟨b4, 0, none⟩)] (fun r => .agg (RowS.cells r).toArray) (fun r => (⟨r.word⟩ : ByteArray).toList == w0.toList) w := fun W r hb => by
  have h4W : W.cell? ⟨b4, 0, none⟩ = some (.slice (some ⟨bw, 0, none⟩) n cp) := (hb.cell (p := ⟨b4, 0, none⟩) hb4).trans h4
  have hwW : W.cell? ⟨bw, 0, none⟩ = some (.string w0) := (hb.cell (p := ⟨bw, 0, none⟩) hbw).trans hw
  have hn' : (0 : Int) < (n : Int) := by omega
  have hl4 : b4 < W.heap.size := Nat.lt_of_lt_of_le hb4 hb.size
  have hlw : bw < W.heap.size := Nat.lt_of_lt_of_le hbw hb.size
  have HB := Hid.mk' hb
  obtain ⟨rw, ron, rdi, rl, rm, rmat⟩ := r
  show Calls Tryz.prog 63 #[.agg #[.string ⟨rw⟩, .string ⟨ron⟩, .string ⟨rdi⟩, .int .i64 rl, .int .i64 rm, .bool rmat], .pointer (some ⟨b4, 0, none⟩)] W _
  clear hb h4 hw
  go_enter Tryz.func63, Tryz.ntmps63
  go_upto_region 1 with fail
  have hB1 : Below W.heap.size W (W.alloc (.cells #[.string ⟨rw⟩, .string ⟨ron⟩, .string ⟨rdi⟩, .int .i64 rl, .int .i64 rm, .bool rmat] 80)) := (Below.refl _ _).alloc (Nat.le_refl _) _
  have hg1 := heap_alloc_new W (.cells #[.string ⟨rw⟩, .string ⟨ron⟩, .string ⟨rdi⟩, .int .i64 rl, .int .i64 rm, .bool rmat] 80)
  generalize W.alloc (.cells #[.string ⟨rw⟩, .string ⟨ron⟩, .string ⟨rdi⟩, .int .i64 rl, .int .i64 rm, .bool rmat] 80) = W1 at hB1 hg1 ⊢
  have h0 : W1.cell? ⟨W.heap.size, 0, none⟩ = some (.string ⟨rw⟩) := (cell_of_blk hg1 0).trans rfl
  have h4' := (hB1.cell (p := ⟨b4, 0, none⟩) hl4).trans h4W
  have hw' := (hB1.cell (p := ⟨bw, 0, none⟩) hlw).trans hwW
  generalize W.heap.size = g at h0
  refine start_ (n := 7) (S := fun w' => w'.cell? ⟨g, 0, none⟩ = some (.string ⟨rw⟩) ∧ w'.cell? ⟨b4, 0, none⟩ = some (.slice (some ⟨bw, 0, none⟩) n cp) ∧ w'.cell? ⟨bw, 0, none⟩ = some (.string w0)) (ds := []) #[false, false, false, false, false, false, false] (by kernel_rfl) rfl rfl ?hS (fun hHeld => ?_)
  case hS => exact ⟨h0, h4', hw'⟩
  have HB2 := Hid.mk' (Below.trans HB.out ((below_drew hB1).mono HB.out.size))
  generalize W1.drew = W2 at hHeld HB2 ⊢
  refine pure_ (i := 0) (N := some 4) (v := ?_) (a' := ?_) #[true, false, false, false, false, false, false] rfl rfl (by kernel_rfl) (fun _ _ _ h => h) (Or.inl ⟨by rfl, ?_⟩) ?_ ?_
  rotate_left
  · intro w'
    go_simp
    with_reducible rfl
  rotate_left
  · simp only [Act.put, List.setIfInBounds_toArray, List.set_cons_zero, List.set_cons_succ, i64_w, i32_w]
    rfl
  refine take_ (i := 1) (N := some 5) (v := ?_) (a' := ?_) #[true, true, false, false, false, false, false] rfl rfl (by kernel_rfl) (fun _ _ _ h => h) (Or.inl ⟨by rfl, ?_⟩) hHeld ?_ ?_
  rotate_left
  · rintro w' ⟨s0, s1, s2⟩
    go_simp
    with_reducible rfl
  rotate_left
  · simp only [Act.put, List.setIfInBounds_toArray, List.set_cons_zero, List.set_cons_succ, i64_w, i32_w]
    rfl
  refine take_ (i := 2) (N := some 6) (v := ?_) (a' := ?_) #[true, true, true, false, false, false, false] rfl rfl (by kernel_rfl) (fun _ _ _ h => h) (Or.inl ⟨by rfl, ?_⟩) hHeld ?_ ?_
  rotate_left
  · rintro w' ⟨s0, s1, s2⟩
    go_simp
    with_reducible rfl
  rotate_left
  · simp only [Act.put, List.setIfInBounds_toArray, List.set_cons_zero, List.set_cons_succ, i64_w, i32_w]
    rfl
  refine pure_ (i := 3) (N := some 7) (v := ?_) (a' := ?_) #[true, true, true, true, false, false, false] rfl rfl (by kernel_rfl) (fun _ _ _ h => h) (Or.inl ⟨by rfl, ?_⟩) ?_ ?_
  rotate_left
  · intro w'
    go_simp
    with_reducible rfl
  rotate_left
  · simp only [Act.put, List.setIfInBounds_toArray, List.set_cons_zero, List.set_cons_succ, i64_w, i32_w]
    rfl
  refine take_ (i := 4) (N := some 8) (v := ?_) (a' := ?_) #[true, true, true, true, true, false, false] rfl rfl (by kernel_rfl) (fun _ _ _ h => h) (Or.inl ⟨by rfl, ?_⟩) hHeld ?_ ?_
  rotate_left
  · rintro w' ⟨s0, s1, s2⟩
    go_simp
    with_reducible rfl
  rotate_left
  · simp only [Act.put, List.setIfInBounds_toArray, List.set_cons_zero, List.set_cons_succ, i64_w, i32_w]
    rfl
  refine pure_ (i := 5) (N := some 9) (v := ?_) (a' := ?_) #[true, true, true, true, true, true, false] rfl rfl (by kernel_rfl) (fun _ _ _ h => h) (Or.inl ⟨by rfl, ?_⟩) ?_ ?_
  rotate_left
  · intro w'
    go_simp
    with_reducible rfl
  rotate_left
  · simp only [Act.put, List.setIfInBounds_toArray, List.set_cons_zero, List.set_cons_succ, i64_w, i32_w]
    rfl
  refine pure_ (i := 6) (N := some 3) (v := ?_) (a' := ?_) #[true, true, true, true, true, true, true] rfl rfl (by kernel_rfl) (fun _ _ _ h => h) (Or.inl ⟨by rfl, ?_⟩) ?_ ?_
  rotate_left
  · intro w'
    go_simp
    with_reducible rfl
  rotate_left
  · simp only [Act.put, List.setIfInBounds_toArray, List.set_cons_zero, List.set_cons_succ, i64_w, i32_w]
    rfl
  refine done_ (by kernel_rfl) ?_
  go_wp2_with fail
  go_ret
  exact ⟨rfl, HB2.out⟩
/-- The index of the first row with a word, or -1. -/
def idxS (p : RowS → Bool) : Int := match rowsS.findIdx? p with | some i => (i : Int) | none => -1
theorem row_cells (i : Nat) (h : i < 9) (j : Nat) (hj : j < 6) : rowsC.toArray[i * 6 + j]? = (RowS.cells (rowsS.getD i ⟨#[], #[], #[], 0, 0, false⟩)).toArray[j]? := by
  have h1 : i = 0 ∨ i = 1 ∨ i = 2 ∨ i = 3 ∨ i = 4 ∨ i = 5 ∨ i = 6 ∨ i = 7 ∨ i = 8 := by omega
  have h2 : j = 0 ∨ j = 1 ∨ j = 2 ∨ j = 3 ∨ j = 4 ∨ j = 5 := by omega
  rcases h1 with rfl | rfl | rfl | rfl | rfl | rfl | rfl | rfl | rfl <;> rcases h2 with rfl | rfl | rfl | rfl | rfl | rfl <;> exact (show _ = _ from by kernel_rfl)
def IdxRP (g : Nat) (lb : Array Value) (R : Int) (b5 : Nat) (w : World) : Prop :=
  Calls Tryz.prog 62 #[.slice (some ⟨b5, 0, none⟩) 9 9, .func (.func g) #[] lb] w fun e w' => e = .returned (.int .i64 R) ∧ Below w.heap.size w w'
set_option maxRecDepth 100000 in
set_option maxHeartbeats 1000000 in
theorem index_R (g : Nat) (lb : Array Value) (p : RowS → Bool) (eg : ∀ args w, (callFunc g args).run Tryz.prog w = .ok (.enter g args) w) (b5 : Nat) (w : World)
    (hp : PredBelow Tryz.prog g lb (fun r => .agg (RowS.cells r).toArray) p w) (hb5 : b5 < w.heap.size) (hr : w.heap[b5]? = some (.cells rowsC.toArray 81 (0, 0))) (R : Int) (hR : Hid (idxS p = R)) : IdxRP g lb R b5 w := by
  unfold IdxRP
  have HP := Hid.mk' hp
  have HR := Hid.mk' hr
  clear hp hr
  go_enter Tryz.func62, Tryz.ntmps62
  go_wp2_with fail
  go_loopg [8] 9 (fun q s8 wr => ∃ i : Nat, s8 = .int .i64 (i : Int) ∧ i ≤ 9 ∧ 9 - i ≤ q ∧ Hid (∀ x ∈ rowsS.take i, p x = false) ∧ Hid (Below w.heap.size w wr))
  case atStart => exact ⟨0, rfl, Nat.zero_le _, Nat.le_refl _, Hid.mk' (by simp), Hid.mk' (Below.refl _ _)⟩
  case round =>
    obtain ⟨i, rfl, hi, hg, hall, hB⟩ := hrel
    by_cases hlt : i < 9
    · have g1 : (i : Int) < 9 := by omega
      have g0 : (0 : Int) ≤ (i : Int) := by omega
      have hlen : i < rowsS.length := hlt
      have hc : ∀ j, j < 6 → wr.cell? ⟨b5, i * 6 + j, none⟩ = (RowS.cells (rowsS.getD i ⟨#[], #[], #[], 0, 0, false⟩)).toArray[j]? := fun j hj => (hB.out.cell (p := ⟨b5, i * 6 + j, none⟩) hb5).trans ((cell_of_blk HR.out _).trans (row_cells i hlt j hj))
      have hget : rowsS.getD i ⟨#[], #[], #[], 0, 0, false⟩ = rowsS[i] := by rw [List.getD_eq_getElem?_getD, List.getElem?_eq_getElem hlen]; rfl
      generalize hy : rowsS.getD i ⟨#[], #[], #[], 0, 0, false⟩ = y at hc hget
      clear hy
      have hcall := HP.out wr y hB.out
      have hstep : Hid (p y = false → ∀ x ∈ rowsS.take (i + 1), p x = false) := Hid.mk' fun hn x hm => by
        rw [List.take_succ_eq_append_getElem hlen] at hm
        rcases List.mem_append.1 hm with h | h
        · exact hall.out x h
        · rw [List.mem_singleton.1 h, ← hget]; exact hn
      have hfound : Hid (p y = true → idxS p = (i : Int)) := Hid.mk' fun hn => by
        have : rowsS.findIdx? p = some i := by
          rw [List.findIdx?_eq_some_iff_getElem]
          refine ⟨hlen, by rw [← hget]; exact hn, fun j hj => ?_⟩
          have := hall.out (rowsS[j]'(Nat.lt_trans hj hlen)) (by rw [List.mem_take_iff_getElem]; exact ⟨j, by omega, rfl⟩)
          simp [this]
        unfold idxS
        rw [this]
      obtain ⟨yw, yon, ydi, yl, ym, ymat⟩ := y
      have hc0 : wr.cell? ⟨b5, i * 6, none⟩ = some (.string ⟨yw⟩) := (hc 0 (by decide)).trans rfl
      have hc1 : wr.cell? ⟨b5, i * 6 + 1, none⟩ = some (.string ⟨yon⟩) := (hc 1 (by decide)).trans rfl
      have hc2 : wr.cell? ⟨b5, i * 6 + 2, none⟩ = some (.string ⟨ydi⟩) := (hc 2 (by decide)).trans rfl
      have hc3 : wr.cell? ⟨b5, i * 6 + 3, none⟩ = some (.int .i64 yl) := (hc 3 (by decide)).trans rfl
      have hc4 : wr.cell? ⟨b5, i * 6 + 4, none⟩ = some (.int .i64 ym) := (hc 4 (by decide)).trans rfl
      have hc5 : wr.cell? ⟨b5, i * 6 + 5, none⟩ = some (.bool ymat) := (hc 5 (by decide)).trans rfl
      clear hall hget HP hc
      generalize hq : p ⟨yw, yon, ydi, yl, ym, ymat⟩ = pb at hcall hstep hfound
      clear hq
      simp only [RowS.cells] at hcall
      cases pb with
      | true =>
        have hf := Hid.mk' (hR.out.symm.trans (hfound.out rfl))
        clear hstep hfound
        go_wp2_with fail
        refine hcall.mono ?_
        rintro e w3 ⟨rfl, hb3⟩
        go_wp2_with fail
        go_ret
        rw [hf.out]
        exact ⟨rfl, hb3⟩
      | false =>
        have hf := Hid.mk' (hstep.out rfl)
        clear hstep hfound
        go_wp2_with fail
        refine hcall.mono ?_
        rintro e w3 ⟨rfl, hb3⟩
        go_wp2_with fail
        go_roundg (9 - (i + 1))
        case measure => omega
        case rel => exact ⟨i + 1, rfl, by omega, Nat.le_refl _, hf, Hid.mk' hb3⟩
    · have g1 : ¬ ((i : Int) < 9) := by omega
      have hie : i = 9 := by omega
      have hnone : Hid (-1 = R) := Hid.mk' (by
        rw [← hR.out]
        unfold idxS
        have : rowsS.findIdx? p = none := List.findIdx?_eq_none_iff.2 fun x hx => hall.out x (by rw [hie]; exact hx)
        rw [this])
      clear hall HP HR hie
      go_wp2_with fail
      go_ret
      rw [← hnone.out]
      exact ⟨rfl, hB.out⟩
end Go.Proofs.YtkohjcfmcliioaaGreatDoor
set_option linter.unusedVariables false
set_option linter.unusedSimpArgs false
namespace Go.Proofs.YtkohjcfmcliioaaGreatDoor
open Go Go.RowKit Go.Proofs.YtkohjcfmcliioaaGreatDoorW.PrintWords Go.Proofs.YtkohjcfmcliioaaGreatDoorW.PrintLast Go.Proofs.YtkohjcfmcliioaaGreatDoorW.PrintMore
open Go.Proofs.YtkohjcfmcliioaaGreatDoor.ZA (S76 S31 k31 k76)
/-- All but block g, and row, is as it was. -/
def Chg (g : Nat) (row : Option Nat) (w w' : World) : Prop := w'.os = w.os ∧ w'.tape = w.tape ∧ w'.output = w.output ∧ KeepBut w w' g row
theorem Chg.below {g B : Nat} {row : Option Nat} {w0 w w' : World} (h : Chg g row w w') (hb : Below B w0 w) (hB : B ≤ w.heap.size) (hg : B ≤ g) (hr : ∀ k, row = some k → B ≤ k) : Below B w0 w' :=
  hb.trans ⟨h.1, h.2.1, h.2.2.1, h.2.2.2.1, fun k hk => h.2.2.2.2 k (Nat.lt_of_lt_of_le hk hB) (by omega) (fun e => by have := hr k e.symm; omega)⟩
theorem Chg.blk {g k : Nat} {row : Option Nat} {w w' : World} (h : Chg g row w w') {o : Obj} (hk : w.heap[k]? = some o) (hg : k ≠ g) (hr : some k ≠ row) : w'.heap[k]? = some o :=
  (h.2.2.2.2 k (Array.getElem?_eq_some_iff.1 hk).1 hg hr).trans hk
/-- What strconv.Atoi returns besides its error. -/
def atoiV (s : ByteArray) : Int := match Lib.atoiAll s.data.toList with
  | .ok v => v
  | .range => Lib.atoiSat s.data.toList
  | _ => 0
def AtoiR (s : ByteArray) (W : World) (e : Ending) (w' : World) : Prop := ∃ ev : Value, e = .returned (.tuple #[.int .i64 (atoiV s), ev]) ∧ Below W.heap.size W w'
theorem atoi_any (s : ByteArray) (hs : s.size ≤ 4096) (W : World) (HE : Env W) : Calls Tryz.prog 65 #[.string s] W (AtoiR s W) := by
  obtain ⟨_, _, ⟨ev1, h1, h1'⟩, ev2, h2, h2'⟩ := HE
  cases h : Lib.atoiAll s.data.toList
  · rename_i v
    have ha : atoiV s = v := by unfold atoiV; rw [h]
    refine (Tryz.strconv_Atoi_ok s (by omega) v h W).mono fun e w' ⟨he, hw⟩ => ⟨.nilIface, by rw [he, ha], ?_⟩
    rcases hw with rfl | ⟨t, rfl⟩
    · exact Below.refl _ _
    · exact bytesWorld_below W _ t
  · have ha : atoiV s = 0 := by unfold atoiV; rw [h]
    exact (Tryz.strconv_Atoi_syntax s (by omega) (by rw [h]; rfl) ev1 W h1 h1').mono fun e w' ⟨N, he, _, _, hb⟩ => ⟨_, by rw [ha]; exact he, hb⟩
  · have ha : atoiV s = Lib.atoiSat s.data.toList := by unfold atoiV; rw [h]
    exact (Tryz.strconv_Atoi_range s (by omega) h ev2 W h2 h2').mono fun e w' ⟨N, he, _, _, hb⟩ => ⟨_, by rw [ha]; exact he, hb⟩
def P2R (nm : ByteArray) (m : Int) (b6 : Nat) (kv dv sv : Value) (W : World) (e : Ending) (W' : World) : Prop :=
  e = .returned (.tuple #[]) ∧ W'.heap[b6]? = some (.cells #[kv, dv, .int .i64 (atoiV nm), .int .i64 m, sv] 31 (0, 0)) ∧ Chg b6 none W W'
set_option maxRecDepth 100000 in
theorem p2_any (nm : ByteArray) (m : Int) (b6 : Nat) (kv dv tv mv sv : Value) (W : World) (h : W.heap[b6]? = some (.cells #[kv, dv, tv, mv, sv] 31 (0, 0))) (HE : Env W) (hs : nm.size ≤ 4096) :
    Calls Tryz.prog 64 #[.string nm, .int .i64 m, .pointer (some ⟨b6, 0, none⟩)] W (P2R nm m b6 kv dv sv W) := by
  have hA := Hid.mk' (atoi_any nm hs W HE)
  have H := Hid.mk' h
  have hlt : b6 < W.heap.size := (Array.getElem?_eq_some_iff.1 h).1
  clear h HE hs
  go_enter Tryz.func64, Tryz.ntmps64
  go_wp2_with fail
  refine hA.out.mono ?_
  rintro e W1 ⟨ev, rfl, hb⟩
  have h1 := (hb.block b6 hlt).trans H.out
  have hc2 : W1.cell? ⟨b6, 2, none⟩ = some tv := (cell_of_blk h1 2).trans rfl
  have hc3 : W1.cell? ⟨b6, 3, none⟩ = some mv := (cell_of_blk h1 3).trans rfl
  have hf2 : W1.frozen? ⟨b6, 2, none⟩ = false := frozen_of_row W1 b6 2 _ _ h1
  have hf3 : W1.frozen? ⟨b6, 3, none⟩ = false := frozen_of_row W1 b6 3 _ _ h1
  have H1 := Hid.mk' h1
  have HB := Hid.mk' hb
  clear h1 hb hA H
  go_wp2_with fail
  go_end0
  refine ⟨rfl, ?_, HB.out.os, HB.out.tape, HB.out.output, ?_⟩
  · exact (heap_setCell_same _ b6 3 _ _ _ (heap_setCell_same W1 b6 2 _ _ _ H1.out)).trans rfl
  · exact ((KeepBut.of_below HB.out b6 none).set_ 2 _).set_ 3 _
def P3R (nm : ByteArray) (m : Int) (b6 base : Nat) (kv dv tv mv v : Value) (ds : List S76) (W : World) (e : Ending) (W' : World) : Prop :=
  e = .returned (.tuple #[]) ∧ ∃ v' : Value, W'.heap[b6]? = some (.cells #[kv, dv, tv, mv, v'] 31 (0, 0)) ∧ Kd.R k76 76 W' base (fun _ => True) v' (ds ++ [⟨nm, m⟩]) ∧ Chg b6 v.ownBlock W W'
set_option maxRecDepth 100000 in
set_option maxHeartbeats 1000000 in
theorem p3_any (nm : ByteArray) (m : Int) (b6 base : Nat) (kv dv tv mv v : Value) (ds : List S76) (W : World) (h : W.heap[b6]? = some (.cells #[kv, dv, tv, mv, v] 31 (0, 0))) (hR : Kd.R k76 76 W base (fun _ => True) v ds) (hbase : base ≤ W.heap.size) (hl : ds.length ≤ 100000) :
    Calls Tryz.prog 67 #[.string nm, .int .i64 m, .pointer (some ⟨b6, 0, none⟩)] W (P3R nm m b6 base kv dv tv mv v ds W) := by
  have H := Hid.mk' h
  have hlt : b6 < W.heap.size := (Array.getElem?_eq_some_iff.1 h).1
  have HR := Hid.mk' hR
  have hc4 : W.cell? ⟨b6, 4, none⟩ = some v := (cell_of_blk h 4).trans rfl
  clear h hR
  go_enter Tryz.func67, Tryz.ntmps67
  go_wp2_with (at_builtin; refine Kd.R_append k76 (w0 := W) base rfl (.tmp 6) (.tmp 10) 29 76 (.agg #[(.string ⟨#[]⟩), (.int .i64 0)]) 24 rfl Tryz.underlying29 ZA.info76 rfl (by decide) (by omega) v ds (⟨nm, m⟩ : S76) [.string nm, .int .i64 m] (fun _ => True) (fun _ => False) rfl rfl ?aP (fun _ hk => hk.elim) ?aF ?aO ?aB ?aS ?aL ?_; (case aP => exact ZA.k76_mkM _ _ _ (⟨nm, m⟩ : S76)); (case aB => exact Below.refl _ _); (case aF => exact (fun _ _ => trivial)); (case aO => exact HR.out); (case aS => exact hbase); (case aL => omega); intro v1 W1 ho hb hg hat; obtain ⟨A1, c1, rfl⟩ := Kd.R_slice ho; have h1 := blk_grown (g := b6) H.out hg (Kd.R_ne HR.out H.out (by decide)); have hd4 : W1.cell? ⟨b6, 4, none⟩ = some v := (cell_of_blk h1 4).trans rfl; have hf4 : W1.frozen? ⟨b6, 4, none⟩ = false := frozen_of_row W1 b6 4 _ _ h1; have HO := Hid.mk' ho; have HB := Hid.mk' hb; have HG := Hid.mk' hg; have H1 := Hid.mk' h1; clear ho hb hg hat h1)
  go_end0
  have e1 : (ds ++ [(⟨nm, m⟩ : S76)]).length = ds.length + 1 := by simp
  have ho := HO.out
  rw [e1] at ho
  refine ⟨rfl, .slice A1 (ds.length + 1) c1, ?_, ?_, HB.out.os, HB.out.tape, HB.out.output, ?_⟩
  · exact (heap_setCell_same _ b6 4 _ _ _ H1.out).trans rfl
  · exact Kd.R_mono (Kd.R_far (Kd.R_types ho H1.out (by decide)) (p := ⟨b6, 4, none⟩) (fun k hk => hk.2) _) (fun _ _ => trivial)
  · exact (KeepBut.of_grown HG.out b6).set_ 4 _
end Go.Proofs.YtkohjcfmcliioaaGreatDoor
namespace Go.Proofs.YtkohjcfmcliioaaGreatDoor.ZU
open Go.Proofs.YtkohjcfmcliioaaGreatDoor.ZA (errW errW_none errW_some S76 z76 k76 k76_open k76_mkM rd_T76 at_T76 S31 z31 k31 k31_open k31_mk rd_T31 at_T31)
open Go.RowKit Go.Proofs.YtkohjcfmcliioaaGreatDoorW.PrintWords Go.Proofs.YtkohjcfmcliioaaGreatDoorW.PrintLast Go.Proofs.YtkohjcfmcliioaaGreatDoorW.PrintMore
attribute [local go_sem] max2_int min2_int max_two min_two max_three min_three max_four min_four   -- for this text's walks alone
set_option linter.unusedVariables false
set_option linter.unusedSimpArgs false
theorem eqA76 (d : Nat) (w : World) (x0 y0 : ByteArray) (x1 y1 : Int) :
    (Op.equalIn (d + 2) 76 (.agg #[.string x0, .int .i64 x1]) (.agg #[.string y0, .int .i64 y1])).run Tryz.prog w = .ok (x0.toList == y0.toList && (x1 == y1)) w := by
  refine eqA_of Tryz.underlying76 (by kernel_rfl) ?_
  refine eqf_cons (by rfl) (by go_simp; rfl) (by go_simp; rfl) (by go_simp) ?_
  exact eqf_last (by rfl) (by go_simp; rfl) (by go_simp; rfl) (by go_simp)
end Go.Proofs.YtkohjcfmcliioaaGreatDoor.ZU
