/- A part of what the claim's last text leans on. -/
import Derived.Test.YtpkfnclbcmnckaaGreatDoorSC1
import Derived.Deep.RegionHeld3
import Derived.Test.YtpkfnclbcmnckaaGreatDoorProg
import Derived.Below
import Derived.Deep.Draws
import Derived.Deep.AppendLies
import Derived.Maps.AppendAt
import Derived.OwnWalk
import Derived.Laws.BytesArg
import Derived.Laws.MakeOwn
import Derived.Laws.OwnMore
import Derived.Deep.OwnRows
import Derived.Tactics
import Derived.Lib.ConvBytes
import Derived.Laws.Slices
import Derived.WalkKit
import Derived.KernelRfl
import Derived.RowKit3
import Derived.Deep.LoopGhost
import Derived.Deep.QuietTactic
import Derived.BigQuiet
import Derived.WideLaws
import Derived.Deep.DeepCutAuto
import Derived.Deep.CutBlock
import Derived.Laws.Rows
import Derived.Lib.AppendStr
import Derived.ArgAppend
import Derived.Laws.IdiomCopy
import Derived.OrdersHeld
import Derived.Laws.BitsLemmas
import Derived.RowKit
import Derived.Lib.LazyBuf
import Derived.Laws.IdiomStrings
set_option linter.unusedVariables false
namespace Go.Proofs.YtpkfnclbcmnckaaGreatDoor
open Go Go.RowKit Go.Proofs.YtpkfnclbcmnckaaGreatDoor.Dec Go.Proofs.YtpkfnclbcmnckaaGreatDoor.Mem Go.Proofs.YtpkfnclbcmnckaaGreatDoor.Wid Go.Proofs.YtpkfnclbcmnckaaGreatDoorW.PrintWords
def Rd (a : ByteArray) (l : Bool) (v : Nat) : Prop := ∀ w : World, Calls Tryz.prog 42 #[.string a] w fun e w' => ∃ b, e = .returned (.pointer (some ⟨b, 0, none⟩)) ∧ w.heap.size ≤ b ∧ IsW w' b l v ∧ Below w.heap.size w w'
theorem keep_set {w : World} {p q : Addr} {v : Value} {u : Option Value} (h : q ≠ p) (k : w.cell? p = u) : (w.setCell q v).cell? p = u := by rw [World.cell?_setCell_other _ _ _ _ h]; exact k
theorem keep_drew {w : World} {p : Addr} {u : Option Value} (k : w.cell? p = u) : w.drew.cell? p = u := k
theorem ne_addr {p q : Nat} (h : p ≠ q) : (⟨q, 0, none⟩ : Addr) ≠ ⟨p, 0, none⟩ := fun e => by injection e with e; exact h e.symm
set_option maxRecDepth 100000 in
set_option maxHeartbeats 1000000 in
theorem parted_l0 (a b : ByteArray) (w : World) (HALL : Hid (All2 a b 0)) (e48 : (b.toList == [48]) = false) (HSM : Hid (Sm2 a b 0 0 false)) (HEE : Hid (Env w))
    (lx ly : Bool) (vx vy : Nat) (HRA : Hid (Rd a lx vx)) (HRB : Hid (Rd b ly vy)) (FX : Hid (vx < B ^ 114)) (FY : Hid (vy < B ^ 114)) (HP : Hid (0 < vy)) (h0 : vx % vy = 0) :
    PartedP a b w (dec (sv (lx != ly) (vx / vy)), dec (sv lx 0), 0) := by
  unfold PartedP
  go_enter Tryz.func48, Tryz.ntmps48
  go_wp2_with ((with_reducible refine gate_dst (N := 20) rfl ?_); refine Kd.R_lit Kd.string _ 22 ?hg (N := 20) ?hd (xs := ([a, b] : List ByteArray)) (inner := [.string a, .string b]) (ok := fun _ => True) (okp := fun _ => True) ?hr ?hp (fun _ hk => hk) trivial (Below.refl _ _) (Nat.le_refl _) (by simp) ?_; (case hd => rfl); (case hg => rfl); (case hr => first | (go_simp; done) | (go_simp; rfl)); (case hp => exact (Reps.one (show Kd.M Kd.string _ _ _ a [.string a] from rfl) (Reps.one (show Kd.M Kd.string _ _ _ b [.string b] from rfl) (Reps.none _ _)))); intro v1 w1 ho hb _ _; have HO := Hid.mk' ho; have HB1 := Hid.mk' hb; clear ho hb; obtain ⟨Ao, co, eo⟩ := Kd.R_slice HO.out; subst eo)
  refine (HALL.out Ao co w1 (Kd.R_reads' HO.out).2.2 (Kd.R_reads' HO.out).2.1).mono ?_
  rintro e w2 ⟨rfl, hb2⟩
  have HB2 := Hid.mk' (Below.trans HB1.out (hb2.mono HB1.out.size))
  clear hb2 HO HB1
  go_wp2_with fail
  refine (HSM.out w2).mono ?_
  rintro e w3 ⟨rfl, hb3⟩
  have HB3 := Hid.mk' (Below.trans HB2.out (hb3.mono HB2.out.size))
  clear hb3 HB2 HSM HALL
  go_wp2_with fail
  refine (HRA.out w3).mono ?_
  rintro e w4 ⟨pa, rfl, hpa, hwa, hb4⟩
  have HB4 := Hid.mk' (Below.trans HB3.out (hb4.mono HB3.out.size))
  have HWA := Hid.mk' hwa
  clear hb4 hwa HRA HB3
  go_wp2_with fail
  refine (HRB.out w4).mono ?_
  rintro e w5 ⟨pb, rfl, hpb, hwb, hb5⟩
  have hab : pa ≠ pb := by have := HWA.out.size; omega
  have HWA2 := Hid.mk' (HWA.out.below hb5 HWA.out.size)
  have HB5 := Hid.mk' (Below.trans HB4.out (hb5.mono HB4.out.size))
  have HWB := Hid.mk' hwb
  clear hb5 hwb HRB HB4 HWA hpa hpb
  go_wp2_with fail
  refine (divided_any pa pb lx ly vx vy w5 HWA2.out HWB.out (fits_114 FX.out) (fits_B FY.out) HP.out).mono ?_
  rintro e w6 ⟨q, r, rfl, hq, hr, hqr, hwq, hwr, hb6⟩
  have haq : pa ≠ q := by have := HWA2.out.size; omega
  have har : pa ≠ r := by have := HWA2.out.size; omega
  have hbq : pb ≠ q := by have := HWB.out.size; omega
  have hbr : pb ≠ r := by have := HWB.out.size; omega
  have HB6 := Hid.mk' (Below.trans HB5.out (hb6.mono HB5.out.size))
  have hgq : w.heap.size ≤ q := Nat.le_trans HB5.out.size hq
  have hgr : w.heap.size ≤ r := Nat.le_trans HB5.out.size hr
  have HX := Hid.mk' (HWA2.out.below hb6 HWA2.out.size)
  have HY := Hid.mk' (HWB.out.below hb6 HWB.out.size)
  have HQ := Hid.mk' hwq
  have HR := Hid.mk' hwr
  clear hb6 hwq hwr hq hr HWA2 HWB HB5
  have k1 := HX.out.cell0
  have k2 := HY.out.cell0
  have k3 := HQ.out.cell0
  have k4 := HQ.out.free 0
  have k5 := HR.out.cell0
  have k6 := HR.out.free 0
  have n1 := ne_addr haq
  have n2 := ne_addr har
  have n3 := ne_addr hbq
  have n4 := ne_addr hbr
  have n5 := ne_addr hqr
  have n6 := ne_addr (Ne.symm hqr)
  go_wp2_with fail
  go_region_held3 (fun w' => w'.cell? ⟨pa, 0, none⟩ = some (.bool lx) ∧ w'.cell? ⟨pb, 0, none⟩ = some (.bool ly)) (first | (go_keep; done) | (refine And.intro ?_ ?_ <;> repeat (first | assumption | apply keep_drew | refine keep_set (by assumption) ?_))) (fail)
  have HQ7 : Hid (IsW ((w6.setCell ⟨q, 0, none⟩ (.bool (!(lx == ly)))).setCell ⟨r, 0, none⟩ (.bool lx)).drew q (!(lx == ly)) (vx / vy)) := IsX.drew1 ((HQ.out.set0 _).other r 0 _ hqr)
  have HR7 : Hid (IsW ((w6.setCell ⟨q, 0, none⟩ (.bool (!(lx == ly)))).setCell ⟨r, 0, none⟩ (.bool lx)).drew r lx (vx % vy)) := IsX.drew1 ((HR.out.other q 0 _ hqr.symm).set0 _)
  have HX7 : Hid (IsW ((w6.setCell ⟨q, 0, none⟩ (.bool (!(lx == ly)))).setCell ⟨r, 0, none⟩ (.bool lx)).drew pa lx vx) := IsX.drew1 ((HX.out.other q 0 _ haq).other r 0 _ har)
  have HY7 : Hid (IsW ((w6.setCell ⟨q, 0, none⟩ (.bool (!(lx == ly)))).setCell ⟨r, 0, none⟩ (.bool lx)).drew pb ly vy) := IsX.drew1 ((HY.out.other q 0 _ hbq).other r 0 _ hbr)
  have HB7 : Hid (Below w.heap.size w ((w6.setCell ⟨q, 0, none⟩ (.bool (!(lx == ly)))).setCell ⟨r, 0, none⟩ (.bool lx)).drew) := Below.drew ((HB6.out.setCell (p := ⟨q, 0, none⟩) hgq _).setCell (p := ⟨r, 0, none⟩) hgr _)
  generalize ((w6.setCell ⟨q, 0, none⟩ (.bool (!(lx == ly)))).setCell ⟨r, 0, none⟩ (.bool lx)).drew = W7 at HQ7 HR7 HX7 HY7 HB7 ⊢
  clear k1 k2 k3 k4 k5 k6 n1 n2 n3 n4 n5 n6 HX HY HQ HR HB6
  have r1 := HR7.out.cell1
  have hn : ((nw (vx % vy) : Nat) : Int) = 0 := by rw [h0, nw_zero]; rfl
  rw [hn] at r1
  clear hn
  go_wp2_with fail
  go_quiet (fail)
  have HQ8 : Hid (IsW (W7.drewN nq) q (!(lx == ly)) (vx / vy)) := IsX.drew HQ7.out nq
  have HR8 : Hid (IsW (W7.drewN nq) r lx (vx % vy)) := IsX.drew HR7.out nq
  have HB8 : Hid (Below w.heap.size w (W7.drewN nq)) := pwd_below_drewN HB7.out nq
  generalize W7.drewN nq = W8 at HQ8 HR8 HB8 ⊢
  clear HQ7 HR7 HX7 HY7 HB7
  go_wp2_with fail
  refine (text_any q _ (vx / vy) _ HQ8.out (fits_114 (fits_div FX.out)) (HEE.out.below HB8.out).1).mono ?_
  rintro e w9 ⟨rfl, hb9⟩
  have HB9 := Hid.mk' (Below.trans HB8.out (hb9.mono HB8.out.size))
  have HR9 := Hid.mk' (HR8.out.below hb9 HR8.out.size)
  clear hb9
  go_wp2_with fail
  refine (text_any r _ (vx % vy) _ HR9.out (fits_114 (fits_mod FX.out)) (HEE.out.below HB9.out).1).mono ?_
  rintro e w10 ⟨rfl, hb10⟩
  have HB10 := Hid.mk' (Below.trans HB9.out (hb10.mono HB9.out.size))
  clear hb10
  go_wp2_with fail
  go_ret3
  exact ⟨rfl, HB10.out⟩
set_option maxRecDepth 100000 in
set_option maxHeartbeats 1000000 in
theorem parted_lt (a b : ByteArray) (w : World) (HALL : Hid (All2 a b 0)) (e48 : (b.toList == [48]) = false) (HSM : Hid (Sm2 a b 0 0 false)) (HEE : Hid (Env w))
    (vx vy : Nat) (HRA : Hid (Rd a true vx)) (HRB : Hid (Rd b true vy)) (FX : Hid (vx < B ^ 114)) (FY : Hid (vy < B ^ 114)) (HP : Hid (0 < vy)) (h0 : 0 < vx % vy) :
    PartedP a b w (dec (sv (false) (vx / vy)), dec (sv true (vx % vy)), 0) := by
  unfold PartedP
  go_enter Tryz.func48, Tryz.ntmps48
  go_wp2_with ((with_reducible refine gate_dst (N := 20) rfl ?_); refine Kd.R_lit Kd.string _ 22 ?hg (N := 20) ?hd (xs := ([a, b] : List ByteArray)) (inner := [.string a, .string b]) (ok := fun _ => True) (okp := fun _ => True) ?hr ?hp (fun _ hk => hk) trivial (Below.refl _ _) (Nat.le_refl _) (by simp) ?_; (case hd => rfl); (case hg => rfl); (case hr => first | (go_simp; done) | (go_simp; rfl)); (case hp => exact (Reps.one (show Kd.M Kd.string _ _ _ a [.string a] from rfl) (Reps.one (show Kd.M Kd.string _ _ _ b [.string b] from rfl) (Reps.none _ _)))); intro v1 w1 ho hb _ _; have HO := Hid.mk' ho; have HB1 := Hid.mk' hb; clear ho hb; obtain ⟨Ao, co, eo⟩ := Kd.R_slice HO.out; subst eo)
  refine (HALL.out Ao co w1 (Kd.R_reads' HO.out).2.2 (Kd.R_reads' HO.out).2.1).mono ?_
  rintro e w2 ⟨rfl, hb2⟩
  have HB2 := Hid.mk' (Below.trans HB1.out (hb2.mono HB1.out.size))
  clear hb2 HO HB1
  go_wp2_with fail
  refine (HSM.out w2).mono ?_
  rintro e w3 ⟨rfl, hb3⟩
  have HB3 := Hid.mk' (Below.trans HB2.out (hb3.mono HB2.out.size))
  clear hb3 HB2 HSM HALL
  go_wp2_with fail
  refine (HRA.out w3).mono ?_
  rintro e w4 ⟨pa, rfl, hpa, hwa, hb4⟩
  have HB4 := Hid.mk' (Below.trans HB3.out (hb4.mono HB3.out.size))
  have HWA := Hid.mk' hwa
  clear hb4 hwa HRA HB3
  go_wp2_with fail
  refine (HRB.out w4).mono ?_
  rintro e w5 ⟨pb, rfl, hpb, hwb, hb5⟩
  have hab : pa ≠ pb := by have := HWA.out.size; omega
  have HWA2 := Hid.mk' (HWA.out.below hb5 HWA.out.size)
  have HB5 := Hid.mk' (Below.trans HB4.out (hb5.mono HB4.out.size))
  have HWB := Hid.mk' hwb
  clear hb5 hwb HRB HB4 HWA hpa hpb
  go_wp2_with fail
  refine (divided_any pa pb true true vx vy w5 HWA2.out HWB.out (fits_114 FX.out) (fits_B FY.out) HP.out).mono ?_
  rintro e w6 ⟨q, r, rfl, hq, hr, hqr, hwq, hwr, hb6⟩
  have haq : pa ≠ q := by have := HWA2.out.size; omega
  have har : pa ≠ r := by have := HWA2.out.size; omega
  have hbq : pb ≠ q := by have := HWB.out.size; omega
  have hbr : pb ≠ r := by have := HWB.out.size; omega
  have HB6 := Hid.mk' (Below.trans HB5.out (hb6.mono HB5.out.size))
  have hgq : w.heap.size ≤ q := Nat.le_trans HB5.out.size hq
  have hgr : w.heap.size ≤ r := Nat.le_trans HB5.out.size hr
  have HX := Hid.mk' (HWA2.out.below hb6 HWA2.out.size)
  have HY := Hid.mk' (HWB.out.below hb6 HWB.out.size)
  have HQ := Hid.mk' hwq
  have HR := Hid.mk' hwr
  clear hb6 hwq hwr hq hr HWA2 HWB HB5
  have k1 := HX.out.cell0
  have k2 := HY.out.cell0
  have k3 := HQ.out.cell0
  have k4 := HQ.out.free 0
  have k5 := HR.out.cell0
  have k6 := HR.out.free 0
  have n1 := ne_addr haq
  have n2 := ne_addr har
  have n3 := ne_addr hbq
  have n4 := ne_addr hbr
  have n5 := ne_addr hqr
  have n6 := ne_addr (Ne.symm hqr)
  go_wp2_with fail
  go_region_held3 (fun w' => w'.cell? ⟨pa, 0, none⟩ = some (.bool true) ∧ w'.cell? ⟨pb, 0, none⟩ = some (.bool true)) (first | (go_keep; done) | (refine And.intro ?_ ?_ <;> repeat (first | assumption | apply keep_drew | refine keep_set (by assumption) ?_))) (fail)
  have HQ7 : Hid (IsW ((w6.setCell ⟨q, 0, none⟩ (.bool false)).setCell ⟨r, 0, none⟩ (.bool true)).drew q false (vx / vy)) := IsX.drew1 ((HQ.out.set0 _).other r 0 _ hqr)
  have HR7 : Hid (IsW ((w6.setCell ⟨q, 0, none⟩ (.bool false)).setCell ⟨r, 0, none⟩ (.bool true)).drew r true (vx % vy)) := IsX.drew1 ((HR.out.other q 0 _ hqr.symm).set0 _)
  have HX7 : Hid (IsW ((w6.setCell ⟨q, 0, none⟩ (.bool false)).setCell ⟨r, 0, none⟩ (.bool true)).drew pa true vx) := IsX.drew1 ((HX.out.other q 0 _ haq).other r 0 _ har)
  have HY7 : Hid (IsW ((w6.setCell ⟨q, 0, none⟩ (.bool false)).setCell ⟨r, 0, none⟩ (.bool true)).drew pb true vy) := IsX.drew1 ((HY.out.other q 0 _ hbq).other r 0 _ hbr)
  have HB7 : Hid (Below w.heap.size w ((w6.setCell ⟨q, 0, none⟩ (.bool false)).setCell ⟨r, 0, none⟩ (.bool true)).drew) := Below.drew ((HB6.out.setCell (p := ⟨q, 0, none⟩) hgq _).setCell (p := ⟨r, 0, none⟩) hgr _)
  generalize ((w6.setCell ⟨q, 0, none⟩ (.bool false)).setCell ⟨r, 0, none⟩ (.bool true)).drew = W7 at HQ7 HR7 HX7 HY7 HB7 ⊢
  clear k1 k2 k3 k4 k5 k6 n1 n2 n3 n4 n5 n6 HX HY HQ HR HB6
  have r1 := HR7.out.cell1
  have hn : (0 : Int) < (nw (vx % vy) : Int) := by have := nw_pos.2 h0; omega
  have x0 := HX7.out.cell0
  have y0 := HY7.out.cell0
  generalize ((nw (vx % vy) : Nat) : Int) = m at r1 hn
  have hd : decide ((0 : Int) < m) = true := decide_eq_true hn
  go_wp2_with fail
  go_quiet (fail)
  have HQ8 : Hid (IsW (W7.drewN nq) q false (vx / vy)) := IsX.drew HQ7.out nq
  have HR8 : Hid (IsW (W7.drewN nq) r true (vx % vy)) := IsX.drew HR7.out nq
  have HB8 : Hid (Below w.heap.size w (W7.drewN nq)) := pwd_below_drewN HB7.out nq
  generalize W7.drewN nq = W8 at HQ8 HR8 HB8 ⊢
  clear HQ7 HR7 HX7 HY7 HB7
  go_wp2_with fail
  refine (text_any q _ (vx / vy) _ HQ8.out (fits_114 (fits_div FX.out)) (HEE.out.below HB8.out).1).mono ?_
  rintro e w9 ⟨rfl, hb9⟩
  have HB9 := Hid.mk' (Below.trans HB8.out (hb9.mono HB8.out.size))
  have HR9 := Hid.mk' (HR8.out.below hb9 HR8.out.size)
  clear hb9
  go_wp2_with fail
  refine (text_any r _ (vx % vy) _ HR9.out (fits_114 (fits_mod FX.out)) (HEE.out.below HB9.out).1).mono ?_
  rintro e w10 ⟨rfl, hb10⟩
  have HB10 := Hid.mk' (Below.trans HB9.out (hb10.mono HB9.out.size))
  clear hb10
  go_wp2_with fail
  go_ret3
  exact ⟨rfl, HB10.out⟩
set_option maxRecDepth 100000 in
set_option maxHeartbeats 1000000 in
theorem parted_lf (a b : ByteArray) (w : World) (HALL : Hid (All2 a b 0)) (e48 : (b.toList == [48]) = false) (HSM : Hid (Sm2 a b 0 0 false)) (HEE : Hid (Env w))
    (vx vy : Nat) (HRA : Hid (Rd a false vx)) (HRB : Hid (Rd b false vy)) (FX : Hid (vx < B ^ 114)) (FY : Hid (vy < B ^ 114)) (HP : Hid (0 < vy)) (h0 : 0 < vx % vy) :
    PartedP a b w (dec (sv (false) (vx / vy)), dec (sv false (vx % vy)), 0) := by
  unfold PartedP
  go_enter Tryz.func48, Tryz.ntmps48
  go_wp2_with ((with_reducible refine gate_dst (N := 20) rfl ?_); refine Kd.R_lit Kd.string _ 22 ?hg (N := 20) ?hd (xs := ([a, b] : List ByteArray)) (inner := [.string a, .string b]) (ok := fun _ => True) (okp := fun _ => True) ?hr ?hp (fun _ hk => hk) trivial (Below.refl _ _) (Nat.le_refl _) (by simp) ?_; (case hd => rfl); (case hg => rfl); (case hr => first | (go_simp; done) | (go_simp; rfl)); (case hp => exact (Reps.one (show Kd.M Kd.string _ _ _ a [.string a] from rfl) (Reps.one (show Kd.M Kd.string _ _ _ b [.string b] from rfl) (Reps.none _ _)))); intro v1 w1 ho hb _ _; have HO := Hid.mk' ho; have HB1 := Hid.mk' hb; clear ho hb; obtain ⟨Ao, co, eo⟩ := Kd.R_slice HO.out; subst eo)
  refine (HALL.out Ao co w1 (Kd.R_reads' HO.out).2.2 (Kd.R_reads' HO.out).2.1).mono ?_
  rintro e w2 ⟨rfl, hb2⟩
  have HB2 := Hid.mk' (Below.trans HB1.out (hb2.mono HB1.out.size))
  clear hb2 HO HB1
  go_wp2_with fail
  refine (HSM.out w2).mono ?_
  rintro e w3 ⟨rfl, hb3⟩
  have HB3 := Hid.mk' (Below.trans HB2.out (hb3.mono HB2.out.size))
  clear hb3 HB2 HSM HALL
  go_wp2_with fail
  refine (HRA.out w3).mono ?_
  rintro e w4 ⟨pa, rfl, hpa, hwa, hb4⟩
  have HB4 := Hid.mk' (Below.trans HB3.out (hb4.mono HB3.out.size))
  have HWA := Hid.mk' hwa
  clear hb4 hwa HRA HB3
  go_wp2_with fail
  refine (HRB.out w4).mono ?_
  rintro e w5 ⟨pb, rfl, hpb, hwb, hb5⟩
  have hab : pa ≠ pb := by have := HWA.out.size; omega
  have HWA2 := Hid.mk' (HWA.out.below hb5 HWA.out.size)
  have HB5 := Hid.mk' (Below.trans HB4.out (hb5.mono HB4.out.size))
  have HWB := Hid.mk' hwb
  clear hb5 hwb HRB HB4 HWA hpa hpb
  go_wp2_with fail
  refine (divided_any pa pb false false vx vy w5 HWA2.out HWB.out (fits_114 FX.out) (fits_B FY.out) HP.out).mono ?_
  rintro e w6 ⟨q, r, rfl, hq, hr, hqr, hwq, hwr, hb6⟩
  have haq : pa ≠ q := by have := HWA2.out.size; omega
  have har : pa ≠ r := by have := HWA2.out.size; omega
  have hbq : pb ≠ q := by have := HWB.out.size; omega
  have hbr : pb ≠ r := by have := HWB.out.size; omega
  have HB6 := Hid.mk' (Below.trans HB5.out (hb6.mono HB5.out.size))
  have hgq : w.heap.size ≤ q := Nat.le_trans HB5.out.size hq
  have hgr : w.heap.size ≤ r := Nat.le_trans HB5.out.size hr
  have HX := Hid.mk' (HWA2.out.below hb6 HWA2.out.size)
  have HY := Hid.mk' (HWB.out.below hb6 HWB.out.size)
  have HQ := Hid.mk' hwq
  have HR := Hid.mk' hwr
  clear hb6 hwq hwr hq hr HWA2 HWB HB5
  have k1 := HX.out.cell0
  have k2 := HY.out.cell0
  have k3 := HQ.out.cell0
  have k4 := HQ.out.free 0
  have k5 := HR.out.cell0
  have k6 := HR.out.free 0
  have n1 := ne_addr haq
  have n2 := ne_addr har
  have n3 := ne_addr hbq
  have n4 := ne_addr hbr
  have n5 := ne_addr hqr
  have n6 := ne_addr (Ne.symm hqr)
  go_wp2_with fail
  go_region_held3 (fun w' => w'.cell? ⟨pa, 0, none⟩ = some (.bool false) ∧ w'.cell? ⟨pb, 0, none⟩ = some (.bool false)) (first | (go_keep; done) | (refine And.intro ?_ ?_ <;> repeat (first | assumption | apply keep_drew | refine keep_set (by assumption) ?_))) (fail)
  have HQ7 : Hid (IsW ((w6.setCell ⟨q, 0, none⟩ (.bool false)).setCell ⟨r, 0, none⟩ (.bool false)).drew q false (vx / vy)) := IsX.drew1 ((HQ.out.set0 _).other r 0 _ hqr)
  have HR7 : Hid (IsW ((w6.setCell ⟨q, 0, none⟩ (.bool false)).setCell ⟨r, 0, none⟩ (.bool false)).drew r false (vx % vy)) := IsX.drew1 ((HR.out.other q 0 _ hqr.symm).set0 _)
  have HX7 : Hid (IsW ((w6.setCell ⟨q, 0, none⟩ (.bool false)).setCell ⟨r, 0, none⟩ (.bool false)).drew pa false vx) := IsX.drew1 ((HX.out.other q 0 _ haq).other r 0 _ har)
  have HY7 : Hid (IsW ((w6.setCell ⟨q, 0, none⟩ (.bool false)).setCell ⟨r, 0, none⟩ (.bool false)).drew pb false vy) := IsX.drew1 ((HY.out.other q 0 _ hbq).other r 0 _ hbr)
  have HB7 : Hid (Below w.heap.size w ((w6.setCell ⟨q, 0, none⟩ (.bool false)).setCell ⟨r, 0, none⟩ (.bool false)).drew) := Below.drew ((HB6.out.setCell (p := ⟨q, 0, none⟩) hgq _).setCell (p := ⟨r, 0, none⟩) hgr _)
  generalize ((w6.setCell ⟨q, 0, none⟩ (.bool false)).setCell ⟨r, 0, none⟩ (.bool false)).drew = W7 at HQ7 HR7 HX7 HY7 HB7 ⊢
  clear k1 k2 k3 k4 k5 k6 n1 n2 n3 n4 n5 n6 HX HY HQ HR HB6
  have r1 := HR7.out.cell1
  have hn : (0 : Int) < (nw (vx % vy) : Int) := by have := nw_pos.2 h0; omega
  have x0 := HX7.out.cell0
  have y0 := HY7.out.cell0
  generalize ((nw (vx % vy) : Nat) : Int) = m at r1 hn
  have hd : decide ((0 : Int) < m) = true := decide_eq_true hn
  go_wp2_with fail
  go_quiet (fail)
  have HQ8 : Hid (IsW (W7.drewN nq) q false (vx / vy)) := IsX.drew HQ7.out nq
  have HR8 : Hid (IsW (W7.drewN nq) r false (vx % vy)) := IsX.drew HR7.out nq
  have HB8 : Hid (Below w.heap.size w (W7.drewN nq)) := pwd_below_drewN HB7.out nq
  generalize W7.drewN nq = W8 at HQ8 HR8 HB8 ⊢
  clear HQ7 HR7 HX7 HY7 HB7
  go_wp2_with fail
  refine (text_any q _ (vx / vy) _ HQ8.out (fits_114 (fits_div FX.out)) (HEE.out.below HB8.out).1).mono ?_
  rintro e w9 ⟨rfl, hb9⟩
  have HB9 := Hid.mk' (Below.trans HB8.out (hb9.mono HB8.out.size))
  have HR9 := Hid.mk' (HR8.out.below hb9 HR8.out.size)
  clear hb9
  go_wp2_with fail
  refine (text_any r _ (vx % vy) _ HR9.out (fits_114 (fits_mod FX.out)) (HEE.out.below HB9.out).1).mono ?_
  rintro e w10 ⟨rfl, hb10⟩
  have HB10 := Hid.mk' (Below.trans HB9.out (hb10.mono HB9.out.size))
  clear hb10
  go_wp2_with fail
  go_ret3
  exact ⟨rfl, HB10.out⟩
end Go.Proofs.YtpkfnclbcmnckaaGreatDoor
set_option linter.unusedVariables false
namespace Go.Proofs.YtpkfnclbcmnckaaGreatDoor
open Go Go.RowKit Go.Proofs.YtpkfnclbcmnckaaGreatDoor.Dec Go.Proofs.YtpkfnclbcmnckaaGreatDoor.Mem Go.Proofs.YtpkfnclbcmnckaaGreatDoor.Wid Go.Proofs.YtpkfnclbcmnckaaGreatDoorW.PrintWords
theorem one_114 : 1 < B ^ 114 := Nat.one_lt_pow (by decide) (by decide)
theorem one_lay : (Tryz.zeroCells73.setIfInBounds 0 (.bool true)).setIfInBounds 1 (.int .i64 1) = wcell true 1 (List.replicate 232 0) := by kernel_rfl
theorem one_new (w : World) : IsX (w.alloc (.cells ((Tryz.zeroCells73.setIfInBounds 0 (.bool true)).setIfInBounds 1 (.int .i64 1)) 73)) w.heap.size true 1 (List.replicate 232 0) := by
  rw [one_lay]
  exact isX_alloc_new w true 1 _ List.length_replicate
theorem nw_1 : nw 1 = 1 := by
  have h := nw_pos (v := 1)
  have h2 := (nw_le_iff 1 1).2 (by decide)
  have := h.2 (by decide)
  omega
theorem size_set (w : World) (p : Addr) (v : Value) : (w.setCell p v).heap.size = w.heap.size := by simp [World.setCell]
theorem one_lay2 : ((Tryz.zeroCells73.setIfInBounds 0 (.bool true)).setIfInBounds 1 (.int .i64 1)).setIfInBounds 2 (.int .i64 1) = wcell true 1 (W 1) := by kernel_rfl
theorem one_set (w : World) : IsW (w.alloc (.cells (((Tryz.zeroCells73.setIfInBounds 0 (.bool true)).setIfInBounds 1 (.int .i64 1)).setIfInBounds 2 (.int .i64 1)) 73)) w.heap.size true 1 := by
  show IsX _ _ _ _ _
  rw [one_lay2, nw_1]
  exact isX_alloc_new w true 1 _ (by simp)
set_option maxRecDepth 100000 in
set_option maxHeartbeats 1000000 in
theorem parted_ltf (a b : ByteArray) (w : World) (HALL : Hid (All2 a b 0)) (e48 : (b.toList == [48]) = false) (HSM : Hid (Sm2 a b 0 0 false)) (HEE : Hid (Env w))
    (vx vy : Nat) (HRA : Hid (Rd a true vx)) (HRB : Hid (Rd b false vy)) (FX : Hid (vx < B ^ 114)) (FY : Hid (vy < B ^ 114)) (HP : Hid (0 < vy)) (h0 : 0 < vx % vy) :
    PartedP a b w (dec (sv true (vx / vy) + sv true 1), dec (sv true (vx % vy) + sv false vy), 0) := by
  unfold PartedP
  go_enter Tryz.func48, Tryz.ntmps48
  go_wp2_with ((with_reducible refine gate_dst (N := 20) rfl ?_); refine Kd.R_lit Kd.string _ 22 ?hg (N := 20) ?hd (xs := ([a, b] : List ByteArray)) (inner := [.string a, .string b]) (ok := fun _ => True) (okp := fun _ => True) ?hr ?hp (fun _ hk => hk) trivial (Below.refl _ _) (Nat.le_refl _) (by simp) ?_; (case hd => rfl); (case hg => rfl); (case hr => first | (go_simp; done) | (go_simp; rfl)); (case hp => exact (Reps.one (show Kd.M Kd.string _ _ _ a [.string a] from rfl) (Reps.one (show Kd.M Kd.string _ _ _ b [.string b] from rfl) (Reps.none _ _)))); intro v1 w1 ho hb _ _; have HO := Hid.mk' ho; have HB1 := Hid.mk' hb; clear ho hb; obtain ⟨Ao, co, eo⟩ := Kd.R_slice HO.out; subst eo)
  refine (HALL.out Ao co w1 (Kd.R_reads' HO.out).2.2 (Kd.R_reads' HO.out).2.1).mono ?_
  rintro e w2 ⟨rfl, hb2⟩
  have HB2 := Hid.mk' (Below.trans HB1.out (hb2.mono HB1.out.size))
  clear hb2 HO HB1
  go_wp2_with fail
  refine (HSM.out w2).mono ?_
  rintro e w3 ⟨rfl, hb3⟩
  have HB3 := Hid.mk' (Below.trans HB2.out (hb3.mono HB2.out.size))
  clear hb3 HB2 HSM HALL
  go_wp2_with fail
  refine (HRA.out w3).mono ?_
  rintro e w4 ⟨pa, rfl, hpa, hwa, hb4⟩
  have HB4 := Hid.mk' (Below.trans HB3.out (hb4.mono HB3.out.size))
  have HWA := Hid.mk' hwa
  clear hb4 hwa HRA HB3
  go_wp2_with fail
  refine (HRB.out w4).mono ?_
  rintro e w5 ⟨pb, rfl, hpb, hwb, hb5⟩
  have hab : pa ≠ pb := by have := HWA.out.size; omega
  have HWA2 := Hid.mk' (HWA.out.below hb5 HWA.out.size)
  have HB5 := Hid.mk' (Below.trans HB4.out (hb5.mono HB4.out.size))
  have HWB := Hid.mk' hwb
  clear hb5 hwb HRB HB4 HWA hpa hpb
  go_wp2_with fail
  refine (divided_any pa pb true false vx vy w5 HWA2.out HWB.out (fits_114 FX.out) (fits_B FY.out) HP.out).mono ?_
  rintro e w6 ⟨q, r, rfl, hq, hr, hqr, hwq, hwr, hb6⟩
  have haq : pa ≠ q := by have := HWA2.out.size; omega
  have har : pa ≠ r := by have := HWA2.out.size; omega
  have hbq : pb ≠ q := by have := HWB.out.size; omega
  have hbr : pb ≠ r := by have := HWB.out.size; omega
  have HB6 := Hid.mk' (Below.trans HB5.out (hb6.mono HB5.out.size))
  have hgq : w.heap.size ≤ q := Nat.le_trans HB5.out.size hq
  have hgr : w.heap.size ≤ r := Nat.le_trans HB5.out.size hr
  have HX := Hid.mk' (HWA2.out.below hb6 HWA2.out.size)
  have HY := Hid.mk' (HWB.out.below hb6 HWB.out.size)
  have HQ := Hid.mk' hwq
  have HR := Hid.mk' hwr
  clear hb6 hwq hwr hq hr HWA2 HWB HB5
  have k1 := HX.out.cell0
  have k2 := HY.out.cell0
  have k3 := HQ.out.cell0
  have k4 := HQ.out.free 0
  have k5 := HR.out.cell0
  have k6 := HR.out.free 0
  have n1 := ne_addr haq
  have n2 := ne_addr har
  have n3 := ne_addr hbq
  have n4 := ne_addr hbr
  have n5 := ne_addr hqr
  have n6 := ne_addr (Ne.symm hqr)
  go_wp2_with fail
  go_region_held3 (fun w' => w'.cell? ⟨pa, 0, none⟩ = some (.bool true) ∧ w'.cell? ⟨pb, 0, none⟩ = some (.bool false)) (first | (go_keep; done) | (refine And.intro ?_ ?_ <;> repeat (first | assumption | apply keep_drew | refine keep_set (by assumption) ?_))) (fail)
  have HQ7 : Hid (IsW ((w6.setCell ⟨q, 0, none⟩ (.bool true)).setCell ⟨r, 0, none⟩ (.bool true)).drew q true (vx / vy)) := IsX.drew1 ((HQ.out.set0 _).other r 0 _ hqr)
  have HR7 : Hid (IsW ((w6.setCell ⟨q, 0, none⟩ (.bool true)).setCell ⟨r, 0, none⟩ (.bool true)).drew r true (vx % vy)) := IsX.drew1 ((HR.out.other q 0 _ hqr.symm).set0 _)
  have HX7 : Hid (IsW ((w6.setCell ⟨q, 0, none⟩ (.bool true)).setCell ⟨r, 0, none⟩ (.bool true)).drew pa true vx) := IsX.drew1 ((HX.out.other q 0 _ haq).other r 0 _ har)
  have HY7 : Hid (IsW ((w6.setCell ⟨q, 0, none⟩ (.bool true)).setCell ⟨r, 0, none⟩ (.bool true)).drew pb false vy) := IsX.drew1 ((HY.out.other q 0 _ hbq).other r 0 _ hbr)
  have HB7 : Hid (Below w.heap.size w ((w6.setCell ⟨q, 0, none⟩ (.bool true)).setCell ⟨r, 0, none⟩ (.bool true)).drew) := Below.drew ((HB6.out.setCell (p := ⟨q, 0, none⟩) hgq _).setCell (p := ⟨r, 0, none⟩) hgr _)
  generalize ((w6.setCell ⟨q, 0, none⟩ (.bool true)).setCell ⟨r, 0, none⟩ (.bool true)).drew = W7 at HQ7 HR7 HX7 HY7 HB7 ⊢
  clear k1 k2 k3 k4 k5 k6 n1 n2 n3 n4 n5 n6 HX HY HQ HR HB6
  have r1 := HR7.out.cell1
  have hn : (0 : Int) < (nw (vx % vy) : Int) := by have := nw_pos.2 h0; omega
  have x0 := HX7.out.cell0
  have y0 := HY7.out.cell0
  generalize ((nw (vx % vy) : Nat) : Int) = m at r1 hn
  have hd : decide ((0 : Int) < m) = true := decide_eq_true hn
  go_wp2_with fail
  go_quiet (fail)
  have HQ8 : Hid (IsW (W7.drewN nq) q true (vx / vy)) := IsX.drew HQ7.out nq
  have HR8 : Hid (IsW (W7.drewN nq) r true (vx % vy)) := IsX.drew HR7.out nq
  have HB8 : Hid (Below w.heap.size w (W7.drewN nq)) := pwd_below_drewN HB7.out nq
  have HY8 : Hid (IsW (W7.drewN nq) pb false vy) := IsX.drew HY7.out nq
  generalize W7.drewN nq = W8 at HQ8 HR8 HB8 HY8 ⊢
  clear HQ7 HR7 HX7 HY7 HB7
  clear r1 hn x0 y0 hd
  have hqs := HQ8.out.size
  have hrs := HR8.out.size
  have hys := HY8.out.size
  have a1 := (one_new W8).cellw 0 (by decide)
  have a2 := (one_new W8).free 2
  have Hq2 : Hid (IsW (W8.alloc (.cells (((Tryz.zeroCells73.setIfInBounds 0 (.bool true)).setIfInBounds 1 (.int .i64 1)).setIfInBounds 2 (.int .i64 1)) 73)) q true (vx / vy)) := HQ8.out.alloc _
  have hq3 := Hq2.out.cell0
  have hq4 := Hq2.out.free 0
  have HB9 : Hid (Below w.heap.size w ((W8.setCell ⟨q, 0, none⟩ (.bool true)).alloc (.cells (((Tryz.zeroCells73.setIfInBounds 0 (.bool true)).setIfInBounds 1 (.int .i64 1)).setIfInBounds 2 (.int .i64 1)) 73))) := (HB8.out.setCell (p := ⟨q, 0, none⟩) hgq _).alloc (by rw [size_set]; exact HB8.out.size) _
  have Hq5 : Hid (IsW ((W8.setCell ⟨q, 0, none⟩ (.bool true)).alloc (.cells (((Tryz.zeroCells73.setIfInBounds 0 (.bool true)).setIfInBounds 1 (.int .i64 1)).setIfInBounds 2 (.int .i64 1)) 73)) q true (vx / vy)) := (IsX.set0 HQ8.out true).alloc _
  have Hr5 : Hid (IsW ((W8.setCell ⟨q, 0, none⟩ (.bool true)).alloc (.cells (((Tryz.zeroCells73.setIfInBounds 0 (.bool true)).setIfInBounds 1 (.int .i64 1)).setIfInBounds 2 (.int .i64 1)) 73)) r true (vx % vy)) := (IsX.other HR8.out q 0 (.bool true) hqr.symm).alloc _
  have Hy5 : Hid (IsW ((W8.setCell ⟨q, 0, none⟩ (.bool true)).alloc (.cells (((Tryz.zeroCells73.setIfInBounds 0 (.bool true)).setIfInBounds 1 (.int .i64 1)).setIfInBounds 2 (.int .i64 1)) 73)) pb false vy) := (IsX.other HY8.out q 0 (.bool true) hbq).alloc _
  have Ho5 : Hid (IsW ((W8.setCell ⟨q, 0, none⟩ (.bool true)).alloc (.cells (((Tryz.zeroCells73.setIfInBounds 0 (.bool true)).setIfInBounds 1 (.int .i64 1)).setIfInBounds 2 (.int .i64 1)) 73)) W8.heap.size true 1) := by
    have := one_set (W8.setCell ⟨q, 0, none⟩ (.bool true))
    rwa [size_set] at this
  have hqo : q ≠ W8.heap.size := by omega
  clear HQ8 HR8 HY8 Hq2
  go_wp2_with fail
  refine (plus_any q W8.heap.size hqo _ _ _ _ _ Hq5.out Ho5.out (fits_114 (fits_div FX.out)) (fits_114 (one_114)) (fits_add (fits_div FX.out) (one_114))).mono ?_
  rintro e w10 ⟨rfl, ⟨l1, v1, hw1, hs1, hv1⟩, hg1⟩
  have HR10 := Hid.mk' (Hr5.out.grown hg1 (by simpa using hqr.symm))
  have HY10 := Hid.mk' (Hy5.out.grown hg1 (by simpa using hbq))
  have HQ10 := Hid.mk' hw1
  have hqz : w.heap.size ≤ ((W8.setCell ⟨q, 0, none⟩ (.bool true)).alloc (.cells (((Tryz.zeroCells73.setIfInBounds 0 (.bool true)).setIfInBounds 1 (.int .i64 1)).setIfInBounds 2 (.int .i64 1)) 73)).heap.size := HB9.out.size
  have HB10 := Hid.mk' (Below.trans HB9.out (grown_below hgq hg1 hqz))
  have hf1 : Hid (Fits v1) := fits_le (fits_add (fits_div (u := vy) FX.out) (one_114)) hv1
  have HS1 := Hid.mk' hs1
  clear hw1 hs1 hv1 hg1 Hq5 Hr5 Hy5 Ho5 a1 a2 hq3 hq4 hqz HB9 HB8
  go_wp2_with fail
  refine (plus_any r pb hbr.symm _ _ _ _ _ HR10.out HY10.out (fits_114 (fits_mod FX.out)) (fits_114 FY.out) (fits_add (fits_mod FX.out) FY.out)).mono ?_
  rintro e w11 ⟨rfl, ⟨l2, v2, hw2, hs2, hv2⟩, hg2⟩
  have HQ11 := Hid.mk' (HQ10.out.grown hg2 (by simpa using hqr))
  have HR11 := Hid.mk' hw2
  have HB11 := Hid.mk' (Below.trans HB10.out (grown_below hgr hg2 HB10.out.size))
  have hf2 : Hid (Fits v2) := fits_le (fits_add (fits_mod (u := vy) FX.out) FY.out) hv2
  have HS2 := Hid.mk' hs2
  clear hw2 hs2 hv2 hg2 HQ10 HR10 HY10 HB10
  go_wp2_with fail
  refine (text_any q _ v1 _ HQ11.out hf1.out (HEE.out.below HB11.out).1).mono ?_
  rintro e w12 ⟨rfl, hb12⟩
  have HB12 := Hid.mk' (Below.trans HB11.out (hb12.mono HB11.out.size))
  have HR12 := Hid.mk' (HR11.out.below hb12 HR11.out.size)
  clear hb12
  go_wp2_with fail
  refine (text_any r _ v2 _ HR12.out hf2.out (HEE.out.below HB12.out).1).mono ?_
  rintro e w13 ⟨rfl, hb13⟩
  have HB13 := Hid.mk' (Below.trans HB12.out (hb13.mono HB12.out.size))
  clear hb13
  rw [HS1.out, HS2.out]
  go_wp2_with fail
  go_ret3
  exact ⟨rfl, HB13.out⟩
set_option maxRecDepth 100000 in
set_option maxHeartbeats 1000000 in
theorem parted_lft (a b : ByteArray) (w : World) (HALL : Hid (All2 a b 0)) (e48 : (b.toList == [48]) = false) (HSM : Hid (Sm2 a b 0 0 false)) (HEE : Hid (Env w))
    (vx vy : Nat) (HRA : Hid (Rd a false vx)) (HRB : Hid (Rd b true vy)) (FX : Hid (vx < B ^ 114)) (FY : Hid (vy < B ^ 114)) (HP : Hid (0 < vy)) (h0 : 0 < vx % vy) :
    PartedP a b w (dec (sv true (vx / vy) + sv true 1), dec (sv false (vx % vy) + sv true vy), 0) := by
  unfold PartedP
  go_enter Tryz.func48, Tryz.ntmps48
  go_wp2_with ((with_reducible refine gate_dst (N := 20) rfl ?_); refine Kd.R_lit Kd.string _ 22 ?hg (N := 20) ?hd (xs := ([a, b] : List ByteArray)) (inner := [.string a, .string b]) (ok := fun _ => True) (okp := fun _ => True) ?hr ?hp (fun _ hk => hk) trivial (Below.refl _ _) (Nat.le_refl _) (by simp) ?_; (case hd => rfl); (case hg => rfl); (case hr => first | (go_simp; done) | (go_simp; rfl)); (case hp => exact (Reps.one (show Kd.M Kd.string _ _ _ a [.string a] from rfl) (Reps.one (show Kd.M Kd.string _ _ _ b [.string b] from rfl) (Reps.none _ _)))); intro v1 w1 ho hb _ _; have HO := Hid.mk' ho; have HB1 := Hid.mk' hb; clear ho hb; obtain ⟨Ao, co, eo⟩ := Kd.R_slice HO.out; subst eo)
  refine (HALL.out Ao co w1 (Kd.R_reads' HO.out).2.2 (Kd.R_reads' HO.out).2.1).mono ?_
  rintro e w2 ⟨rfl, hb2⟩
  have HB2 := Hid.mk' (Below.trans HB1.out (hb2.mono HB1.out.size))
  clear hb2 HO HB1
  go_wp2_with fail
  refine (HSM.out w2).mono ?_
  rintro e w3 ⟨rfl, hb3⟩
  have HB3 := Hid.mk' (Below.trans HB2.out (hb3.mono HB2.out.size))
  clear hb3 HB2 HSM HALL
  go_wp2_with fail
  refine (HRA.out w3).mono ?_
  rintro e w4 ⟨pa, rfl, hpa, hwa, hb4⟩
  have HB4 := Hid.mk' (Below.trans HB3.out (hb4.mono HB3.out.size))
  have HWA := Hid.mk' hwa
  clear hb4 hwa HRA HB3
  go_wp2_with fail
  refine (HRB.out w4).mono ?_
  rintro e w5 ⟨pb, rfl, hpb, hwb, hb5⟩
  have hab : pa ≠ pb := by have := HWA.out.size; omega
  have HWA2 := Hid.mk' (HWA.out.below hb5 HWA.out.size)
  have HB5 := Hid.mk' (Below.trans HB4.out (hb5.mono HB4.out.size))
  have HWB := Hid.mk' hwb
  clear hb5 hwb HRB HB4 HWA hpa hpb
  go_wp2_with fail
  refine (divided_any pa pb false true vx vy w5 HWA2.out HWB.out (fits_114 FX.out) (fits_B FY.out) HP.out).mono ?_
  rintro e w6 ⟨q, r, rfl, hq, hr, hqr, hwq, hwr, hb6⟩
  have haq : pa ≠ q := by have := HWA2.out.size; omega
  have har : pa ≠ r := by have := HWA2.out.size; omega
  have hbq : pb ≠ q := by have := HWB.out.size; omega
  have hbr : pb ≠ r := by have := HWB.out.size; omega
  have HB6 := Hid.mk' (Below.trans HB5.out (hb6.mono HB5.out.size))
  have hgq : w.heap.size ≤ q := Nat.le_trans HB5.out.size hq
  have hgr : w.heap.size ≤ r := Nat.le_trans HB5.out.size hr
  have HX := Hid.mk' (HWA2.out.below hb6 HWA2.out.size)
  have HY := Hid.mk' (HWB.out.below hb6 HWB.out.size)
  have HQ := Hid.mk' hwq
  have HR := Hid.mk' hwr
  clear hb6 hwq hwr hq hr HWA2 HWB HB5
  have k1 := HX.out.cell0
  have k2 := HY.out.cell0
  have k3 := HQ.out.cell0
  have k4 := HQ.out.free 0
  have k5 := HR.out.cell0
  have k6 := HR.out.free 0
  have n1 := ne_addr haq
  have n2 := ne_addr har
  have n3 := ne_addr hbq
  have n4 := ne_addr hbr
  have n5 := ne_addr hqr
  have n6 := ne_addr (Ne.symm hqr)
  go_wp2_with fail
  go_region_held3 (fun w' => w'.cell? ⟨pa, 0, none⟩ = some (.bool false) ∧ w'.cell? ⟨pb, 0, none⟩ = some (.bool true)) (first | (go_keep; done) | (refine And.intro ?_ ?_ <;> repeat (first | assumption | apply keep_drew | refine keep_set (by assumption) ?_))) (fail)
  have HQ7 : Hid (IsW ((w6.setCell ⟨q, 0, none⟩ (.bool true)).setCell ⟨r, 0, none⟩ (.bool false)).drew q true (vx / vy)) := IsX.drew1 ((HQ.out.set0 _).other r 0 _ hqr)
  have HR7 : Hid (IsW ((w6.setCell ⟨q, 0, none⟩ (.bool true)).setCell ⟨r, 0, none⟩ (.bool false)).drew r false (vx % vy)) := IsX.drew1 ((HR.out.other q 0 _ hqr.symm).set0 _)
  have HX7 : Hid (IsW ((w6.setCell ⟨q, 0, none⟩ (.bool true)).setCell ⟨r, 0, none⟩ (.bool false)).drew pa false vx) := IsX.drew1 ((HX.out.other q 0 _ haq).other r 0 _ har)
  have HY7 : Hid (IsW ((w6.setCell ⟨q, 0, none⟩ (.bool true)).setCell ⟨r, 0, none⟩ (.bool false)).drew pb true vy) := IsX.drew1 ((HY.out.other q 0 _ hbq).other r 0 _ hbr)
  have HB7 : Hid (Below w.heap.size w ((w6.setCell ⟨q, 0, none⟩ (.bool true)).setCell ⟨r, 0, none⟩ (.bool false)).drew) := Below.drew ((HB6.out.setCell (p := ⟨q, 0, none⟩) hgq _).setCell (p := ⟨r, 0, none⟩) hgr _)
  generalize ((w6.setCell ⟨q, 0, none⟩ (.bool true)).setCell ⟨r, 0, none⟩ (.bool false)).drew = W7 at HQ7 HR7 HX7 HY7 HB7 ⊢
  clear k1 k2 k3 k4 k5 k6 n1 n2 n3 n4 n5 n6 HX HY HQ HR HB6
  have r1 := HR7.out.cell1
  have hn : (0 : Int) < (nw (vx % vy) : Int) := by have := nw_pos.2 h0; omega
  have x0 := HX7.out.cell0
  have y0 := HY7.out.cell0
  generalize ((nw (vx % vy) : Nat) : Int) = m at r1 hn
  have hd : decide ((0 : Int) < m) = true := decide_eq_true hn
  go_wp2_with fail
  go_quiet (fail)
  have HQ8 : Hid (IsW (W7.drewN nq) q true (vx / vy)) := IsX.drew HQ7.out nq
  have HR8 : Hid (IsW (W7.drewN nq) r false (vx % vy)) := IsX.drew HR7.out nq
  have HB8 : Hid (Below w.heap.size w (W7.drewN nq)) := pwd_below_drewN HB7.out nq
  have HY8 : Hid (IsW (W7.drewN nq) pb true vy) := IsX.drew HY7.out nq
  generalize W7.drewN nq = W8 at HQ8 HR8 HB8 HY8 ⊢
  clear HQ7 HR7 HX7 HY7 HB7
  clear r1 hn x0 y0 hd
  have hqs := HQ8.out.size
  have hrs := HR8.out.size
  have hys := HY8.out.size
  have a1 := (one_new W8).cellw 0 (by decide)
  have a2 := (one_new W8).free 2
  have Hq2 : Hid (IsW (W8.alloc (.cells (((Tryz.zeroCells73.setIfInBounds 0 (.bool true)).setIfInBounds 1 (.int .i64 1)).setIfInBounds 2 (.int .i64 1)) 73)) q true (vx / vy)) := HQ8.out.alloc _
  have hq3 := Hq2.out.cell0
  have hq4 := Hq2.out.free 0
  have HB9 : Hid (Below w.heap.size w ((W8.setCell ⟨q, 0, none⟩ (.bool true)).alloc (.cells (((Tryz.zeroCells73.setIfInBounds 0 (.bool true)).setIfInBounds 1 (.int .i64 1)).setIfInBounds 2 (.int .i64 1)) 73))) := (HB8.out.setCell (p := ⟨q, 0, none⟩) hgq _).alloc (by rw [size_set]; exact HB8.out.size) _
  have Hq5 : Hid (IsW ((W8.setCell ⟨q, 0, none⟩ (.bool true)).alloc (.cells (((Tryz.zeroCells73.setIfInBounds 0 (.bool true)).setIfInBounds 1 (.int .i64 1)).setIfInBounds 2 (.int .i64 1)) 73)) q true (vx / vy)) := (IsX.set0 HQ8.out true).alloc _
  have Hr5 : Hid (IsW ((W8.setCell ⟨q, 0, none⟩ (.bool true)).alloc (.cells (((Tryz.zeroCells73.setIfInBounds 0 (.bool true)).setIfInBounds 1 (.int .i64 1)).setIfInBounds 2 (.int .i64 1)) 73)) r false (vx % vy)) := (IsX.other HR8.out q 0 (.bool true) hqr.symm).alloc _
  have Hy5 : Hid (IsW ((W8.setCell ⟨q, 0, none⟩ (.bool true)).alloc (.cells (((Tryz.zeroCells73.setIfInBounds 0 (.bool true)).setIfInBounds 1 (.int .i64 1)).setIfInBounds 2 (.int .i64 1)) 73)) pb true vy) := (IsX.other HY8.out q 0 (.bool true) hbq).alloc _
  have Ho5 : Hid (IsW ((W8.setCell ⟨q, 0, none⟩ (.bool true)).alloc (.cells (((Tryz.zeroCells73.setIfInBounds 0 (.bool true)).setIfInBounds 1 (.int .i64 1)).setIfInBounds 2 (.int .i64 1)) 73)) W8.heap.size true 1) := by
    have := one_set (W8.setCell ⟨q, 0, none⟩ (.bool true))
    rwa [size_set] at this
  have hqo : q ≠ W8.heap.size := by omega
  clear HQ8 HR8 HY8 Hq2
  go_wp2_with fail
  refine (plus_any q W8.heap.size hqo _ _ _ _ _ Hq5.out Ho5.out (fits_114 (fits_div FX.out)) (fits_114 (one_114)) (fits_add (fits_div FX.out) (one_114))).mono ?_
  rintro e w10 ⟨rfl, ⟨l1, v1, hw1, hs1, hv1⟩, hg1⟩
  have HR10 := Hid.mk' (Hr5.out.grown hg1 (by simpa using hqr.symm))
  have HY10 := Hid.mk' (Hy5.out.grown hg1 (by simpa using hbq))
  have HQ10 := Hid.mk' hw1
  have hqz : w.heap.size ≤ ((W8.setCell ⟨q, 0, none⟩ (.bool true)).alloc (.cells (((Tryz.zeroCells73.setIfInBounds 0 (.bool true)).setIfInBounds 1 (.int .i64 1)).setIfInBounds 2 (.int .i64 1)) 73)).heap.size := HB9.out.size
  have HB10 := Hid.mk' (Below.trans HB9.out (grown_below hgq hg1 hqz))
  have hf1 : Hid (Fits v1) := fits_le (fits_add (fits_div (u := vy) FX.out) (one_114)) hv1
  have HS1 := Hid.mk' hs1
  clear hw1 hs1 hv1 hg1 Hq5 Hr5 Hy5 Ho5 a1 a2 hq3 hq4 hqz HB9 HB8
  go_wp2_with fail
  refine (plus_any r pb hbr.symm _ _ _ _ _ HR10.out HY10.out (fits_114 (fits_mod FX.out)) (fits_114 FY.out) (fits_add (fits_mod FX.out) FY.out)).mono ?_
  rintro e w11 ⟨rfl, ⟨l2, v2, hw2, hs2, hv2⟩, hg2⟩
  have HQ11 := Hid.mk' (HQ10.out.grown hg2 (by simpa using hqr))
  have HR11 := Hid.mk' hw2
  have HB11 := Hid.mk' (Below.trans HB10.out (grown_below hgr hg2 HB10.out.size))
  have hf2 : Hid (Fits v2) := fits_le (fits_add (fits_mod (u := vy) FX.out) FY.out) hv2
  have HS2 := Hid.mk' hs2
  clear hw2 hs2 hv2 hg2 HQ10 HR10 HY10 HB10
  go_wp2_with fail
  refine (text_any q _ v1 _ HQ11.out hf1.out (HEE.out.below HB11.out).1).mono ?_
  rintro e w12 ⟨rfl, hb12⟩
  have HB12 := Hid.mk' (Below.trans HB11.out (hb12.mono HB11.out.size))
  have HR12 := Hid.mk' (HR11.out.below hb12 HR11.out.size)
  clear hb12
  go_wp2_with fail
  refine (text_any r _ v2 _ HR12.out hf2.out (HEE.out.below HB12.out).1).mono ?_
  rintro e w13 ⟨rfl, hb13⟩
  have HB13 := Hid.mk' (Below.trans HB12.out (hb13.mono HB12.out.size))
  clear hb13
  rw [HS1.out, HS2.out]
  go_wp2_with fail
  go_ret3
  exact ⟨rfl, HB13.out⟩
theorem pp {a b : ByteArray} {w : World} {L M : ByteArray × ByteArray × Int} (h : PartedP a b w L) (e : M = L) : PartedP a b w M := by rw [e]; exact h
theorem parted_any (a b : ByteArray) (w : World) (ha : a.size ≤ 9223372036854775807) (hb : b.size ≤ 9223372036854775807) (HE : Env w) : PartedP a b w (partedS a b) := by
  have hall := all2 a b ha hb
  by_cases h0 : errs [a, b] = 0
  · rw [h0] at hall
    obtain ⟨ca, cb⟩ := errs2 h0
    have e48 := eq48 (chk_zero cb).1
    by_cases hz : iv b = 0
    · rw [decide_eq_true hz] at e48
      exact pp (parted_zero a b w hall e48) (by unfold partedS; rw [if_pos h0, if_pos hz])
    · rw [decide_eq_false hz] at e48
      have hL : partedS a b = (dec ((iv a).fdiv (iv b)), dec ((iv a).fmod (iv b)), 0) := by unfold partedS; rw [if_pos h0, if_neg hz]
      by_cases hs : a.size ≤ 9 ∧ b.size ≤ 9
      · have sa := iv_small (chk_zero ca).1 hs.1
        have sb := iv_small (chk_zero cb).1 hs.2
        have hsm : Sm2 a b (iv a) (iv b) true := fun w => small_short a b w (chk_zero ca).1 (chk_zero cb).1 hs.1 hs.2
        obtain ⟨t1, t2, t3, t4⟩ := tdiv_room sa sb hz
        obtain ⟨p1, p2⟩ := parted_short (iv a) (iv b) hz
        generalize iv a = x at *
        generalize iv b = y at *
        have gq : IntKind.i64.wrap (x.tdiv y) = x.tdiv y := IntWalk.i64_in _ ⟨by omega, by omega⟩
        have gr : IntKind.i64.wrap (x.tmod y) = x.tmod y := IntWalk.i64_in _ ⟨by omega, by omega⟩
        generalize hq : x.tdiv y = q at *
        generalize hr : x.tmod y = r at *
        by_cases hr0 : r = 0
        · obtain ⟨e1, e2⟩ := p2 (fun h => h.1 hr0)
          exact pp (parted_s0 a b w hall e48 x y q r hsm HE hz hq hr gq gr hr0 (ofQ (by omega) (by omega)) (ofQ (by omega) (by omega))) (by rw [hL, e1, e2, hr0])
        · have gr0 : (r == 0) = false := beq_eq_false_iff_ne.2 hr0
          by_cases h1 : r < 0 <;> by_cases h2 : y < 0
          · obtain ⟨e1, e2⟩ := p2 (fun h => h.2 (by rw [decide_eq_true h1, decide_eq_true h2]))
            exact pp (parted_stt a b w hall e48 x y q r hsm HE hz hq hr gq gr gr0 hr0 (decide_eq_true h1) (decide_eq_true h2) (ofQ (by omega) (by omega)) (ofQ (by omega) (by omega))) (by rw [hL, e1, e2])
          · obtain ⟨e1, e2⟩ := p1 ⟨hr0, by rw [decide_eq_true h1, decide_eq_false h2]; decide⟩
            exact pp (parted_stf a b w hall e48 x y q r hsm HE hz hq hr gq gr gr0 hr0 (decide_eq_true h1) (decide_eq_false h2) (IntWalk.i64_in _ ⟨by omega, by omega⟩) (IntWalk.i64_in _ ⟨by omega, by omega⟩) (ofQ (by omega) (by omega)) (ofQ (by omega) (by omega))) (by rw [hL, e1, e2])
          · obtain ⟨e1, e2⟩ := p1 ⟨hr0, by rw [decide_eq_false h1, decide_eq_true h2]; decide⟩
            exact pp (parted_sft a b w hall e48 x y q r hsm HE hz hq hr gq gr gr0 hr0 (decide_eq_false h1) (decide_eq_true h2) (IntWalk.i64_in _ ⟨by omega, by omega⟩) (IntWalk.i64_in _ ⟨by omega, by omega⟩) (ofQ (by omega) (by omega)) (ofQ (by omega) (by omega))) (by rw [hL, e1, e2])
          · obtain ⟨e1, e2⟩ := p2 (fun h => h.2 (by rw [decide_eq_false h1, decide_eq_false h2]))
            exact pp (parted_sff a b w hall e48 x y q r hsm HE hz hq hr gq gr gr0 hr0 (decide_eq_false h1) (decide_eq_false h2) (ofQ (by omega) (by omega)) (ofQ (by omega) (by omega))) (by rw [hL, e1, e2])
      · have hsm : Sm2 a b 0 0 false := fun w => small_long a b w (by omega)
        have ra : Rd a (decide (iv a < 0)) (iv a).natAbs := fun w => read_any a w (chk_zero ca).1 (size_chk ca)
        have rb : Rd b (decide (iv b < 0)) (iv b).natAbs := fun w => read_any b w (chk_zero cb).1 (size_chk cb)
        have fa := iv_chk ca
        have fb := iv_chk cb
        have hp : 0 < (iv b).natAbs := by omega
        obtain ⟨p1, p2⟩ := parted_long (iv a) (iv b) hz
        have sb := sv_iv (iv b)
        generalize iv a = x at *
        generalize iv b = y at *
        by_cases hr : 0 < x.natAbs % y.natAbs
        · by_cases h1 : x < 0 <;> by_cases h2 : y < 0
          · rw [decide_eq_true h1, decide_eq_true h2] at *
            obtain ⟨e1, e2⟩ := p2 (fun h => h.2 rfl)
            exact pp (parted_lt a b w hall e48 hsm HE x.natAbs y.natAbs ra rb fa fb hp hr) (by rw [hL, e1, e2]; rfl)
          · rw [decide_eq_true h1, decide_eq_false h2] at *
            obtain ⟨e1, e2⟩ := p1 ⟨hr, by decide⟩
            exact pp (parted_ltf a b w hall e48 hsm HE x.natAbs y.natAbs ra rb fa fb hp hr) (by rw [hL, e1, e2, sb]; rfl)
          · rw [decide_eq_false h1, decide_eq_true h2] at *
            obtain ⟨e1, e2⟩ := p1 ⟨hr, by decide⟩
            exact pp (parted_lft a b w hall e48 hsm HE x.natAbs y.natAbs ra rb fa fb hp hr) (by rw [hL, e1, e2, sb]; rfl)
          · rw [decide_eq_false h1, decide_eq_false h2] at *
            obtain ⟨e1, e2⟩ := p2 (fun h => h.2 rfl)
            exact pp (parted_lf a b w hall e48 hsm HE x.natAbs y.natAbs ra rb fa fb hp hr) (by rw [hL, e1, e2]; rfl)
        · have hr0 : x.natAbs % y.natAbs = 0 := by omega
          obtain ⟨e1, e2⟩ := p2 (fun h => hr h.1)
          exact pp (parted_l0 a b w hall e48 hsm HE _ _ x.natAbs y.natAbs ra rb fa fb hp hr0) (by rw [hL, e1, e2, hr0])
  · exact pp (parted_err a b w _ hall h0) (by unfold partedS; rw [if_neg h0])
def whole_parted.f (a b : ByteArray) : Option (ByteArray × ByteArray × Int) := if a.size ≤ 9223372036854775807 ∧ b.size ≤ 9223372036854775807 then some (partedS a b) else none
theorem whole_parted.calls (a0 a1 : ByteArray) (r1 : ByteArray) (r2 : ByteArray) (r3 : Int) (w : World) (h : whole_parted.f a0 a1 = some (r1, r2, r3)) (HE : Env w) :
    Calls Tryz.prog 48 #[.string a0, .string a1] w fun e w' => e = .returned (.tuple #[.string r1, .string r2, .int .i64 r3]) ∧ Below w.heap.size w w' := by
  unfold whole_parted.f at h
  split at h
  · rename_i hs
    exact pp (parted_any a0 a1 w hs.1 hs.2 HE) (Option.some.inj h).symm
  · cases h
end Go.Proofs.YtpkfnclbcmnckaaGreatDoor
set_option linter.unusedVariables false
namespace Go.Proofs.YtpkfnclbcmnckaaGreatDoor
open Go Go.RowKit Go.Proofs.YtpkfnclbcmnckaaGreatDoor.Dec Go.Proofs.YtpkfnclbcmnckaaGreatDoor.Mem Go.Proofs.YtpkfnclbcmnckaaGreatDoor.Wid Go.Proofs.YtpkfnclbcmnckaaGreatDoorW.PrintWords
def whole_Check.f (a : ByteArray) : Option Int := if a.size ≤ 9223372036854775807 then some (chk a) else none
theorem whole_Check.calls (a0 : ByteArray) (r : Int) (w : World) (h : whole_Check.f a0 = some r) :
    Calls Tryz.prog 28 #[.string a0] w fun e w' => e = .returned (.int .i64 r) ∧ Below w.heap.size w w' := by
  unfold whole_Check.f at h
  split at h
  · rename_i hs
    cases h
    exact check_any a0 hs w
  · cases h
end Go.Proofs.YtpkfnclbcmnckaaGreatDoor
namespace Go.Proofs.YtpkfnclbcmnckaaGreatDoor.ZB
open Go.RowKit Go.Proofs.YtpkfnclbcmnckaaGreatDoorW.PrintWords Go.Proofs.YtpkfnclbcmnckaaGreatDoorW.PrintLast Go.Proofs.YtpkfnclbcmnckaaGreatDoorW.PrintMore
attribute [local go_sem] max2_int min2_int max_two min_two max_three min_three max_four min_four   -- for this text's walks alone
set_option linter.unusedVariables false
set_option linter.unusedSimpArgs false
def errW : Option Int → Value
  | none => .nilIface
  | some c => .iface 0 (.int .i64 c)
theorem errW_none : errW none = .nilIface := rfl
theorem errW_some (c : Int) : errW (some c) = .iface 0 (.int .i64 c) := rfl
end Go.Proofs.YtpkfnclbcmnckaaGreatDoor.ZB
namespace Go.Proofs.YtpkfnclbcmnckaaGreatDoor.ZB
open Go.RowKit Go.Proofs.YtpkfnclbcmnckaaGreatDoorW.PrintWords Go.Proofs.YtpkfnclbcmnckaaGreatDoorW.PrintLast Go.Proofs.YtpkfnclbcmnckaaGreatDoorW.PrintMore
attribute [local go_sem] max2_int min2_int max_two min_two max_three min_three max_four min_four   -- for this text's walks alone
set_option linter.unusedVariables false
set_option linter.unusedSimpArgs false
def whole_Quo.f (a0 : ByteArray) (a1 : ByteArray) : Option (ByteArray × Int) := (whole_parted.f a0 a1).bind fun bt123 => (if bt123.2.2 = 0 then ((whole_Check.f bt123.1).bind fun t126 => (if t126 = 0 then (some (bt123.1, 0)) else (some ((⟨#[]⟩ : ByteArray), t126)))) else (some ((⟨#[]⟩ : ByteArray), bt123.2.2)))
set_option maxHeartbeats 8000000 in
set_option maxRecDepth 100000 in
theorem whole_Quo.calls (a0 : ByteArray) (a1 : ByteArray) (r1 : ByteArray) (r2 : Int) (w : World) (h : whole_Quo.f a0 a1 = some (r1, r2)) (HE_ : Env w) :
    Calls Tryz.prog 12 #[.string a0, .string a1] w fun e w' => e = .returned (.tuple #[.string r1, .int .i64 r2]) ∧ Below w.heap.size w w' := by
  have ENV0 := Aside0.mk HE_
  clear HE_
  have HB := Aside0.mk (Below.refl w.heap.size w)
  have H : ((whole_parted.f a0 a1).bind fun bt123 => (if bt123.2.2 = 0 then ((whole_Check.f bt123.1).bind fun t126 => (if t126 = 0 then (some (bt123.1, 0)) else (some ((⟨#[]⟩ : ByteArray), t126)))) else (some ((⟨#[]⟩ : ByteArray), bt123.2.2)))) = some (r1, r2) := h
  clear h
  replace H := Option.bind_eq_some_iff.mp H
  obtain ⟨⟨t123, t124, t125⟩, A30, H⟩ := H
  replace H : (if t125 = 0 then ((whole_Check.f t123).bind fun t126 => (if t126 = 0 then (some (t123, 0)) else (some ((⟨#[]⟩ : ByteArray), t126)))) else (some ((⟨#[]⟩ : ByteArray), t125))) = some (r1, r2) := H
  have A3 := Aside0.mk A30
  clear A30
  by_cases c4 : t125 = 0
  · rw [if_pos c4] at H
    have c4b0 : (t125 == 0) = true := beq_iff_eq.mpr c4
    have c4b1 : (t125 != 0) = false := bne_eq_false_iff_eq.mpr c4
    clear c4
    replace H := Option.bind_eq_some_iff.mp H
    obtain ⟨t126, A50, H⟩ := H
    replace H : (if t126 = 0 then (some (t123, 0)) else (some ((⟨#[]⟩ : ByteArray), t126))) = some (r1, r2) := H
    have A5 := Aside0.mk A50
    clear A50
    by_cases c6 : t126 = 0
    · rw [if_pos c6] at H
      have c6b0 : (t126 == 0) = true := beq_iff_eq.mpr c6
      have c6b1 : (t126 != 0) = false := bne_eq_false_iff_eq.mpr c6
      clear c6
      simp only [Option.some.injEq, Prod.mk.injEq] at H
      obtain ⟨rfl, rfl⟩ := H
      go_enter Tryz.func12, Tryz.ntmps12
      go_wp2_with (first | ((with_reducible refine gate_callee (f := 48) rfl ?_); refine goesL_ (some 13) rfl rfl Tryz.func48 (by kernel_rfl) rfl #[.string a0, .string a1] rfl (by (try simp only [List.map_toArray, List.map_cons, List.map_nil]); first | done | rfl | (simp only [List.length_drop, List.length_take]; rfl)) ?_; (with_reducible refine (whole_parted.calls a0 a1 t123 t124 t125 _ A3.out (Env.below ENV0.out (by repeat (first | (with_reducible first | exact HB.out | apply below_alloc | apply pw_below_drewN | apply below_drew1) | exact HB.out)))).mono ?_); rintro e w7 ⟨rfl, hb⟩; refine ⟨_, rfl, ?_⟩; have n0_ := Aside0.mk (below_step (by repeat (first | (with_reducible first | exact HB.out | apply below_alloc | apply pw_below_drewN | apply below_drew1) | exact HB.out)) hb); clear HB; have HB := n0_; clear n0_; (try clear hb); (try clear hb2); (try clear hk); (try clear hi)) | ((with_reducible refine gate_callee (f := 28) rfl ?_); refine goesL_ (some 21) rfl rfl Tryz.func28 (by kernel_rfl) rfl #[.string t123] rfl (by (try simp only [List.map_toArray, List.map_cons, List.map_nil]); first | done | rfl | (simp only [List.length_drop, List.length_take]; rfl)) ?_; (with_reducible refine (whole_Check.calls t123 t126 _ A5.out).mono ?_); rintro e w8 ⟨rfl, hb⟩; refine ⟨_, rfl, ?_⟩; have n0_ := Aside0.mk (below_step (by repeat (first | (with_reducible first | exact HB.out | apply below_alloc | apply pw_below_drewN | apply below_drew1) | exact HB.out)) hb); clear HB; have HB := n0_; clear n0_; (try clear hb); (try clear hb2); (try clear hk); (try clear hi)))
      go_ret2
      exact ⟨by first | rfl | (simp [errW_none, errW_some] <;> rfl) | (simp [*, errW_none, errW_some] <;> rfl), by repeat (first | (with_reducible first | exact HB.out | apply below_alloc | apply pw_below_drewN | apply below_drew1) | exact HB.out)⟩
    · rw [if_neg c6] at H
      have c6b0 : (t126 == 0) = false := beq_eq_false_iff_ne.mpr c6
      have c6b1 : (t126 != 0) = true := bne_iff_ne.mpr c6
      simp only [Option.some.injEq, Prod.mk.injEq] at H
      obtain ⟨rfl, rfl⟩ := H
      go_enter Tryz.func12, Tryz.ntmps12
      go_wp2_with (first | ((with_reducible refine gate_callee (f := 48) rfl ?_); refine goesL_ (some 13) rfl rfl Tryz.func48 (by kernel_rfl) rfl #[.string a0, .string a1] rfl (by (try simp only [List.map_toArray, List.map_cons, List.map_nil]); first | done | rfl | (simp only [List.length_drop, List.length_take]; rfl)) ?_; (with_reducible refine (whole_parted.calls a0 a1 t123 t124 t125 _ A3.out (Env.below ENV0.out (by repeat (first | (with_reducible first | exact HB.out | apply below_alloc | apply pw_below_drewN | apply below_drew1) | exact HB.out)))).mono ?_); rintro e w9 ⟨rfl, hb⟩; refine ⟨_, rfl, ?_⟩; have n0_ := Aside0.mk (below_step (by repeat (first | (with_reducible first | exact HB.out | apply below_alloc | apply pw_below_drewN | apply below_drew1) | exact HB.out)) hb); clear HB; have HB := n0_; clear n0_; (try clear hb); (try clear hb2); (try clear hk); (try clear hi)) | ((with_reducible refine gate_callee (f := 28) rfl ?_); refine goesL_ (some 21) rfl rfl Tryz.func28 (by kernel_rfl) rfl #[.string t123] rfl (by (try simp only [List.map_toArray, List.map_cons, List.map_nil]); first | done | rfl | (simp only [List.length_drop, List.length_take]; rfl)) ?_; (with_reducible refine (whole_Check.calls t123 t126 _ A5.out).mono ?_); rintro e w10 ⟨rfl, hb⟩; refine ⟨_, rfl, ?_⟩; have n0_ := Aside0.mk (below_step (by repeat (first | (with_reducible first | exact HB.out | apply below_alloc | apply pw_below_drewN | apply below_drew1) | exact HB.out)) hb); clear HB; have HB := n0_; clear n0_; (try clear hb); (try clear hb2); (try clear hk); (try clear hi)))
      go_ret2
      exact ⟨by first | rfl | (simp [errW_none, errW_some] <;> rfl) | (simp [*, errW_none, errW_some] <;> rfl), by repeat (first | (with_reducible first | exact HB.out | apply below_alloc | apply pw_below_drewN | apply below_drew1) | exact HB.out)⟩
  · rw [if_neg c4] at H
    have c4b0 : (t125 == 0) = false := beq_eq_false_iff_ne.mpr c4
    have c4b1 : (t125 != 0) = true := bne_iff_ne.mpr c4
    simp only [Option.some.injEq, Prod.mk.injEq] at H
    obtain ⟨rfl, rfl⟩ := H
    go_enter Tryz.func12, Tryz.ntmps12
    go_wp2_with (first | ((with_reducible refine gate_callee (f := 48) rfl ?_); refine goesL_ (some 13) rfl rfl Tryz.func48 (by kernel_rfl) rfl #[.string a0, .string a1] rfl (by (try simp only [List.map_toArray, List.map_cons, List.map_nil]); first | done | rfl | (simp only [List.length_drop, List.length_take]; rfl)) ?_; (with_reducible refine (whole_parted.calls a0 a1 t123 t124 t125 _ A3.out (Env.below ENV0.out (by repeat (first | (with_reducible first | exact HB.out | apply below_alloc | apply pw_below_drewN | apply below_drew1) | exact HB.out)))).mono ?_); rintro e w11 ⟨rfl, hb⟩; refine ⟨_, rfl, ?_⟩; have n0_ := Aside0.mk (below_step (by repeat (first | (with_reducible first | exact HB.out | apply below_alloc | apply pw_below_drewN | apply below_drew1) | exact HB.out)) hb); clear HB; have HB := n0_; clear n0_; (try clear hb); (try clear hb2); (try clear hk); (try clear hi)))
    go_ret2
    exact ⟨by first | rfl | (simp [errW_none, errW_some] <;> rfl) | (simp [*, errW_none, errW_some] <;> rfl), by repeat (first | (with_reducible first | exact HB.out | apply below_alloc | apply pw_below_drewN | apply below_drew1) | exact HB.out)⟩
def whole_Rem.f (a0 : ByteArray) (a1 : ByteArray) : Option (ByteArray × Int) := (whole_parted.f a0 a1).bind fun bt127 => (some (bt127.2.1, bt127.2.2))
set_option maxHeartbeats 8000000 in
set_option maxRecDepth 100000 in
theorem whole_Rem.calls (a0 : ByteArray) (a1 : ByteArray) (r1 : ByteArray) (r2 : Int) (w : World) (h : whole_Rem.f a0 a1 = some (r1, r2)) (HE_ : Env w) :
    Calls Tryz.prog 13 #[.string a0, .string a1] w fun e w' => e = .returned (.tuple #[.string r1, .int .i64 r2]) ∧ Below w.heap.size w w' := by
  have ENV0 := Aside0.mk HE_
  clear HE_
  have HB := Aside0.mk (Below.refl w.heap.size w)
  have H : ((whole_parted.f a0 a1).bind fun bt127 => (some (bt127.2.1, bt127.2.2))) = some (r1, r2) := h
  clear h
  replace H := Option.bind_eq_some_iff.mp H
  obtain ⟨⟨t127, t128, t129⟩, A30, H⟩ := H
  replace H : (some (t128, t129)) = some (r1, r2) := H
  have A3 := Aside0.mk A30
  clear A30
  simp only [Option.some.injEq, Prod.mk.injEq] at H
  obtain ⟨rfl, rfl⟩ := H
  go_enter Tryz.func13, Tryz.ntmps13
  go_wp2_with (first | ((with_reducible refine gate_callee (f := 48) rfl ?_); refine goesL_ (some 12) rfl rfl Tryz.func48 (by kernel_rfl) rfl #[.string a0, .string a1] rfl (by (try simp only [List.map_toArray, List.map_cons, List.map_nil]); first | done | rfl | (simp only [List.length_drop, List.length_take]; rfl)) ?_; (with_reducible refine (whole_parted.calls a0 a1 t127 t128 t129 _ A3.out (Env.below ENV0.out (by repeat (first | (with_reducible first | exact HB.out | apply below_alloc | apply pw_below_drewN | apply below_drew1) | exact HB.out)))).mono ?_); rintro e w4 ⟨rfl, hb⟩; refine ⟨_, rfl, ?_⟩; have n0_ := Aside0.mk (below_step (by repeat (first | (with_reducible first | exact HB.out | apply below_alloc | apply pw_below_drewN | apply below_drew1) | exact HB.out)) hb); clear HB; have HB := n0_; clear n0_; (try clear hb); (try clear hb2); (try clear hk); (try clear hi)))
  go_ret2
  exact ⟨by first | rfl | (simp [errW_none, errW_some] <;> rfl) | (simp [*, errW_none, errW_some] <;> rfl), by repeat (first | (with_reducible first | exact HB.out | apply below_alloc | apply pw_below_drewN | apply below_drew1) | exact HB.out)⟩
mutual
def whole_Pow.j0 : Nat → ByteArray → Int → Bool → Option (ByteArray × Int)
  | 0, _, _, _ => none
  | k + 1, x0, x1, x19 => if x19 = true then (some ((⟨#[]⟩ : ByteArray), 2)) else (whole_Pow.l0 k x0 (⟨#[49]⟩ : ByteArray) x1 0)
def whole_Pow.l0 : Nat → ByteArray → ByteArray → Int → Int → Option (ByteArray × Int)
  | 0, _, _, _, _ => none
  | k + 1, x0, x7, x20, x21 => if x21 < x20 then ((whole_Mul.f x7 x0).bind fun bt131 => (if bt131.2 = 0 then (whole_Pow.l0 k x0 bt131.1 x20 (wrap64 (x21 + 1))) else (some ((⟨#[]⟩ : ByteArray), bt131.2)))) else (some (x7, 0))
end
def whole_Pow.f (k : Nat) (a0 : ByteArray) (a1 : Int) : Option (ByteArray × Int) := (whole_Check.f a0).bind fun t130 => (if t130 = 0 then (if a1 < 0 then (whole_Pow.j0 k a0 a1 true) else (whole_Pow.j0 k a0 a1 (decide (a1 > 4096)))) else (some ((⟨#[]⟩ : ByteArray), t130)))
theorem whole_Pow.mono_l : ∀ k, (∀ y0 y1 y2, LeO (whole_Pow.j0 k y0 y1 y2) (whole_Pow.j0 (k + 1) y0 y1 y2)) ∧ (∀ y0 y1 y2 y3, LeO (whole_Pow.l0 k y0 y1 y2 y3) (whole_Pow.l0 (k + 1) y0 y1 y2 y3))
  | 0 => ⟨fun _ _ _ r h => by simp [whole_Pow.j0] at h, fun _ _ _ _ r h => by simp [whole_Pow.l0] at h⟩
  | k + 1 => by
    obtain ⟨ih0, ih1⟩ := whole_Pow.mono_l k
    refine ⟨?_, ?_⟩
    · intro y0 y1 y2
      unfold whole_Pow.j0
      repeat' first
      | (with_reducible exact ih0 _ _ _)
      | (with_reducible exact ih1 _ _ _ _)
      | (with_reducible exact LeO.refl _)
      | (with_reducible exact LeO.none _)
      | (with_reducible refine LeO.ite ?_ ?_)
      | (with_reducible refine LeO.bind ?_ (fun _ => ?_))
      | exact ih0 _ _ _
      | exact ih1 _ _ _ _
      | exact LeO.none _
      | refine LeO.ite ?_ ?_
      | refine LeO.bind ?_ (fun _ => ?_)
    · intro y0 y1 y2 y3
      unfold whole_Pow.l0
      repeat' first
      | (with_reducible exact ih0 _ _ _)
      | (with_reducible exact ih1 _ _ _ _)
      | (with_reducible exact LeO.refl _)
      | (with_reducible exact LeO.none _)
      | (with_reducible refine LeO.ite ?_ ?_)
      | (with_reducible refine LeO.bind ?_ (fun _ => ?_))
      | exact ih0 _ _ _
      | exact ih1 _ _ _ _
      | exact LeO.none _
      | refine LeO.ite ?_ ?_
      | refine LeO.bind ?_ (fun _ => ?_)
theorem whole_Pow.mono : ∀ a0 a1 k, LeO (whole_Pow.f k a0 a1) (whole_Pow.f (k + 1) a0 a1) := by
  intro a0 a1 k
  obtain ⟨ih0, ih1⟩ := whole_Pow.mono_l k
  unfold whole_Pow.f
  repeat' first
      | (with_reducible exact ih0 _ _ _)
      | (with_reducible exact ih1 _ _ _ _)
      | (with_reducible exact LeO.refl _)
      | (with_reducible exact LeO.none _)
      | (with_reducible refine LeO.ite ?_ ?_)
      | (with_reducible refine LeO.bind ?_ (fun _ => ?_))
      | exact ih0 _ _ _
      | exact ih1 _ _ _ _
      | exact LeO.none _
      | refine LeO.ite ?_ ?_
      | refine LeO.bind ?_ (fun _ => ?_)
set_option maxHeartbeats 8000000 in
set_option maxRecDepth 100000 in
theorem whole_Pow.calls (k : Nat) (a0 : ByteArray) (a1 : Int) (r1 : ByteArray) (r2 : Int) (w : World) (h : whole_Pow.f k a0 a1 = some (r1, r2)) (HE_ : Env w) :
    Calls Tryz.prog 17 #[.string a0, .int .i64 a1] w fun e w' => e = .returned (.tuple #[.string r1, .int .i64 r2]) ∧ Below w.heap.size w w' := by
  have ENV0 := Aside0.mk HE_
  clear HE_
  have HB := Aside0.mk (Below.refl w.heap.size w)
  have H : ((whole_Check.f a0).bind fun t130 => (if t130 = 0 then (if a1 < 0 then (whole_Pow.j0 k a0 a1 true) else (whole_Pow.j0 k a0 a1 (decide (a1 > 4096)))) else (some ((⟨#[]⟩ : ByteArray), t130)))) = some (r1, r2) := h
  clear h
  replace H := Option.bind_eq_some_iff.mp H
  obtain ⟨t130, A30, H⟩ := H
  replace H : (if t130 = 0 then (if a1 < 0 then (whole_Pow.j0 k a0 a1 true) else (whole_Pow.j0 k a0 a1 (decide (a1 > 4096)))) else (some ((⟨#[]⟩ : ByteArray), t130))) = some (r1, r2) := H
  have A3 := Aside0.mk A30
  clear A30
  by_cases c4 : t130 = 0
  · rw [if_pos c4] at H
    have c4b0 : (t130 == 0) = true := beq_iff_eq.mpr c4
    have c4b1 : (t130 != 0) = false := bne_eq_false_iff_eq.mpr c4
    clear c4
    have HC5 := Aside0.mk H
    clear H
    go_enter Tryz.func17, Tryz.ntmps17
    go_upto_region 4 with (first | ((with_reducible refine gate_callee (f := 28) rfl ?_); refine goesL_ (some 10) rfl rfl Tryz.func28 (by kernel_rfl) rfl #[.string a0] rfl (by (try simp only [List.map_toArray, List.map_cons, List.map_nil]); first | done | rfl | (simp only [List.length_drop, List.length_take]; rfl)) ?_; (with_reducible refine (whole_Check.calls a0 t130 _ A3.out).mono ?_); rintro e w6 ⟨rfl, hb⟩; refine ⟨_, rfl, ?_⟩; have n0_ := Aside0.mk (below_step (by repeat (first | (with_reducible first | exact HB.out | apply below_alloc | apply pw_below_drewN | apply below_drew1) | exact HB.out)) hb); clear HB; have HB := n0_; clear n0_; (try clear hb); (try clear hb2); (try clear hk); (try clear hi)))
    (try simp only [Act.put, List.setIfInBounds_toArray, List.set_cons_zero, List.set_cons_succ])
    go_cut [19] (fun v19 wc => ∃ (kq : Nat) (x19_4 : Bool), v19 = .bool x19_4 ∧ Aside0 (whole_Pow.j0 kq a0 a1 x19_4 = some (r1, r2)) ∧ Aside0 (kq ≤ k) ∧ Aside0 (Below w.heap.size w wc))
    case first =>
      have H := HC5.out
      clear HC5
      by_cases c7 : a1 < 0
      · rw [if_pos c7] at H
        have c7b0 : decide (a1 < 0) = true := decide_eq_true c7
        clear c7
        (first | rw [c7b0] | (simp only [i64_w, i32_w]; rw [c7b0]) | skip)
        have H' := Aside0.mk H
        clear H
        go_wp2
        go_meet
        case rel => exact ⟨_, (true), (by first | rfl | exact congrArg Value.bool (not_empty _) | exact congrArg Value.bool (is_empty _) | (simp; done) | (simp [*]; done)), H', ⟨by first | omega | exact Nat.le_refl _⟩, ⟨by repeat (first | (with_reducible first | exact HB.out | apply below_alloc | apply pw_below_drewN | apply below_drew1) | exact HB.out)⟩⟩
      · rw [if_neg c7] at H
        have c7b0 : decide (a1 < 0) = false := decide_eq_false c7
        clear c7
        (first | rw [c7b0] | (simp only [i64_w, i32_w]; rw [c7b0]) | skip)
        have H' := Aside0.mk H
        clear H
        go_wp2
        go_meet
        case rel => exact ⟨_, (decide (a1 > 4096)), (by first | rfl | exact congrArg Value.bool (not_empty _) | exact congrArg Value.bool (is_empty _) | (simp; done) | (simp [*]; done)), H', ⟨by first | omega | exact Nat.le_refl _⟩, ⟨by repeat (first | (with_reducible first | exact HB.out | apply below_alloc | apply pw_below_drewN | apply below_drew1) | exact HB.out)⟩⟩
    case rest =>
      clear HC5
      try clear c1
      try clear c2
      try clear p2
      try clear c4
      try clear c4b0
      try clear c4b1
      try clear c7
      try clear c7b0
      obtain ⟨kq, x19_4, rfl, HA, HJ4, HB⟩ := hcut
      cases kq with
      | zero => exact absurd HA.out (by simp [whole_Pow.j0])
      | succ kj4 =>
        have H := HA.out
        clear HA
        simp only [whole_Pow.j0] at H
        by_cases c8 : x19_4 = true
        · subst c8
          have H1 : (some ((⟨#[]⟩ : ByteArray), 2)) = some (r1, r2) := by rw [if_pos rfl] at H; exact H
          clear H
          have H := H1
          clear H1
          simp only [Option.some.injEq, Prod.mk.injEq] at H
          obtain ⟨rfl, rfl⟩ := H
          go_wp2
          go_ret2
          exact ⟨by first | rfl | (simp [errW_none, errW_some] <;> rfl) | (simp [*, errW_none, errW_some] <;> rfl), by repeat (first | (with_reducible first | exact HB.out | apply below_alloc | apply pw_below_drewN | apply below_drew1) | exact HB.out)⟩
        · replace c8 := Bool.eq_false_iff.mpr c8
          subst c8
          have H1 : (whole_Pow.l0 kj4 a0 (⟨#[49]⟩ : ByteArray) a1 0) = some (r1, r2) := by rw [if_neg (show ¬ (false = true) by decide)] at H; exact H
          clear H
          have H := H1
          clear H1
          have H' := Aside0.mk H
          clear H
          go_wp2
          go_loopg [7, 21] kj4 (fun kq v7 v21 w' => ∃ (x7_2 : ByteArray) (x21_2 : Int), v7 = .string x7_2 ∧ v21 = .int .i64 x21_2 ∧ Aside0 (whole_Pow.l0 kq a0 x7_2 a1 x21_2 = some (r1, r2)) ∧ Aside0 (kq ≤ kj4) ∧ Aside0 (Below w.heap.size w w'))
          case atStart => exact ⟨((⟨#[49]⟩ : ByteArray)), (0), (by first | rfl | exact congrArg Value.bool (not_empty _) | exact congrArg Value.bool (is_empty _) | (simp; done) | (simp [*]; done)), (by first | rfl | exact congrArg Value.bool (not_empty _) | exact congrArg Value.bool (is_empty _) | (simp; done) | (simp [*]; done)), H', ⟨Nat.le_refl _⟩, ⟨by repeat (first | (with_reducible first | exact HB.out | apply below_alloc | apply pw_below_drewN | apply below_drew1) | exact HB.out)⟩⟩
          case round =>
            clear H'
            try clear c1
            try clear c2
            try clear p2
            try clear c4
            try clear c4b0
            try clear c4b1
            try clear c7
            try clear c7b0
            try clear c8
            try clear p2
            obtain ⟨x7_2, x21_2, rfl, rfl, HA, HK2, HB⟩ := hrel
            cases gk with
            | zero => exact absurd HA.out (by simp [whole_Pow.l0])
            | succ k2 =>
              have H := HA.out
              clear HA
              simp only [whole_Pow.l0] at H
              by_cases c9 : x21_2 < a1
              · rw [if_pos c9] at H
                have c9b0 : decide (x21_2 < a1) = true := decide_eq_true c9
                clear c9
                replace H := Option.bind_eq_some_iff.mp H
                obtain ⟨⟨t131, t132⟩, A100, H⟩ := H
                replace H : (if t132 = 0 then (whole_Pow.l0 k2 a0 t131 a1 (wrap64 (x21_2 + 1))) else (some ((⟨#[]⟩ : ByteArray), t132))) = some (r1, r2) := H
                have A10 := Aside0.mk A100
                clear A100
                by_cases c11 : t132 = 0
                · rw [if_pos c11] at H
                  have c11b0 : (t132 == 0) = true := beq_iff_eq.mpr c11
                  have c11b1 : (t132 != 0) = false := bne_eq_false_iff_eq.mpr c11
                  clear c11
                  have H' := Aside0.mk H
                  clear H
                  go_wp2_with (first | ((with_reducible refine gate_callee (f := 10) rfl ?_); refine goesL_ (some 26) rfl rfl Tryz.func10 (by kernel_rfl) rfl #[.string x7_2, .string a0] rfl (by (try simp only [List.map_toArray, List.map_cons, List.map_nil]); first | done | rfl | (simp only [List.length_drop, List.length_take]; rfl)) ?_; (with_reducible refine (whole_Mul.calls x7_2 a0 t131 t132 _ A10.out (Env.below ENV0.out (by repeat (first | (with_reducible first | exact HB.out | apply below_alloc | apply pw_below_drewN | apply below_drew1) | exact HB.out)))).mono ?_); rintro e w12 ⟨rfl, hb⟩; refine ⟨_, rfl, ?_⟩; have n0_ := Aside0.mk (below_step (by repeat (first | (with_reducible first | exact HB.out | apply below_alloc | apply pw_below_drewN | apply below_drew1) | exact HB.out)) hb); clear HB; have HB := n0_; clear n0_; (try clear hb); (try clear hb2); (try clear hk); (try clear hi)))
                  go_roundg k2
                  case measure => have := HJ4.out; have := HK2.out; omega
                  case rel => exact ⟨(t131), (wrap64 (x21_2 + 1)), (by first | rfl | exact congrArg Value.bool (not_empty _) | exact congrArg Value.bool (is_empty _) | (simp; done) | (simp [*]; done)), (by first | rfl | exact congrArg Value.bool (not_empty _) | exact congrArg Value.bool (is_empty _) | (simp; done) | (simp [*]; done)), H', ⟨by have := HJ4.out; have := HK2.out; omega⟩, ⟨by repeat (first | (with_reducible first | exact HB.out | apply below_alloc | apply pw_below_drewN | apply below_drew1) | exact HB.out)⟩⟩
                · rw [if_neg c11] at H
                  have c11b0 : (t132 == 0) = false := beq_eq_false_iff_ne.mpr c11
                  have c11b1 : (t132 != 0) = true := bne_iff_ne.mpr c11
                  simp only [Option.some.injEq, Prod.mk.injEq] at H
                  obtain ⟨rfl, rfl⟩ := H
                  go_wp2_with (first | ((with_reducible refine gate_callee (f := 10) rfl ?_); refine goesL_ (some 26) rfl rfl Tryz.func10 (by kernel_rfl) rfl #[.string x7_2, .string a0] rfl (by (try simp only [List.map_toArray, List.map_cons, List.map_nil]); first | done | rfl | (simp only [List.length_drop, List.length_take]; rfl)) ?_; (with_reducible refine (whole_Mul.calls x7_2 a0 t131 t132 _ A10.out (Env.below ENV0.out (by repeat (first | (with_reducible first | exact HB.out | apply below_alloc | apply pw_below_drewN | apply below_drew1) | exact HB.out)))).mono ?_); rintro e w13 ⟨rfl, hb⟩; refine ⟨_, rfl, ?_⟩; have n0_ := Aside0.mk (below_step (by repeat (first | (with_reducible first | exact HB.out | apply below_alloc | apply pw_below_drewN | apply below_drew1) | exact HB.out)) hb); clear HB; have HB := n0_; clear n0_; (try clear hb); (try clear hb2); (try clear hk); (try clear hi)))
                  go_ret2
                  exact ⟨by first | rfl | (simp [errW_none, errW_some] <;> rfl) | (simp [*, errW_none, errW_some] <;> rfl), by repeat (first | (with_reducible first | exact HB.out | apply below_alloc | apply pw_below_drewN | apply below_drew1) | exact HB.out)⟩
              · rw [if_neg c9] at H
                have c9b0 : decide (x21_2 < a1) = false := decide_eq_false c9
                clear c9
                simp only [Option.some.injEq, Prod.mk.injEq] at H
                obtain ⟨rfl, rfl⟩ := H
                go_wp2
                go_ret2
                exact ⟨by first | rfl | (simp [errW_none, errW_some] <;> rfl) | (simp [*, errW_none, errW_some] <;> rfl), by repeat (first | (with_reducible first | exact HB.out | apply below_alloc | apply pw_below_drewN | apply below_drew1) | exact HB.out)⟩
  · rw [if_neg c4] at H
    have c4b0 : (t130 == 0) = false := beq_eq_false_iff_ne.mpr c4
    have c4b1 : (t130 != 0) = true := bne_iff_ne.mpr c4
    simp only [Option.some.injEq, Prod.mk.injEq] at H
    obtain ⟨rfl, rfl⟩ := H
    go_enter Tryz.func17, Tryz.ntmps17
    go_wp2_with (first | ((with_reducible refine gate_callee (f := 28) rfl ?_); refine goesL_ (some 10) rfl rfl Tryz.func28 (by kernel_rfl) rfl #[.string a0] rfl (by (try simp only [List.map_toArray, List.map_cons, List.map_nil]); first | done | rfl | (simp only [List.length_drop, List.length_take]; rfl)) ?_; (with_reducible refine (whole_Check.calls a0 t130 _ A3.out).mono ?_); rintro e w14 ⟨rfl, hb⟩; refine ⟨_, rfl, ?_⟩; have n0_ := Aside0.mk (below_step (by repeat (first | (with_reducible first | exact HB.out | apply below_alloc | apply pw_below_drewN | apply below_drew1) | exact HB.out)) hb); clear HB; have HB := n0_; clear n0_; (try clear hb); (try clear hb2); (try clear hk); (try clear hi)))
    go_ret2
    exact ⟨by first | rfl | (simp [errW_none, errW_some] <;> rfl) | (simp [*, errW_none, errW_some] <;> rfl), by repeat (first | (with_reducible first | exact HB.out | apply below_alloc | apply pw_below_drewN | apply below_drew1) | exact HB.out)⟩
end Go.Proofs.YtpkfnclbcmnckaaGreatDoor.ZB
set_option linter.unusedVariables false
namespace Go.Proofs.YtpkfnclbcmnckaaGreatDoor
open Go Go.RowKit Go.Proofs.YtpkfnclbcmnckaaGreatDoor.Dec Go.Proofs.YtpkfnclbcmnckaaGreatDoor.Mem Go.Proofs.YtpkfnclbcmnckaaGreatDoor.Wid Go.Proofs.YtpkfnclbcmnckaaGreatDoorW.PrintWords
def cmpI (x y : Int) : Int := if x < y then -1 else if y < x then 1 else 0
def two (a b : ByteArray) (z : Int) : ByteArray × Int := if errs [a, b] = 0 then lim z else (⟨#[]⟩, errs [a, b])
theorem errs_cons0 {a : ByteArray} {l : List ByteArray} (h : chk a = 0) : errs (a :: l) = errs l := if_pos h
def quoS (a b : ByteArray) : ByteArray × Int := if errs [a, b] = 0 then (if iv b = 0 then (⟨#[]⟩, 10) else lim ((iv a).fdiv (iv b))) else (⟨#[]⟩, errs [a, b])
def remS (a b : ByteArray) : ByteArray × Int := if errs [a, b] = 0 then (if iv b = 0 then (⟨#[]⟩, 10) else (dec ((iv a).fmod (iv b)), 0)) else (⟨#[]⟩, errs [a, b])
theorem quo_abs (x y : Int) (hy : y ≠ 0) : (x.fdiv y).natAbs ≤ x.natAbs + 1 := by
  obtain ⟨p1, p2⟩ := parted_long x y hy
  have hd : x.natAbs / y.natAbs ≤ x.natAbs := Nat.div_le_self _ _
  generalize x.natAbs / y.natAbs = q at *
  by_cases h : 0 < x.natAbs % y.natAbs ∧ decide (x < 0) ≠ decide (y < 0)
  · rw [(p1 h).1]
    unfold sv
    rw [if_pos rfl]
    omega
  · rw [(p2 h).1]
    unfold sv
    split <;> omega
theorem dec_small {z : Int} (h : z.natAbs < B ^ 115) : (dec z).size ≤ 9223372036854775807 := by
  have h1 := mag_ge (dec z).data.toList
  have h2 : (mag (dec z).data.toList).length ≤ 9 * 115 := by
    rw [dec_list, mag_itoa, Lib.decDigits_length, nDigits_le_iff _ _ (by decide), ← B_pow 115]
    exact h
  rw [size_list]
  omega
theorem lt_115 {v : Nat} (h : v < B ^ 114) : v + 1 < B ^ 115 := by
  have h1 : B ^ 115 = B ^ 114 * B := by rw [← Nat.pow_succ]
  have h2 : B ^ 114 * 2 ≤ B ^ 114 * B := Nat.mul_le_mul_left _ (by decide)
  omega
theorem quo_is (a b : ByteArray) (ha : a.size ≤ 9223372036854775807) (hb : b.size ≤ 9223372036854775807) : ZB.whole_Quo.f a b = some (quoS a b) := by
  unfold ZB.whole_Quo.f whole_parted.f
  rw [if_pos ⟨ha, hb⟩, Option.bind_some]
  unfold partedS quoS
  by_cases h0 : errs [a, b] = 0
  · rw [if_pos h0, if_pos h0]
    obtain ⟨ca, cb⟩ := errs2 h0
    by_cases hz : iv b = 0
    · rw [if_pos hz, if_pos hz, if_neg (by decide)]
    · rw [if_neg hz, if_neg hz, if_pos rfl]
      have hq : (dec ((iv a).fdiv (iv b))).size ≤ 9223372036854775807 := dec_small (Nat.lt_of_le_of_lt (quo_abs _ _ hz) (lt_115 (iv_chk ca)))
      unfold whole_Check.f
      show (if (dec ((iv a).fdiv (iv b))).size ≤ 9223372036854775807 then some (chk (dec ((iv a).fdiv (iv b)))) else none).bind _ = _
      rw [if_pos hq, Option.bind_some]
      unfold lim
      rcases chk_dec_or ((iv a).fdiv (iv b)) with h | h
      · rw [if_pos h, if_pos h]
      · rw [h, if_neg (by decide), if_neg (by decide)]
  · rw [if_neg h0, if_neg h0, if_neg h0]
theorem rem_is (a b : ByteArray) (ha : a.size ≤ 9223372036854775807) (hb : b.size ≤ 9223372036854775807) : ZB.whole_Rem.f a b = some (remS a b) := by
  unfold ZB.whole_Rem.f whole_parted.f
  rw [if_pos ⟨ha, hb⟩, Option.bind_some]
  unfold partedS remS
  by_cases h0 : errs [a, b] = 0
  · rw [if_pos h0, if_pos h0]
    by_cases hz : iv b = 0
    · rw [if_pos hz, if_pos hz]
    · rw [if_neg hz, if_neg hz]
  · rw [if_neg h0, if_neg h0]
end Go.Proofs.YtpkfnclbcmnckaaGreatDoor
set_option linter.unusedVariables false
namespace Go.Proofs.YtpkfnclbcmnckaaGreatDoor
open Go Go.RowKit Go.Proofs.YtpkfnclbcmnckaaGreatDoor.Dec Go.Proofs.YtpkfnclbcmnckaaGreatDoor.Mem Go.Proofs.YtpkfnclbcmnckaaGreatDoor.Wid Go.Proofs.YtpkfnclbcmnckaaGreatDoorW.PrintWords
def gcdS (a b : ByteArray) : ByteArray × Int := if errs [a, b] = 0 then (dec ((iv a).gcd (iv b) : Nat), 0) else (⟨#[]⟩, errs [a, b])
def GcdP (a b : ByteArray) (w : World) (L : ByteArray × Int) : Prop :=
    Calls Tryz.prog 15 #[.string a, .string b] w fun e w' => e = .returned (.tuple #[.string L.1, .int .i64 L.2]) ∧ Below w.heap.size w w'
theorem W_one {v : Nat} (h : v < B) : (W v).getD 0 0 = (v : Int) := by
  rw [W_get _ 0 (by decide), show word v 0 = v by unfold word; rw [Nat.pow_zero, Nat.div_one, Nat.mod_eq_of_lt h]]
theorem lt_of_nw1 {v : Nat} (h : nw v ≤ 1) : v < B := by have := (nw_le_iff v 1).1 h; rwa [Nat.pow_one] at this
set_option maxRecDepth 100000 in
theorem gcd_err (a b : ByteArray) (w : World) (E : Int) (HALL : Hid (All2 a b E)) (h0 : E ≠ 0) : GcdP a b w (⟨#[]⟩, E) := by
  unfold GcdP
  have g : (E == 0) = false := beq_eq_false_iff_ne.2 h0
  clear h0
  go_enter Tryz.func15, Tryz.ntmps15
  go_wp2_with ((with_reducible refine gate_dst (N := 15) rfl ?_); refine Kd.R_lit Kd.string _ 22 ?hg (N := 15) ?hd (xs := ([a, b] : List ByteArray)) (inner := [.string a, .string b]) (ok := fun _ => True) (okp := fun _ => True) ?hr ?hp (fun _ hk => hk) trivial (Below.refl _ _) (Nat.le_refl _) (by simp) ?_; (case hd => rfl); (case hg => rfl); (case hr => first | (go_simp; done) | (go_simp; rfl)); (case hp => exact (Reps.one (show Kd.M Kd.string _ _ _ a [.string a] from rfl) (Reps.one (show Kd.M Kd.string _ _ _ b [.string b] from rfl) (Reps.none _ _)))); intro v1 w1 ho hb _ _; have HO := Hid.mk' ho; have HB1 := Hid.mk' hb; clear ho hb; obtain ⟨Ao, co, eo⟩ := Kd.R_slice HO.out; subst eo)
  refine (HALL.out Ao co w1 (Kd.R_reads' HO.out).2.2 (Kd.R_reads' HO.out).2.1).mono ?_
  rintro e w2 ⟨rfl, hb2⟩
  have HB2 := Hid.mk' (Below.trans HB1.out (hb2.mono HB1.out.size))
  clear hb2 HO HB1
  go_wp2_with fail
  go_ret2
  exact ⟨rfl, HB2.out⟩
set_option maxRecDepth 100000 in
set_option maxHeartbeats 2000000 in
theorem gcd_ok (a b : ByteArray) (w : World) (HALL : Hid (All2 a b 0)) (HEE : Hid (Env w))
    (lx ly : Bool) (vx vy G : Nat) (HRA : Hid (Rd a lx vx)) (HRB : Hid (Rd b ly vy)) (FX : Hid (vx < B ^ 114)) (FY : Hid (vy < B ^ 114)) (HG : Hid (Nat.gcd vx vy = G)) : GcdP a b w (dec (G : Int), 0) := by
  unfold GcdP
  go_enter Tryz.func15, Tryz.ntmps15
  go_wp2_with ((with_reducible refine gate_dst (N := 15) rfl ?_); refine Kd.R_lit Kd.string _ 22 ?hg (N := 15) ?hd (xs := ([a, b] : List ByteArray)) (inner := [.string a, .string b]) (ok := fun _ => True) (okp := fun _ => True) ?hr ?hp (fun _ hk => hk) trivial (Below.refl _ _) (Nat.le_refl _) (by simp) ?_; (case hd => rfl); (case hg => rfl); (case hr => first | (go_simp; done) | (go_simp; rfl)); (case hp => exact (Reps.one (show Kd.M Kd.string _ _ _ a [.string a] from rfl) (Reps.one (show Kd.M Kd.string _ _ _ b [.string b] from rfl) (Reps.none _ _)))); intro v1 w1 ho hb _ _; have HO := Hid.mk' ho; have HB1 := Hid.mk' hb; clear ho hb; obtain ⟨Ao, co, eo⟩ := Kd.R_slice HO.out; subst eo)
  refine (HALL.out Ao co w1 (Kd.R_reads' HO.out).2.2 (Kd.R_reads' HO.out).2.1).mono ?_
  rintro e w2 ⟨rfl, hb2⟩
  have HB2 := Hid.mk' (Below.trans HB1.out (hb2.mono HB1.out.size))
  clear hb2 HO HB1
  go_wp2_with fail
  refine (HRA.out w2).mono ?_
  rintro e w4 ⟨pa, rfl, hpa, hwa, hb4⟩
  have HB4 := Hid.mk' (Below.trans HB2.out (hb4.mono HB2.out.size))
  have HWA := Hid.mk' hwa
  have hga : w.heap.size ≤ pa := Nat.le_trans HB2.out.size hpa
  clear hb4 hwa HRA HB2 HALL hpa
  go_wp2_with fail
  refine (HRB.out w4).mono ?_
  rintro e w5 ⟨pb, rfl, hpb, hwb, hb5⟩
  have HWA2 := Hid.mk' (HWA.out.below hb5 HWA.out.size)
  have HB5 := Hid.mk' (Below.trans HB4.out (hb5.mono HB4.out.size))
  have HWB := Hid.mk' hwb
  have hgb : w.heap.size ≤ pb := Nat.le_trans HB4.out.size hpb
  clear hb5 hwb HRB HB4 HWA hpb
  go_wp2_with fail
  go_loopg [7, 8] vy (fun g s7 s8 wr => ∃ (p q : Nat) (l1 l2 : Bool) (v1 v2 : Nat), s7 = .pointer (some ⟨p, 0, none⟩) ∧ s8 = .pointer (some ⟨q, 0, none⟩) ∧ w.heap.size ≤ p ∧ w.heap.size ≤ q ∧ v2 ≤ g ∧ IsW wr p l1 v1 ∧ IsW wr q l2 v2 ∧ Hid (v1 < B ^ 114) ∧ Hid (v2 < B ^ 114) ∧ Hid (Nat.gcd v1 v2 = G) ∧ Below w.heap.size w wr)
  case atStart => exact ⟨pa, pb, lx, ly, vx, vy, rfl, rfl, hga, hgb, Nat.le_refl _, HWA2.out, HWB.out, FX.out, FY.out, HG.out, HB5.out⟩
  case round =>
    obtain ⟨p, q, l1, l2, v1, v2, rfl, rfl, hp, hq, hg, h1, h2, F1, F2, HG2, hB⟩ := hrel
    have H1 := Hid.mk' h1
    have H2 := Hid.mk' h2
    have HB := Hid.mk' hB
    have c1 := h1.cell1
    have c2 := h2.cell1
    clear h1 h2 hB HWA2 HWB HB5 FX FY HG hga hgb
    rcases Nat.eq_zero_or_pos v2 with h0 | h0
    · subst h0
      rw [nw_zero] at c2
      have c2' : wr.cell? ⟨q, 1, none⟩ = some (.int .i64 0) := c2
      have k1 := H1.out.cell0
      have k2 := H1.out.free 0
      have HS := Hid.mk' (H1.out.set0 false)
      have HB2 : Hid (Below w.heap.size w (wr.setCell ⟨p, 0, none⟩ (.bool false))) := HB.out.setCell (p := ⟨p, 0, none⟩) hp _
      have hG : G = v1 := by rw [← HG2.out, Nat.gcd_zero_right]
      subst hG
      clear c2 c1 HG2
      go_wp2_with fail
      refine (text_any p false G _ HS.out (fits_114 F1.out) (HEE.out.below HB2.out).1).mono ?_
      rintro e w9 ⟨rfl, hb9⟩
      have HB9 := Hid.mk' (Below.trans HB2.out (hb9.mono HB2.out.size))
      clear hb9
      go_wp2_with fail
      go_ret2
      exact ⟨rfl, HB9.out⟩
    · have hn2 : (0 : Int) < (nw v2 : Int) := by have := nw_pos.2 h0; omega
      have hd2 : decide ((0 : Int) < (nw v2 : Int)) = true := decide_eq_true hn2
      have h0 : Hid (0 < v2) := h0
      by_cases hs : nw v1 ≤ 1
      · have a1 : (nw v1 : Int) ≤ 1 := by omega
        have d1 : decide ((nw v1 : Int) ≤ 1) = true := decide_eq_true a1
        by_cases hs2 : nw v2 ≤ 1
        · have a2 : (nw v2 : Int) ≤ 1 := by omega
          have d2 : decide ((nw v2 : Int) ≤ 1) = true := decide_eq_true a2
          have m1 := H1.out.cellw 0 (by decide)
          have m2 := H2.out.cellw 0 (by decide)
          rw [W_one (lt_of_nw1 hs)] at m1
          rw [W_one (lt_of_nw1 hs2)] at m2
          have L1 : Hid (v1 < B) := lt_of_nw1 hs
          have L2 : Hid (v2 < B) := lt_of_nw1 hs2
          generalize ((nw v1 : Nat) : Int) = n1 at *
          generalize ((nw v2 : Nat) : Int) = n2 at *
          clear hs hs2
          go_wp2_with fail
          go_quiet (fail)
          have HB8 : Hid (Below w.heap.size w (wr.drewN nq)) := pwd_below_drewN HB.out nq
          generalize wr.drewN nq = W8 at HB8 ⊢
          clear H1 H2 HB c1 c2 m1 m2 a1 d1 a2 d2 hn2 hd2 F1 F2
          go_wp2_with fail
          go_loopg [9, 10] v2 (fun g s9 s10 wr => ∃ (m n : Nat), s9 = .int .i64 (m : Int) ∧ s10 = .int .i64 (n : Int) ∧ n ≤ g ∧ Hid (m < B) ∧ Hid (n < B) ∧ Hid (Nat.gcd m n = G) ∧ Below w.heap.size w wr)
          case atStart => exact ⟨v1, v2, rfl, rfl, Nat.le_refl _, L1.out, L2.out, HG2.out, HB8.out⟩
          case round =>
            obtain ⟨m, n, rfl, rfl, hng, M1, M2, HG3, hB⟩ := hrel
            have HB := Hid.mk' hB
            clear hB HB8 L1 L2 HG2
            rcases Nat.eq_zero_or_pos n with h3 | h3
            · subst h3
              have hG : G = m := by rw [← HG3.out, Nat.gcd_zero_right]
              subst hG
              have hOF : Hid (OfQ (G : Int)) := ofQ (by omega) (by have := M1.out; unfold B at this; omega)
              go_wp2_with fail
              refine (hOF.out _ (HEE.out.below HB.out)).mono ?_
              rintro e w9 ⟨rfl, hb9⟩
              have HB9 := Hid.mk' (Below.trans HB.out (hb9.mono HB.out.size))
              clear hb9
              go_wp2_with fail
              go_ret2
              exact ⟨rfl, HB9.out⟩
            · have e0 : ¬ ((n : Int) = 0) := by omega
              have e1 : ((n : Int) == 0) = false := beq_eq_false_iff_ne.2 e0
              have hlt : Hid (m % n < n) := Nat.mod_lt _ h3
              have HG4 : Hid (Nat.gcd n (m % n) = G) := by show _ = _; rw [← HG3.out, Nat.gcd_comm m n, Nat.gcd_rec n m, Nat.gcd_comm]
              have e2 : (m : Int).tmod (n : Int) = ((m % n : Nat) : Int) := tm m n
              generalize m % n = t at *
              go_wp2_with fail
              go_quiet (fail)
              have HB9 : Hid (Below w.heap.size w (wr.drewN nq)) := pwd_below_drewN HB.out nq
              go_wp2_with fail
              go_roundg t
              case measure => have := hlt.out; omega
              case rel => exact ⟨n, t, by go_num, by go_num, Nat.le_refl _, M2.out, Nat.lt_trans hlt.out M2.out, HG4.out, HB9.out⟩
        · have a2 : ¬ ((nw v2 : Int) ≤ 1) := by omega
          have d2 : decide ((nw v2 : Int) ≤ 1) = false := decide_eq_false a2
          generalize ((nw v1 : Nat) : Int) = n1 at *
          generalize ((nw v2 : Nat) : Int) = n2 at *
          clear hs hs2
          go_wp2_with fail
          refine (divided_any p q l1 l2 v1 v2 wr H1.out H2.out (fits_114 F1.out) (fits_B F2.out) h0.out).mono ?_
          rintro e w6 ⟨o, r, rfl, ho, hr, hor, hwo, hwr, hb6⟩
          have HB6 := Hid.mk' (Below.trans HB.out (hb6.mono HB.out.size))
          have H2' := Hid.mk' (H2.out.below hb6 H2.out.size)
          have HR := Hid.mk' hwr
          have hgr : w.heap.size ≤ r := Nat.le_trans HB.out.size hr
          have HG3 : Hid (Nat.gcd v2 (v1 % v2) = G) := by show _ = _; rw [← HG2.out, Nat.gcd_comm v1 v2, Nat.gcd_rec v2 v1, Nat.gcd_comm]
          have hlt : Hid (v1 % v2 < v2) := Nat.mod_lt _ h0.out
          clear hb6 hwo hwr ho hr
          go_wp2_with fail
          go_roundg (v1 % v2)
          case measure => have := hlt.out; omega
          case rel => exact ⟨q, r, _, _, v2, v1 % v2, rfl, rfl, hq, hgr, Nat.le_refl _, H2'.out, HR.out, F2.out, Nat.lt_of_le_of_lt (Nat.mod_le _ _) F1.out, HG3.out, HB6.out⟩
      · have a1 : ¬ ((nw v1 : Int) ≤ 1) := by omega
        have d1 : decide ((nw v1 : Int) ≤ 1) = false := decide_eq_false a1
        generalize ((nw v1 : Nat) : Int) = n1 at *
        generalize ((nw v2 : Nat) : Int) = n2 at *
        clear hs
        go_wp2_with fail
        refine (divided_any p q l1 l2 v1 v2 wr H1.out H2.out (fits_114 F1.out) (fits_B F2.out) h0.out).mono ?_
        rintro e w6 ⟨o, r, rfl, ho, hr, hor, hwo, hwr, hb6⟩
        have HB6 := Hid.mk' (Below.trans HB.out (hb6.mono HB.out.size))
        have H2' := Hid.mk' (H2.out.below hb6 H2.out.size)
        have HR := Hid.mk' hwr
        have hgr : w.heap.size ≤ r := Nat.le_trans HB.out.size hr
        have HG3 : Hid (Nat.gcd v2 (v1 % v2) = G) := by show _ = _; rw [← HG2.out, Nat.gcd_comm v1 v2, Nat.gcd_rec v2 v1, Nat.gcd_comm]
        have hlt : Hid (v1 % v2 < v2) := Nat.mod_lt _ h0.out
        clear hb6 hwo hwr ho hr
        go_wp2_with fail
        go_roundg (v1 % v2)
        case measure => have := hlt.out; omega
        case rel => exact ⟨q, r, _, _, v2, v1 % v2, rfl, rfl, hq, hgr, Nat.le_refl _, H2'.out, HR.out, F2.out, Nat.lt_of_le_of_lt (Nat.mod_le _ _) F1.out, HG3.out, HB6.out⟩
theorem gp {a b : ByteArray} {w : World} {L M : ByteArray × Int} (h : GcdP a b w L) (e : M = L) : GcdP a b w M := by rw [e]; exact h
theorem gcd_any (a b : ByteArray) (w : World) (ha : a.size ≤ 9223372036854775807) (hb : b.size ≤ 9223372036854775807) (HE : Env w) : GcdP a b w (gcdS a b) := by
  have hall := all2 a b ha hb
  by_cases h0 : errs [a, b] = 0
  · rw [h0] at hall
    obtain ⟨ca, cb⟩ := errs2 h0
    exact gp (gcd_ok a b w hall HE _ _ _ _ ((iv a).gcd (iv b)) (fun w => read_any a w (chk_zero ca).1 (size_chk ca)) (fun w => read_any b w (chk_zero cb).1 (size_chk cb)) (iv_chk ca) (iv_chk cb) rfl) (by unfold gcdS; rw [if_pos h0])
  · exact gp (gcd_err a b w _ hall h0) (by unfold gcdS; rw [if_neg h0])
def whole_Gcd.f (a b : ByteArray) : Option (ByteArray × Int) := if a.size ≤ 9223372036854775807 ∧ b.size ≤ 9223372036854775807 then some (gcdS a b) else none
theorem whole_Gcd.calls (a0 a1 : ByteArray) (r1 : ByteArray) (r2 : Int) (w : World) (h : whole_Gcd.f a0 a1 = some (r1, r2)) (HE : Env w) :
    Calls Tryz.prog 15 #[.string a0, .string a1] w fun e w' => e = .returned (.tuple #[.string r1, .int .i64 r2]) ∧ Below w.heap.size w w' := by
  unfold whole_Gcd.f at h
  split at h
  · rename_i hs
    exact gp (gcd_any a0 a1 w hs.1 hs.2 HE) (Option.some.inj h).symm
  · cases h
end Go.Proofs.YtpkfnclbcmnckaaGreatDoor
set_option linter.unusedVariables false
namespace Go.Proofs.YtpkfnclbcmnckaaGreatDoor
open Go Go.RowKit Go.Proofs.YtpkfnclbcmnckaaGreatDoor.Dec Go.Proofs.YtpkfnclbcmnckaaGreatDoor.Mem Go.Proofs.YtpkfnclbcmnckaaGreatDoor.Wid Go.Proofs.YtpkfnclbcmnckaaGreatDoorW.PrintWords
def ch : Nat → Nat → Nat
  | _, 0 => 1
  | 0, _ + 1 => 0
  | n + 1, k + 1 => ch n k + ch n (k + 1)
theorem ch_zero (n : Nat) : ch n 0 = 1 := by cases n <;> rfl
theorem ch_succ (n k : Nat) : ch (n + 1) (k + 1) = ch n k + ch n (k + 1) := rfl
theorem ch_over : ∀ (n k : Nat), n < k → ch n k = 0
  | 0, 0, h => absurd h (by decide)
  | 0, k + 1, _ => rfl
  | n + 1, 0, h => absurd h (by omega)
  | n + 1, k + 1, h => by rw [ch_succ, ch_over n k (by omega), ch_over n (k + 1) (by omega)]
theorem ch_step : ∀ (n i : Nat), i ≤ n → ch n (i + 1) * (i + 1) = ch n i * (n - i)
  | 0, i, h => by
    obtain rfl : i = 0 := by omega
    rfl
  | n + 1, 0, _ => by
    have := ch_step n 0 (Nat.zero_le _)
    rw [ch_zero] at this
    rw [ch_succ, ch_zero, ch_zero]
    omega
  | n + 1, j + 1, h => by
    have h1 := ch_step n j (by omega)
    rcases Nat.lt_or_ge j n with hlt | hge
    · have h2 := ch_step n (j + 1) (by omega)
      rw [ch_succ n (j + 1), ch_succ n j, Nat.add_mul, h2, Nat.add_mul]
      have e1 : n + 1 - (j + 1) = n - j := by omega
      rw [e1, ← h1, ← Nat.mul_add, ← Nat.mul_add]
      congr 1
      omega
    · obtain rfl : j = n := by omega
      rw [ch_succ j (j + 1), ch_over j (j + 1 + 1) (by omega), ch_over j (j + 1) (by omega)]
      simp
theorem ch_sym : ∀ (n k : Nat), k ≤ n → ch n k = ch n (n - k)
  | 0, k, h => by
    obtain rfl : k = 0 := by omega
    rfl
  | n + 1, 0, _ => by
    have := ch_sym n n (Nat.le_refl _)
    rw [Nat.sub_self, ch_zero] at this
    rw [ch_zero, Nat.sub_zero, ch_succ, ch_over n (n + 1) (by omega), this]
  | n + 1, k + 1, h => by
    rcases Nat.lt_or_ge k n with hlt | hge
    · obtain ⟨m, hm⟩ : ∃ m, n - k = m + 1 := ⟨n - k - 1, by omega⟩
      have h1 := ch_sym n k (by omega)
      have h2 := ch_sym n (k + 1) (by omega)
      rw [show n + 1 - (k + 1) = m + 1 by omega, ch_succ, ch_succ, h1, h2, hm, show n - (k + 1) = m by omega]
      omega
    · obtain rfl : k = n := by omega
      have := ch_sym k k (Nat.le_refl _)
      rw [Nat.sub_self, ch_zero] at this
      rw [Nat.sub_self, ch_zero, ch_succ, this, ch_over k (k + 1) (by omega)]
theorem ch_le_next {n i : Nat} (h : 2 * i + 1 ≤ n) : ch n i ≤ ch n (i + 1) := by
  have h1 := ch_step n i (by omega)
  have h2 : ch n i * (i + 1) ≤ ch n i * (n - i) := Nat.mul_le_mul_left _ (by omega)
  rw [← h1] at h2
  exact Nat.le_of_mul_le_mul_right h2 (by omega)
theorem ch_mono {n i : Nat} : ∀ (d : Nat), 2 * (i + d) ≤ n → ch n i ≤ ch n (i + d)
  | 0, _ => Nat.le_refl _
  | d + 1, h => Nat.le_trans (ch_mono d (by omega)) (ch_le_next (by omega))
theorem ch_div {n i : Nat} (h : i ≤ n) : ch n i * (n - i) / (i + 1) = ch n (i + 1) := by
  rw [← ch_step n i h, Nat.mul_div_cancel _ (by omega)]
def binS (n k : Int) : ByteArray × Int :=
  if n < 0 ∨ 4096 < n then (⟨#[]⟩, 2) else if k < 0 ∨ n < k then (⟨#[48]⟩, 0) else lim (ch n.toNat k.toNat : Nat)
def BinP (n k : Int) (w : World) (L : ByteArray × Int) : Prop :=
    Calls Tryz.prog 19 #[.int .i64 n, .int .i64 k] w fun e w' => e = .returned (.tuple #[.string L.1, .int .i64 L.2]) ∧ Below w.heap.size w w'
set_option maxRecDepth 100000 in
theorem bin_neg (n k : Int) (w : World) (h : n < 0) : BinP n k w (⟨#[]⟩, 2) := by
  unfold BinP
  have d : decide (n < 0) = true := decide_eq_true h
  go_enter Tryz.func19, Tryz.ntmps19
  go_wp2_with fail
  go_ret2
  exact ⟨rfl, Below.refl _ _⟩
set_option maxRecDepth 100000 in
theorem bin_big (n k : Int) (w : World) (h : ¬ n < 0) (h2 : 4096 < n) : BinP n k w (⟨#[]⟩, 2) := by
  unfold BinP
  have d : decide (n < 0) = false := decide_eq_false h
  have d2 : decide (4096 < n) = true := decide_eq_true h2
  go_enter Tryz.func19, Tryz.ntmps19
  go_wp2_with fail
  go_ret2
  exact ⟨rfl, Below.refl _ _⟩
set_option maxRecDepth 100000 in
theorem bin_k0 (n k : Int) (w : World) (h : ¬ n < 0) (h2 : ¬ 4096 < n) (h3 : k < 0) : BinP n k w (⟨#[48]⟩, 0) := by
  unfold BinP
  have d : decide (n < 0) = false := decide_eq_false h
  have d2 : decide (4096 < n) = false := decide_eq_false h2
  have d3 : decide (k < 0) = true := decide_eq_true h3
  go_enter Tryz.func19, Tryz.ntmps19
  go_wp2_with fail
  go_ret2
  exact ⟨rfl, Below.refl _ _⟩
set_option maxRecDepth 100000 in
theorem bin_kn (n k : Int) (w : World) (h : ¬ n < 0) (h2 : ¬ 4096 < n) (h3 : ¬ k < 0) (h4 : n < k) : BinP n k w (⟨#[48]⟩, 0) := by
  unfold BinP
  have d : decide (n < 0) = false := decide_eq_false h
  have d2 : decide (4096 < n) = false := decide_eq_false h2
  have d3 : decide (k < 0) = false := decide_eq_false h3
  have d4 : decide (n < k) = true := decide_eq_true h4
  go_enter Tryz.func19, Tryz.ntmps19
  go_wp2_with fail
  go_ret2
  exact ⟨rfl, Below.refl _ _⟩
theorem dec_of {s : ByteArray} {z : Int} (hc : chk s = 0) (hv : iv s = z) : dec z = s := by rw [← hv]; exact dec_iv (chk_zero hc).1
theorem rd_dec {z : Nat} (h : z ≤ 4096) : Rd (dec (z : Int)) false z := by
  intro w
  have hs : (dec (z : Int)).size ≤ 2000 := by
    have h1 := mag_ge (dec (z : Int)).data.toList
    rw [size_list]
    have h2 : (mag (dec (z : Int)).data.toList).length ≤ 100 := by
      rw [dec_list, mag_itoa, abs_nat, Lib.decDigits_length, nDigits_le_iff _ _ (by decide)]
      exact Nat.lt_of_lt_of_le (show z < 10 ^ 4 by omega) (Nat.pow_le_pow_right (by decide) (by decide))
    omega
  have := read_any (dec (z : Int)) w (canon_dec _) hs
  rw [iv_dec, abs_nat, lt_nat] at this
  exact this
theorem rd_one : Rd ⟨#[49]⟩ false 1 := by
  have h := rd_dec (z := 1) (by decide)
  have e : dec ((1 : Nat) : Int) = ⟨#[49]⟩ := dec_of (by decide) (by decide)
  rw [e] at h
  exact h
end Go.Proofs.YtpkfnclbcmnckaaGreatDoor
set_option linter.unusedVariables false
namespace Go.Proofs.YtpkfnclbcmnckaaGreatDoor
open Go Go.RowKit Go.Proofs.YtpkfnclbcmnckaaGreatDoor.Dec Go.Proofs.YtpkfnclbcmnckaaGreatDoor.Mem Go.Proofs.YtpkfnclbcmnckaaGreatDoor.Wid Go.Proofs.YtpkfnclbcmnckaaGreatDoorW.PrintWords
theorem fits_4096 {v z : Nat} (hv : v < B ^ 114) (hz : z ≤ 4096) : Fits (v * z) := by
  refine sum_fits (i := 4096) (by decide) ?_
  rw [Nat.mul_comm]
  exact Nat.mul_le_mul hz (Nat.le_of_lt hv)
theorem small_114 {z : Nat} (hz : z ≤ 4096) : z < B ^ 114 := Nat.lt_of_le_of_lt hz (Nat.lt_of_lt_of_le (show 4096 < B ^ 1 by decide) (Nat.pow_le_pow_right B_pos (by decide)))
theorem chk_dec_big {z m : Nat} (hm : 1024 ≤ m) (h : 10 ^ m ≤ z) : chk (dec (z : Int)) = 11 := by
  rw [chk_of_canon (canon_dec _), dec_list, mag_itoa, abs_nat, Lib.decDigits_length, if_pos]
  rcases Nat.lt_or_ge 1024 (Lib.nDigits z) with h1 | h1
  · exact h1
  · have := (nDigits_le_iff z m (by omega)).1 (by omega)
    omega
theorem lim_big {z : Nat} (h : B ^ 114 ≤ z) : lim (z : Int) = (⟨#[]⟩, 11) := by
  have hc : chk (dec (z : Int)) = 11 := chk_dec_big (m := 9 * 114) (by decide) (by rw [← B_pow 114]; exact h)
  unfold lim
  rw [hc, if_neg (by decide)]
set_option maxRecDepth 100000 in
set_option maxHeartbeats 2000000 in
theorem bin_main (n k m : Nat) (w : World) (hn : n ≤ 4096) (hk : k ≤ n) (hm : min (k : Int) ((n : Int) - (k : Int)) = (m : Int)) (hm2 : 2 * m ≤ n) (HC : Hid (ch n m = ch n k)) (HEE : Hid (Env w)) : BinP (n : Int) (k : Int) w (lim (ch n k : Nat)) := by
  unfold BinP
  have d : decide ((n : Int) < 0) = false := decide_eq_false (by omega)
  have d2 : decide (4096 < (n : Int)) = false := decide_eq_false (by omega)
  have d3 : decide ((k : Int) < 0) = false := decide_eq_false (by omega)
  have d4 : decide ((n : Int) < (k : Int)) = false := decide_eq_false (by omega)
  have hnk : (0 : Int) ≤ (n : Int) - (k : Int) := by omega
  go_enter Tryz.func19, Tryz.ntmps19
  go_wp2_with fail
  refine (rd_one w).mono ?_
  rintro e w1 ⟨p1, rfl, hp1, hw1, hb1⟩
  have HB1 := Hid.mk' hb1
  have HW1 := Hid.mk' hw1
  clear hb1 hw1
  go_wp2_with fail
  clear d d2 d3 d4
  go_loopg [6, 27] m (fun g s6 s27 wr => ∃ (p i : Nat), s6 = .pointer (some ⟨p, 0, none⟩) ∧ s27 = .int .i64 (i : Int) ∧ i ≤ m ∧ m - i ≤ g ∧ w.heap.size ≤ p ∧ IsW wr p false (ch n i) ∧ Hid (ch n i < B ^ 114) ∧ Below w.heap.size w wr)
  case atStart => exact ⟨p1, 0, rfl, rfl, Nat.zero_le _, Nat.le_refl _, hp1, by rw [ch_zero]; exact HW1.out, by show _ < _; rw [ch_zero]; exact small_114 (by decide), HB1.out⟩
  case round =>
    obtain ⟨p, i, rfl, rfl, hi, hg, hp, hw, HF, hB⟩ := hrel
    have HB := Hid.mk' hB
    have HW := Hid.mk' hw
    clear hB hw HB1 HW1 hp1
    rcases Nat.lt_or_ge i m with hlt | hge
    · have g1 : (i : Int) < (m : Int) := by omega
      have e1 : (n : Int) - (i : Int) = ((n - i : Nat) : Int) := by omega
      have hOF1 : Hid (OfQ ((n - i : Nat) : Int)) := ofQ (by omega) (by omega)
      have hRD1 : Hid (Rd (dec ((n - i : Nat) : Int)) false (n - i)) := rd_dec (by omega)
      have hOF2 : Hid (OfQ ((i + 1 : Nat) : Int)) := ofQ (by omega) (by omega)
      have hRD2 : Hid (Rd (dec ((i + 1 : Nat) : Int)) false (i + 1)) := rd_dec (by omega)
      have hz1 : Hid (n - i ≤ 4096) := by show _ ≤ _; omega
      have hz2 : Hid (i + 1 ≤ 4096) := by show _ ≤ _; omega
      have hdv : Hid (ch n i * (n - i) / (i + 1) = ch n (i + 1)) := ch_div (by omega)
      have hmn := Hid.mk' (ch_mono (n := n) (i := i + 1) (m - (i + 1)) (by omega))
      have h2i : Hid (i + 1 + (m - (i + 1)) = m) := by show _ = _; omega
      generalize n - i = z at *
      go_wp2_with fail
      refine (hOF1.out _ (HEE.out.below HB.out)).mono ?_
      rintro e w2 ⟨rfl, hb2⟩
      have HB2 := Hid.mk' (Below.trans HB.out (hb2.mono HB.out.size))
      have HW2 := Hid.mk' (HW.out.below hb2 HW.out.size)
      clear hb2 HW HB
      go_wp2_with fail
      refine (hRD1.out w2).mono ?_
      rintro e w3 ⟨p3, rfl, hp3, hw3, hb3⟩
      have HB3 := Hid.mk' (Below.trans HB2.out (hb3.mono HB2.out.size))
      have HW3 := Hid.mk' (HW2.out.below hb3 HW2.out.size)
      have HZ3 := Hid.mk' hw3
      clear hb3 hw3 HB2 HW2 hp3
      go_wp2_with fail
      refine (times_any p p3 _ _ _ _ w3 HW3.out HZ3.out (fits_114 HF.out) (fits_114 (small_114 hz1.out)) (fits_4096 HF.out hz1.out)).mono ?_
      rintro e w4 ⟨p4, rfl, hp4, hw4, hb4⟩
      have HB4 := Hid.mk' (Below.trans HB3.out (hb4.mono HB3.out.size))
      have HW4 : Hid (IsW w4 p4 false (ch n i * z)) := hw4
      clear hb4 hw4 HB3 HW3 HZ3 hp4
      go_wp2_with fail
      refine (hOF2.out _ (HEE.out.below HB4.out)).mono ?_
      rintro e w5 ⟨rfl, hb5⟩
      have HB5 := Hid.mk' (Below.trans HB4.out (hb5.mono HB4.out.size))
      have HW5 := Hid.mk' (HW4.out.below hb5 HW4.out.size)
      clear hb5 HW4 HB4
      go_wp2_with fail
      refine (hRD2.out w5).mono ?_
      rintro e w6 ⟨p6, rfl, hp6, hw6, hb6⟩
      have HB6 := Hid.mk' (Below.trans HB5.out (hb6.mono HB5.out.size))
      have HW6 := Hid.mk' (HW5.out.below hb6 HW5.out.size)
      have HZ6 := Hid.mk' hw6
      clear hb6 hw6 HB5 HW5 hp6
      go_wp2_with fail
      refine (divided_any p4 p6 _ _ _ _ w6 HW6.out HZ6.out (fits_4096 HF.out hz1.out) (fits_B (small_114 hz2.out)) (Nat.succ_pos _)).mono ?_
      rintro e w7 ⟨q, r, rfl, hq, hr, hqr, hwq, hwr, hb7⟩
      rw [hdv.out] at hwq
      have HB7 := Hid.mk' (Below.trans HB6.out (hb7.mono HB6.out.size))
      have HQ := Hid.mk' hwq
      have hgq : w.heap.size ≤ q := Nat.le_trans HB6.out.size hq
      clear hb7 hwq hwr hq hr hqr HB6 HW6 HZ6
      have c1 := HQ.out.cell1
      rcases Nat.lt_or_ge 114 (nw (ch n (i + 1))) with hov | hfit
      · have h115 : Hid (B ^ 114 ≤ ch n (i + 1)) := by
          have := le_of_nw (v := ch n (i + 1)) (n := 114) (by omega)
          exact this
        have g9 : decide (1033 < (nw (ch n (i + 1)) : Int) * 9) = true := decide_eq_true (by omega)
        have hw9 : IntKind.i64.wrap ((nw (ch n (i + 1)) : Int) * 9) = (nw (ch n (i + 1)) : Int) * 9 := IntWalk.i64_in _ ⟨by omega, by have := nw_le_of_fits (fits_le (fits_4096 HF.out hz1.out) (show ch n (i + 1) ≤ ch n i * z from by rw [← hdv.out]; exact Nat.div_le_self _ _)); omega⟩
        have HL : Hid (lim (ch n k : Nat) = (⟨#[]⟩, 11)) := by
          show _ = _
          rw [← HC.out]
          refine lim_big (Nat.le_trans h115.out ?_)
          have := hmn.out
          rwa [h2i.out] at this
        generalize ((nw (ch n (i + 1)) : Nat) : Int) = N at *
        go_wp2_with fail
        go_ret2
        rw [HL.out]
        exact ⟨rfl, HB7.out⟩
      · have h114 : Hid (ch n (i + 1) < B ^ 114) := (nw_le_iff _ _).1 hfit
        have g9 : decide (1033 < (nw (ch n (i + 1)) : Int) * 9) = false := decide_eq_false (by omega)
        have hw9 : IntKind.i64.wrap ((nw (ch n (i + 1)) : Int) * 9) = (nw (ch n (i + 1)) : Int) * 9 := IntWalk.i64_in _ ⟨by omega, by omega⟩
        generalize ((nw (ch n (i + 1)) : Nat) : Int) = N at *
        clear hfit
        go_wp2_with fail
        go_roundg (m - (i + 1))
        case measure => omega
        case rel => exact ⟨q, i + 1, rfl, by go_num, hlt, Nat.le_refl _, hgq, HQ.out, h114.out, HB7.out⟩
    · have g1 : ¬ ((i : Int) < (m : Int)) := by omega
      obtain rfl : i = m := by omega
      go_wp2_with fail
      refine (limited_any p false _ wr HW.out (fits_114 HF.out) (HEE.out.below HB.out)).mono ?_
      rintro e w2 ⟨rfl, hb2⟩
      have HB2 := Hid.mk' (Below.trans HB.out (hb2.mono HB.out.size))
      clear hb2
      rw [show sv false (ch n i) = ((ch n i : Nat) : Int) from rfl, HC.out]
      go_wp2_with fail
      go_ret2
      exact ⟨rfl, HB2.out⟩
theorem bp {n k : Int} {w : World} {L M : ByteArray × Int} (h : BinP n k w L) (e : M = L) : BinP n k w M := by rw [e]; exact h
theorem bin_any (n k : Int) (w : World) (HE : Env w) : BinP n k w (binS n k) := by
  by_cases h1 : n < 0
  · exact bp (bin_neg n k w h1) (if_pos (.inl h1))
  · by_cases h2 : 4096 < n
    · exact bp (bin_big n k w h1 h2) (if_pos (.inr h2))
    · have e1 : ¬ (n < 0 ∨ 4096 < n) := by omega
      by_cases h3 : k < 0
      · exact bp (bin_k0 n k w h1 h2 h3) (by unfold binS; rw [if_neg e1, if_pos (.inl h3)])
      · by_cases h4 : n < k
        · exact bp (bin_kn n k w h1 h2 h3 h4) (by unfold binS; rw [if_neg e1, if_pos (.inr h4)])
        · have e2 : ¬ (k < 0 ∨ n < k) := by omega
          obtain ⟨n, rfl⟩ : ∃ m : Nat, n = (m : Int) := ⟨n.toNat, by omega⟩
          obtain ⟨k, rfl⟩ : ∃ m : Nat, k = (m : Int) := ⟨k.toNat, by omega⟩
          refine bp ?_ (show binS n k = lim (ch n k : Nat) from by unfold binS; rw [if_neg e1, if_neg e2, Int.toNat_natCast, Int.toNat_natCast])
          by_cases h5 : k ≤ n - k
          · exact bin_main n k k w (by omega) (by omega) (by omega) (by omega) rfl HE
          · exact bin_main n k (n - k) w (by omega) (by omega) (by omega) (by omega) (ch_sym n k (by omega)).symm HE
def whole_Binomial.f (n k : Int) : Option (ByteArray × Int) := some (binS n k)
theorem whole_Binomial.calls (a0 a1 : Int) (r1 : ByteArray) (r2 : Int) (w : World) (h : whole_Binomial.f a0 a1 = some (r1, r2)) (HE : Env w) :
    Calls Tryz.prog 19 #[.int .i64 a0, .int .i64 a1] w fun e w' => e = .returned (.tuple #[.string r1, .int .i64 r2]) ∧ Below w.heap.size w w' :=
  bp (bin_any a0 a1 w HE) (Option.some.inj h).symm
end Go.Proofs.YtpkfnclbcmnckaaGreatDoor
set_option linter.unusedVariables false
namespace Go.Proofs.YtpkfnclbcmnckaaGreatDoor
open Go Go.RowKit Go.Proofs.YtpkfnclbcmnckaaGreatDoor.Dec Go.Proofs.YtpkfnclbcmnckaaGreatDoor.Mem Go.Proofs.YtpkfnclbcmnckaaGreatDoor.Wid Go.Proofs.YtpkfnclbcmnckaaGreatDoorW.PrintWords
theorem chk_mono {x y : Int} (h : x.natAbs ≤ y.natAbs) (hx : chk (dec x) = 11) : chk (dec y) = 11 := by
  rw [chk_dec] at hx ⊢
  generalize (10 : Nat) ^ 1024 = t at *
  by_cases h1 : t ≤ x.natAbs
  · rw [if_pos (Nat.le_trans h1 h)]
  · rw [if_neg h1] at hx
    exact absurd hx (by decide)
theorem lim_over {z : Int} (h : chk (dec z) = 11) : lim z = (⟨#[]⟩, 11) := by unfold lim; rw [h, if_neg (by decide)]
theorem lim_fit {z : Int} (h : chk (dec z) = 0) : lim z = (dec z, 0) := if_pos h
theorem pow_over {x : Int} {i n : Nat} (h : i ≤ n) (hi : chk (dec (x ^ i)) = 11) : chk (dec (x ^ n)) = 11 := by
  refine chk_mono ?_ hi
  rw [Int.natAbs_pow, Int.natAbs_pow]
  rcases Nat.eq_zero_or_pos x.natAbs with h0 | h0
  · rcases Nat.eq_zero_or_pos i with h1 | h1
    · subst h1
      have : chk (dec (x ^ 0)) = 0 := by rw [Int.pow_zero]; exact ten_pow_lt (n := 1) (by decide) (by decide)
      rw [this] at hi
      exact absurd hi (by decide)
    · rw [h0, Nat.zero_pow h1]
      exact Nat.zero_le _
  · exact Nat.pow_le_pow_right h0 h
def powS (a : ByteArray) (n : Int) : ByteArray × Int := if chk a = 0 then (if n < 0 ∨ 4096 < n then (⟨#[]⟩, 2) else lim (iv a ^ n.toNat)) else (⟨#[]⟩, chk a)
theorem pow_loop (a : ByteArray) (ha : chk a = 0) (n : Nat) (hn : n ≤ 4096) : ∀ (d i : Nat), n - i = d → i ≤ n → chk (dec (iv a ^ i)) = 0 →
    Ev (fun k => ZB.whole_Pow.l0 k a (dec (iv a ^ i)) (n : Int) (i : Int)) (lim (iv a ^ n))
  | 0, i, hd, hi, hc => by
    obtain rfl : i = n := by omega
    refine Ev.after 1 fun k => ?_
    simp only [ZB.whole_Pow.l0]
    rw [if_neg (by omega), lim_fit hc]
  | d + 1, i, hd, hi, hc => by
    have hm : whole_Mul.f (dec (iv a ^ i)) a = some (lim (iv a ^ (i + 1))) := by
      have h1 : (dec (iv a ^ i)).size ≤ 9223372036854775807 := Nat.le_trans (size_chk hc) (by decide)
      have h2 : a.size ≤ 9223372036854775807 := Nat.le_trans (size_chk ha) (by decide)
      have h3 : errs [dec (iv a ^ i), a] = 0 := by rw [errs_cons0 hc, errs_cons0 ha]; rfl
      unfold whole_Mul.f
      rw [if_pos ⟨h1, h2⟩, if_pos h3, iv_dec, Int.pow_succ]
    rcases chk_dec_or (iv a ^ (i + 1)) with h | h
    · refine Ev.step (f := fun k => ZB.whole_Pow.l0 k a (dec (iv a ^ (i + 1))) (n : Int) ((i + 1 : Nat) : Int)) (fun k => ?_) (pow_loop a ha n hn d (i + 1) (by omega) (by omega) h)
      simp only [ZB.whole_Pow.l0]
      rw [if_pos (by omega), hm, Option.bind_some, lim_fit h, if_pos rfl, IntWalk.wrap64_in _ (by omega)]
      rfl
    · refine Ev.after 1 fun k => ?_
      simp only [ZB.whole_Pow.l0]
      rw [if_pos (by omega), hm, Option.bind_some, lim_over h, if_neg (by decide), lim_over (pow_over (by omega) h)]
theorem pow_is (a : ByteArray) (n : Int) (ha : a.size ≤ 9223372036854775807) : Ev (fun k => ZB.whole_Pow.f k a n) (powS a n) := by
  unfold ZB.whole_Pow.f whole_Check.f powS
  rw [if_pos ha]
  simp only [Option.bind_some]
  by_cases hc : chk a = 0
  · simp only [hc, if_true]
    by_cases h1 : n < 0
    · simp only [h1, if_true, true_or]
      exact Ev.after 1 fun k => rfl
    · simp only [h1, if_false, false_or]
      by_cases h2 : 4096 < n
      · rw [if_pos h2, decide_eq_true (show n > 4096 from h2)]
        exact Ev.after 1 fun k => rfl
      · rw [if_neg h2, decide_eq_false (show ¬ n > 4096 from h2)]
        obtain ⟨m, rfl⟩ : ∃ m : Nat, n = (m : Int) := ⟨n.toNat, by omega⟩
        rw [Int.toNat_natCast]
        have e1 : (⟨#[49]⟩ : ByteArray) = dec (iv a ^ 0) := by rw [Int.pow_zero]; exact (dec_of (by decide) (by decide)).symm
        refine Ev.step (f := fun k => ZB.whole_Pow.l0 k a (dec (iv a ^ 0)) (m : Int) ((0 : Nat) : Int)) (fun k => ?_) (pow_loop a hc m (by omega) m 0 (by omega) (by omega) (by rw [Int.pow_zero]; exact ten_pow_lt (n := 1) (by decide) (by decide)))
        simp only [ZB.whole_Pow.j0]
        rw [if_neg (by decide), e1]
        rfl
  · simp only [hc, if_false]
    exact Ev.now _
theorem cmp_digits : ∀ (l m : List UInt8), l.length = m.length → (∀ c ∈ l, isDig c = true) → (∀ c ∈ m, isDig c = true) → Lib.compareBytes l m = cmpI (val l) (val m)
  | [], [], _, _, _ => rfl
  | [], _ :: _, h, _, _ => absurd h (by simp)
  | _ :: _, [], h, _, _ => absurd h (by simp)
  | c :: l, d :: m, h, hl, hm => by
    have hlen : l.length = m.length := by simpa using h
    have ih := cmp_digits l m hlen (fun x hx => hl x (by simp [hx])) (fun x hx => hm x (by simp [hx]))
    have v1 := val_lt l (fun x hx => hl x (by simp [hx]))
    have v2 := val_lt m (fun x hx => hm x (by simp [hx]))
    have c1 := (isDig_iff c).1 (hl c (by simp))
    have d1 := (isDig_iff d).1 (hm d (by simp))
    rw [val_cons, val_cons, ← hlen]
    rw [← hlen] at v2
    generalize 10 ^ l.length = t at *
    unfold Lib.compareBytes
    by_cases h1 : c < d
    · have h1' : c.toNat < d.toNat := UInt8.lt_iff_toNat_lt.1 h1
      have h2 : (c.toNat - 48 + 1) * t ≤ (d.toNat - 48) * t := Nat.mul_le_mul_right _ (by omega)
      rw [Nat.add_mul] at h2
      rw [if_pos h1]
      unfold cmpI
      rw [if_pos (by omega)]
    · rw [if_neg h1]
      by_cases h2 : d < c
      · have h2' : d.toNat < c.toNat := UInt8.lt_iff_toNat_lt.1 h2
        have h3 : (d.toNat - 48 + 1) * t ≤ (c.toNat - 48) * t := Nat.mul_le_mul_right _ (by omega)
        rw [Nat.add_mul] at h3
        rw [if_pos h2]
        unfold cmpI
        rw [if_neg (by omega), if_pos (by omega)]
      · have e : c = d := u8_toNat (by
          have a1 : ¬ c.toNat < d.toNat := fun k => h1 (UInt8.lt_iff_toNat_lt.2 k)
          have a2 : ¬ d.toNat < c.toNat := fun k => h2 (UInt8.lt_iff_toNat_lt.2 k)
          omega)
        subst e
        rw [if_neg h2, ih]
        unfold cmpI
        generalize (c.toNat - 48) * t = q
        by_cases a1 : val l < val m
        · rw [if_pos (by omega), if_pos (by omega)]
        · rw [if_neg (by omega), if_neg (c := ((q + val l : Nat) : Int) < _) (by omega)]
          by_cases a2 : val m < val l
          · rw [if_pos (by omega), if_pos (by omega)]
          · rw [if_neg (by omega), if_neg (by omega)]
theorem len_val {l m : List UInt8} (hl : canonN l) (hm : canonN m) (h : l.length < m.length) : val l < val m := by
  have h1 := val_lt l hl.2.1
  have h2 := List.length_pos_iff.2 hl.1
  have h3 : m.length = Lib.nDigits (val m) := by rw [← Lib.decDigits_length, canonN_eq m hm]
  have h4 := nDigits_le_iff (val m) (m.length - 1) (by omega)
  have h5 : ¬ val m < 10 ^ (m.length - 1) := fun k => by have := h4.2 k; omega
  have h6 : 10 ^ l.length ≤ 10 ^ (m.length - 1) := Nat.pow_le_pow_right (by decide) (by omega)
  omega
theorem wrap_mod (x : Int) : wrap64 (x % 256) = x % 256 := by unfold wrap64; omega
def okS (a : ByteArray) : Prop := a.size ≤ 9223372036854775807
instance (a : ByteArray) : Decidable (okS a) := by unfold okS; exact inferInstance
def whole_Quo.f (a b : ByteArray) : Option (ByteArray × Int) := if okS a ∧ okS b then some (quoS a b) else none
theorem whole_Quo.calls (a0 a1 : ByteArray) (r1 : ByteArray) (r2 : Int) (w : World) (h : whole_Quo.f a0 a1 = some (r1, r2)) (HE : Env w) :
    Calls Tryz.prog 12 #[.string a0, .string a1] w fun e w' => e = .returned (.tuple #[.string r1, .int .i64 r2]) ∧ Below w.heap.size w w' := by
  unfold whole_Quo.f at h
  split at h
  · rename_i hs
    exact ZB.whole_Quo.calls a0 a1 r1 r2 w ((quo_is a0 a1 hs.1 hs.2).trans h) HE
  · cases h
def whole_Rem.f (a b : ByteArray) : Option (ByteArray × Int) := if okS a ∧ okS b then some (remS a b) else none
theorem whole_Rem.calls (a0 a1 : ByteArray) (r1 : ByteArray) (r2 : Int) (w : World) (h : whole_Rem.f a0 a1 = some (r1, r2)) (HE : Env w) :
    Calls Tryz.prog 13 #[.string a0, .string a1] w fun e w' => e = .returned (.tuple #[.string r1, .int .i64 r2]) ∧ Below w.heap.size w w' := by
  unfold whole_Rem.f at h
  split at h
  · rename_i hs
    exact ZB.whole_Rem.calls a0 a1 r1 r2 w ((rem_is a0 a1 hs.1 hs.2).trans h) HE
  · cases h
def whole_Pow.f (a : ByteArray) (n : Int) : Option (ByteArray × Int) := if okS a then some (powS a n) else none
theorem whole_Pow.calls (a0 : ByteArray) (a1 : Int) (r1 : ByteArray) (r2 : Int) (w : World) (h : whole_Pow.f a0 a1 = some (r1, r2)) (HE : Env w) :
    Calls Tryz.prog 17 #[.string a0, .int .i64 a1] w fun e w' => e = .returned (.tuple #[.string r1, .int .i64 r2]) ∧ Below w.heap.size w w' := by
  unfold whole_Pow.f at h
  split at h
  · rename_i hs
    obtain ⟨k, hk⟩ := (pow_is a0 a1 hs).rounds
    exact ZB.whole_Pow.calls k a0 a1 r1 r2 w (hk.trans h) HE
  · cases h
end Go.Proofs.YtpkfnclbcmnckaaGreatDoor
set_option linter.unusedVariables false
namespace Go.Proofs.YtpkfnclbcmnckaaGreatDoor
open Go Go.RowKit Go.Proofs.YtpkfnclbcmnckaaGreatDoor.Dec Go.Proofs.YtpkfnclbcmnckaaGreatDoor.Mem Go.Proofs.YtpkfnclbcmnckaaGreatDoor.Wid Go.Proofs.YtpkfnclbcmnckaaGreatDoorW.PrintWords
theorem ok_chk {a : ByteArray} (h : chk a = 0) : okS a := Nat.le_trans (size_chk h) (by decide)
theorem errs_ok {a b : ByteArray} (ha : chk a = 0) (hb : chk b = 0) : errs [a, b] = 0 := by rw [errs_cons0 ha, errs_cons0 hb]; rfl
theorem lim_iv {r : ByteArray} (h : chk r = 0) : lim (iv r) = (r, 0) := by
  have e := dec_iv (chk_zero h).1
  rw [lim_fit (by rw [e]; exact h), e]
theorem quo_at {a b r : ByteArray} (ha : chk a = 0) (hb : chk b = 0) (hz : iv b ≠ 0) (hr : chk r = 0) (h : (iv a).fdiv (iv b) = iv r) : whole_Quo.f a b = some (r, 0) := by
  unfold whole_Quo.f quoS
  rw [if_pos ⟨ok_chk ha, ok_chk hb⟩, if_pos (errs_ok ha hb), if_neg hz, h, lim_iv hr]
theorem rem_at {a b r : ByteArray} (ha : chk a = 0) (hb : chk b = 0) (hz : iv b ≠ 0) (hr : chk r = 0) (h : (iv a).fmod (iv b) = iv r) : whole_Rem.f a b = some (r, 0) := by
  unfold whole_Rem.f remS
  rw [if_pos ⟨ok_chk ha, ok_chk hb⟩, if_pos (errs_ok ha hb), if_neg hz, h, dec_iv (chk_zero hr).1]
theorem gcd_at {a b r : ByteArray} (ha : chk a = 0) (hb : chk b = 0) (hr : chk r = 0) (h : (((iv a).gcd (iv b) : Nat) : Int) = iv r) : whole_Gcd.f a b = some (r, 0) := by
  unfold whole_Gcd.f gcdS
  rw [if_pos ⟨ok_chk ha, ok_chk hb⟩, if_pos (errs_ok ha hb), h, dec_iv (chk_zero hr).1]
theorem pow_at {a r : ByteArray} {n : Nat} (ha : chk a = 0) (hn : n ≤ 4096) (hr : chk r = 0) (h : iv a ^ n = iv r) : whole_Pow.f a (n : Int) = some (r, 0) := by
  unfold whole_Pow.f powS
  rw [if_pos (ok_chk ha), if_pos ha, if_neg (by omega), Int.toNat_natCast, h, lim_iv hr]
theorem bin_at {n k : Nat} {r : ByteArray} (hn : n ≤ 4096) (hk : k ≤ n) (hr : chk r = 0) (h : ((ch n k : Nat) : Int) = iv r) : whole_Binomial.f (n : Int) (k : Int) = some (r, 0) := by
  unfold whole_Binomial.f binS
  rw [if_neg (by omega), if_neg (by omega), Int.toNat_natCast, Int.toNat_natCast, h, lim_iv hr]
def Ret2 (f : Nat) (args : Array Value) (r : ByteArray) : Prop := ∀ w : World, Env w → Calls Tryz.prog f args w fun e w' => e = .returned (.tuple #[.string r, .int .i64 0]) ∧ Below w.heap.size w w'
def RetC (s : ByteArray) : Prop := ∀ w : World, Calls Tryz.prog 28 #[.string s] w fun e w' => e = .returned (.int .i64 3) ∧ Below w.heap.size w w'
theorem retC {s : ByteArray} (hs : okS s) (h : chk s = 3) : RetC s := fun w => by have := check_any s hs w; rwa [h] at this
theorem q0 : Ret2 12 #[.string (⟨#[45, 49, 55]⟩ : ByteArray), .string (⟨#[53]⟩ : ByteArray)] (⟨#[45, 52]⟩ : ByteArray) := fun w HE => whole_Quo.calls _ _ _ _ w (quo_at (by decide) (by decide) (by decide) (by decide) (by decide)) HE
theorem r0 : Ret2 13 #[.string (⟨#[45, 49, 55]⟩ : ByteArray), .string (⟨#[53]⟩ : ByteArray)] (⟨#[51]⟩ : ByteArray) := fun w HE => whole_Rem.calls _ _ _ _ w (rem_at (by decide) (by decide) (by decide) (by decide) (by decide)) HE
theorem q1 : Ret2 12 #[.string (⟨#[49, 55]⟩ : ByteArray), .string (⟨#[45, 53]⟩ : ByteArray)] (⟨#[45, 52]⟩ : ByteArray) := fun w HE => whole_Quo.calls _ _ _ _ w (quo_at (by decide) (by decide) (by decide) (by decide) (by decide)) HE
theorem r1 : Ret2 13 #[.string (⟨#[49, 55]⟩ : ByteArray), .string (⟨#[45, 53]⟩ : ByteArray)] (⟨#[45, 51]⟩ : ByteArray) := fun w HE => whole_Rem.calls _ _ _ _ w (rem_at (by decide) (by decide) (by decide) (by decide) (by decide)) HE
theorem g0 : Ret2 15 #[.string (⟨#[45, 56, 52]⟩ : ByteArray), .string (⟨#[51, 54]⟩ : ByteArray)] (⟨#[49, 50]⟩ : ByteArray) := fun w HE => whole_Gcd.calls _ _ _ _ w (gcd_at (by decide) (by decide) (by decide) (by decide)) HE
theorem p0 : Ret2 17 #[.string (⟨#[50]⟩ : ByteArray), .int .i64 70] (⟨#[49, 49, 56, 48, 53, 57, 49, 54, 50, 48, 55, 49, 55, 52, 49, 49, 51, 48, 51, 52, 50, 52]⟩ : ByteArray) := fun w HE => whole_Pow.calls _ _ _ _ w (pow_at (n := 70) (by decide) (by decide) (by decide) (by decide)) HE
theorem b0 : Ret2 19 #[.int .i64 10, .int .i64 3] (⟨#[49, 50, 48]⟩ : ByteArray) := fun w HE => whole_Binomial.calls _ _ _ _ w (bin_at (n := 10) (k := 3) (by decide) (by decide) (by decide) (by decide)) HE
theorem c0 : RetC (⟨#[48, 53]⟩ : ByteArray) := retC (by decide) (by decide)
theorem c1 : RetC (⟨#[45, 48]⟩ : ByteArray) := retC (by decide) (by decide)
theorem c2 : RetC (⟨#[43, 55]⟩ : ByteArray) := retC (by decide) (by decide)
theorem c3 : RetC (⟨#[]⟩ : ByteArray) := retC (by decide) (by decide)
set_option maxRecDepth 100000 in
set_option maxHeartbeats 2000000 in
theorem awake_any (w : World) (HE : Env w) :
    Calls Tryz.prog 9 #[] w fun e w' => e = .returned (.bool true) ∧ Below w.heap.size w w' := by
  have HEE := Hid.mk' HE
  clear HE
  have c0 : (w.alloc (.cells #[.string ⟨#[45, 49, 55]⟩, .string ⟨#[53]⟩, .string ⟨#[45, 52]⟩, .string ⟨#[51]⟩, .string ⟨#[49, 55]⟩, .string ⟨#[45, 53]⟩, .string ⟨#[45, 52]⟩, .string ⟨#[45, 51]⟩] 54)).cell? ⟨w.heap.size, 0, none⟩ = some (.string ⟨#[45, 49, 55]⟩) := by simp [World.cell?, World.alloc, -World.alloc_eq]
  have c1 : (w.alloc (.cells #[.string ⟨#[45, 49, 55]⟩, .string ⟨#[53]⟩, .string ⟨#[45, 52]⟩, .string ⟨#[51]⟩, .string ⟨#[49, 55]⟩, .string ⟨#[45, 53]⟩, .string ⟨#[45, 52]⟩, .string ⟨#[45, 51]⟩] 54)).cell? ⟨w.heap.size, 1, none⟩ = some (.string ⟨#[53]⟩) := by simp [World.cell?, World.alloc, -World.alloc_eq]
  have c2 : (w.alloc (.cells #[.string ⟨#[45, 49, 55]⟩, .string ⟨#[53]⟩, .string ⟨#[45, 52]⟩, .string ⟨#[51]⟩, .string ⟨#[49, 55]⟩, .string ⟨#[45, 53]⟩, .string ⟨#[45, 52]⟩, .string ⟨#[45, 51]⟩] 54)).cell? ⟨w.heap.size, 2, none⟩ = some (.string ⟨#[45, 52]⟩) := by simp [World.cell?, World.alloc, -World.alloc_eq]
  have c3 : (w.alloc (.cells #[.string ⟨#[45, 49, 55]⟩, .string ⟨#[53]⟩, .string ⟨#[45, 52]⟩, .string ⟨#[51]⟩, .string ⟨#[49, 55]⟩, .string ⟨#[45, 53]⟩, .string ⟨#[45, 52]⟩, .string ⟨#[45, 51]⟩] 54)).cell? ⟨w.heap.size, 3, none⟩ = some (.string ⟨#[51]⟩) := by simp [World.cell?, World.alloc, -World.alloc_eq]
  have c4 : (w.alloc (.cells #[.string ⟨#[45, 49, 55]⟩, .string ⟨#[53]⟩, .string ⟨#[45, 52]⟩, .string ⟨#[51]⟩, .string ⟨#[49, 55]⟩, .string ⟨#[45, 53]⟩, .string ⟨#[45, 52]⟩, .string ⟨#[45, 51]⟩] 54)).cell? ⟨w.heap.size, 4, none⟩ = some (.string ⟨#[49, 55]⟩) := by simp [World.cell?, World.alloc, -World.alloc_eq]
  have c5 : (w.alloc (.cells #[.string ⟨#[45, 49, 55]⟩, .string ⟨#[53]⟩, .string ⟨#[45, 52]⟩, .string ⟨#[51]⟩, .string ⟨#[49, 55]⟩, .string ⟨#[45, 53]⟩, .string ⟨#[45, 52]⟩, .string ⟨#[45, 51]⟩] 54)).cell? ⟨w.heap.size, 5, none⟩ = some (.string ⟨#[45, 53]⟩) := by simp [World.cell?, World.alloc, -World.alloc_eq]
  have c6 : (w.alloc (.cells #[.string ⟨#[45, 49, 55]⟩, .string ⟨#[53]⟩, .string ⟨#[45, 52]⟩, .string ⟨#[51]⟩, .string ⟨#[49, 55]⟩, .string ⟨#[45, 53]⟩, .string ⟨#[45, 52]⟩, .string ⟨#[45, 51]⟩] 54)).cell? ⟨w.heap.size, 6, none⟩ = some (.string ⟨#[45, 52]⟩) := by simp [World.cell?, World.alloc, -World.alloc_eq]
  have c7 : (w.alloc (.cells #[.string ⟨#[45, 49, 55]⟩, .string ⟨#[53]⟩, .string ⟨#[45, 52]⟩, .string ⟨#[51]⟩, .string ⟨#[49, 55]⟩, .string ⟨#[45, 53]⟩, .string ⟨#[45, 52]⟩, .string ⟨#[45, 51]⟩] 54)).cell? ⟨w.heap.size, 7, none⟩ = some (.string ⟨#[45, 51]⟩) := by simp [World.cell?, World.alloc, -World.alloc_eq]
  have HB1 : Hid (Below w.heap.size w (w.alloc (.cells #[.string ⟨#[45, 49, 55]⟩, .string ⟨#[53]⟩, .string ⟨#[45, 52]⟩, .string ⟨#[51]⟩, .string ⟨#[49, 55]⟩, .string ⟨#[45, 53]⟩, .string ⟨#[45, 52]⟩, .string ⟨#[45, 51]⟩] 54))) := (Below.refl _ _).alloc (Nat.le_refl _) _
  have HS1 : Hid ((w.alloc (.cells #[.string ⟨#[45, 49, 55]⟩, .string ⟨#[53]⟩, .string ⟨#[45, 52]⟩, .string ⟨#[51]⟩, .string ⟨#[49, 55]⟩, .string ⟨#[45, 53]⟩, .string ⟨#[45, 52]⟩, .string ⟨#[45, 51]⟩] 54)).heap.size = w.heap.size + 1) := by show _ = _; simp
  go_enter Tryz.func9, Tryz.ntmps9
  go_wp2_with fail
  generalize (w.alloc (.cells #[.string ⟨#[45, 49, 55]⟩, .string ⟨#[53]⟩, .string ⟨#[45, 52]⟩, .string ⟨#[51]⟩, .string ⟨#[49, 55]⟩, .string ⟨#[45, 53]⟩, .string ⟨#[45, 52]⟩, .string ⟨#[45, 51]⟩] 54)) = W1 at c0 c1 c2 c3 c4 c5 c6 c7 HB1 HS1 ⊢
  go_loopg [19] 2 (fun g s19 wr => ∃ (i : Nat), s19 = .int .i64 (i : Int) ∧ i ≤ 2 ∧ 2 - i ≤ g ∧ Below W1.heap.size W1 wr)
  case atStart => exact ⟨0, rfl, by omega, by omega, Below.refl _ _⟩
  case round =>
    obtain ⟨i, rfl, hi, hg, hB⟩ := hrel
    have HB := Hid.mk' hB
    clear hB
    have hlt : w.heap.size < W1.heap.size := by have := HS1.out; omega
    have k0 := (HB.out.cell (p := ⟨w.heap.size, 0, none⟩) hlt).trans c0
    have k1 := (HB.out.cell (p := ⟨w.heap.size, 1, none⟩) hlt).trans c1
    have k2 := (HB.out.cell (p := ⟨w.heap.size, 2, none⟩) hlt).trans c2
    have k3 := (HB.out.cell (p := ⟨w.heap.size, 3, none⟩) hlt).trans c3
    have k4 := (HB.out.cell (p := ⟨w.heap.size, 4, none⟩) hlt).trans c4
    have k5 := (HB.out.cell (p := ⟨w.heap.size, 5, none⟩) hlt).trans c5
    have k6 := (HB.out.cell (p := ⟨w.heap.size, 6, none⟩) hlt).trans c6
    have k7 := (HB.out.cell (p := ⟨w.heap.size, 7, none⟩) hlt).trans c7
    clear c0 c1 c2 c3 c4 c5 c6 c7 hlt
    have HB2 := Hid.mk' (Below.trans HB1.out (HB.out.mono HB1.out.size))
    obtain rfl | rfl | rfl : i = 0 ∨ i = 1 ∨ i = 2 := by omega
    · have HX : Hid (Below w.heap.size w (wr.alloc (.cells #[.string ⟨#[45, 49, 55]⟩, .string ⟨#[53]⟩, .string ⟨#[45, 52]⟩, .string ⟨#[51]⟩] 54))) := HB2.out.alloc HB2.out.size _
      have hxs : wr.heap.size < (wr.alloc (.cells #[.string ⟨#[45, 49, 55]⟩, .string ⟨#[53]⟩, .string ⟨#[45, 52]⟩, .string ⟨#[51]⟩] 54)).heap.size := by simp
      have x0 : (wr.alloc (.cells #[.string ⟨#[45, 49, 55]⟩, .string ⟨#[53]⟩, .string ⟨#[45, 52]⟩, .string ⟨#[51]⟩] 54)).cell? ⟨wr.heap.size, 0, none⟩ = some (.string ⟨#[45, 49, 55]⟩) := by simp [World.cell?, World.alloc, -World.alloc_eq]
      have x1 : (wr.alloc (.cells #[.string ⟨#[45, 49, 55]⟩, .string ⟨#[53]⟩, .string ⟨#[45, 52]⟩, .string ⟨#[51]⟩] 54)).cell? ⟨wr.heap.size, 1, none⟩ = some (.string ⟨#[53]⟩) := by simp [World.cell?, World.alloc, -World.alloc_eq]
      have x2 : (wr.alloc (.cells #[.string ⟨#[45, 49, 55]⟩, .string ⟨#[53]⟩, .string ⟨#[45, 52]⟩, .string ⟨#[51]⟩] 54)).cell? ⟨wr.heap.size, 2, none⟩ = some (.string ⟨#[45, 52]⟩) := by simp [World.cell?, World.alloc, -World.alloc_eq]
      have x3 : (wr.alloc (.cells #[.string ⟨#[45, 49, 55]⟩, .string ⟨#[53]⟩, .string ⟨#[45, 52]⟩, .string ⟨#[51]⟩] 54)).cell? ⟨wr.heap.size, 3, none⟩ = some (.string ⟨#[51]⟩) := by simp [World.cell?, World.alloc, -World.alloc_eq]
      have HXB : Hid (Below W1.heap.size W1 (wr.alloc (.cells #[.string ⟨#[45, 49, 55]⟩, .string ⟨#[53]⟩, .string ⟨#[45, 52]⟩, .string ⟨#[51]⟩] 54))) := HB.out.alloc HB.out.size _
      go_wp2_with fail
      generalize (wr.alloc (.cells #[.string ⟨#[45, 49, 55]⟩, .string ⟨#[53]⟩, .string ⟨#[45, 52]⟩, .string ⟨#[51]⟩] 54)) = X at x0 x1 x2 x3 HX HXB hxs ⊢
      refine (q0 X (HEE.out.below HX.out)).mono ?_
      rintro e w3 ⟨rfl, hb3⟩
      have y0 := (hb3.cell (p := ⟨wr.heap.size, 0, none⟩) hxs).trans x0
      have y1 := (hb3.cell (p := ⟨wr.heap.size, 1, none⟩) hxs).trans x1
      have y2 := (hb3.cell (p := ⟨wr.heap.size, 2, none⟩) hxs).trans x2
      have y3 := (hb3.cell (p := ⟨wr.heap.size, 3, none⟩) hxs).trans x3
      have hys : wr.heap.size < w3.heap.size := Nat.lt_of_lt_of_le hxs hb3.size
      have H3 := Hid.mk' (Below.trans HX.out (hb3.mono HX.out.size))
      have H3B := Hid.mk' (Below.trans HXB.out (hb3.mono HXB.out.size))
      clear hb3 x0 x1 x2 x3 hxs HX HXB
      go_wp2_with fail
      refine (r0 w3 (HEE.out.below H3.out)).mono ?_
      rintro e w4 ⟨rfl, hb4⟩
      have z0 := (hb4.cell (p := ⟨wr.heap.size, 0, none⟩) hys).trans y0
      have z1 := (hb4.cell (p := ⟨wr.heap.size, 1, none⟩) hys).trans y1
      have z2 := (hb4.cell (p := ⟨wr.heap.size, 2, none⟩) hys).trans y2
      have z3 := (hb4.cell (p := ⟨wr.heap.size, 3, none⟩) hys).trans y3
      have H4B := Hid.mk' (Below.trans H3B.out (hb4.mono H3B.out.size))
      clear hb4 y0 y1 y2 y3 hys H3 H3B k0 k1 k2 k3 k4 k5 k6 k7
      go_wp2_with fail
      go_roundg (2 - (0 + 1))
      case measure => omega
      case rel => exact ⟨0 + 1, by go_num, by omega, by omega, H4B.out⟩
    · have HX : Hid (Below w.heap.size w (wr.alloc (.cells #[.string ⟨#[49, 55]⟩, .string ⟨#[45, 53]⟩, .string ⟨#[45, 52]⟩, .string ⟨#[45, 51]⟩] 54))) := HB2.out.alloc HB2.out.size _
      have hxs : wr.heap.size < (wr.alloc (.cells #[.string ⟨#[49, 55]⟩, .string ⟨#[45, 53]⟩, .string ⟨#[45, 52]⟩, .string ⟨#[45, 51]⟩] 54)).heap.size := by simp
      have x0 : (wr.alloc (.cells #[.string ⟨#[49, 55]⟩, .string ⟨#[45, 53]⟩, .string ⟨#[45, 52]⟩, .string ⟨#[45, 51]⟩] 54)).cell? ⟨wr.heap.size, 0, none⟩ = some (.string ⟨#[49, 55]⟩) := by simp [World.cell?, World.alloc, -World.alloc_eq]
      have x1 : (wr.alloc (.cells #[.string ⟨#[49, 55]⟩, .string ⟨#[45, 53]⟩, .string ⟨#[45, 52]⟩, .string ⟨#[45, 51]⟩] 54)).cell? ⟨wr.heap.size, 1, none⟩ = some (.string ⟨#[45, 53]⟩) := by simp [World.cell?, World.alloc, -World.alloc_eq]
      have x2 : (wr.alloc (.cells #[.string ⟨#[49, 55]⟩, .string ⟨#[45, 53]⟩, .string ⟨#[45, 52]⟩, .string ⟨#[45, 51]⟩] 54)).cell? ⟨wr.heap.size, 2, none⟩ = some (.string ⟨#[45, 52]⟩) := by simp [World.cell?, World.alloc, -World.alloc_eq]
      have x3 : (wr.alloc (.cells #[.string ⟨#[49, 55]⟩, .string ⟨#[45, 53]⟩, .string ⟨#[45, 52]⟩, .string ⟨#[45, 51]⟩] 54)).cell? ⟨wr.heap.size, 3, none⟩ = some (.string ⟨#[45, 51]⟩) := by simp [World.cell?, World.alloc, -World.alloc_eq]
      have HXB : Hid (Below W1.heap.size W1 (wr.alloc (.cells #[.string ⟨#[49, 55]⟩, .string ⟨#[45, 53]⟩, .string ⟨#[45, 52]⟩, .string ⟨#[45, 51]⟩] 54))) := HB.out.alloc HB.out.size _
      go_wp2_with fail
      generalize (wr.alloc (.cells #[.string ⟨#[49, 55]⟩, .string ⟨#[45, 53]⟩, .string ⟨#[45, 52]⟩, .string ⟨#[45, 51]⟩] 54)) = X at x0 x1 x2 x3 HX HXB hxs ⊢
      refine (q1 X (HEE.out.below HX.out)).mono ?_
      rintro e w3 ⟨rfl, hb3⟩
      have y0 := (hb3.cell (p := ⟨wr.heap.size, 0, none⟩) hxs).trans x0
      have y1 := (hb3.cell (p := ⟨wr.heap.size, 1, none⟩) hxs).trans x1
      have y2 := (hb3.cell (p := ⟨wr.heap.size, 2, none⟩) hxs).trans x2
      have y3 := (hb3.cell (p := ⟨wr.heap.size, 3, none⟩) hxs).trans x3
      have hys : wr.heap.size < w3.heap.size := Nat.lt_of_lt_of_le hxs hb3.size
      have H3 := Hid.mk' (Below.trans HX.out (hb3.mono HX.out.size))
      have H3B := Hid.mk' (Below.trans HXB.out (hb3.mono HXB.out.size))
      clear hb3 x0 x1 x2 x3 hxs HX HXB
      go_wp2_with fail
      refine (r1 w3 (HEE.out.below H3.out)).mono ?_
      rintro e w4 ⟨rfl, hb4⟩
      have z0 := (hb4.cell (p := ⟨wr.heap.size, 0, none⟩) hys).trans y0
      have z1 := (hb4.cell (p := ⟨wr.heap.size, 1, none⟩) hys).trans y1
      have z2 := (hb4.cell (p := ⟨wr.heap.size, 2, none⟩) hys).trans y2
      have z3 := (hb4.cell (p := ⟨wr.heap.size, 3, none⟩) hys).trans y3
      have H4B := Hid.mk' (Below.trans H3B.out (hb4.mono H3B.out.size))
      clear hb4 y0 y1 y2 y3 hys H3 H3B k0 k1 k2 k3 k4 k5 k6 k7
      go_wp2_with fail
      go_roundg (2 - (1 + 1))
      case measure => omega
      case rel => exact ⟨1 + 1, by go_num, by omega, by omega, H4B.out⟩
    · clear k0 k1 k2 k3 k4 k5 k6 k7 HB1 HB hg hi
      go_wp2_with fail
      refine (g0 wr (HEE.out.below HB2.out)).mono ?_
      rintro e w3 ⟨rfl, hb3⟩
      have H3 := Hid.mk' (Below.trans HB2.out (hb3.mono HB2.out.size))
      clear hb3 HB2
      go_wp2_with fail
      refine (b0 w3 (HEE.out.below H3.out)).mono ?_
      rintro e w4 ⟨rfl, hb4⟩
      have H4 := Hid.mk' (Below.trans H3.out (hb4.mono H3.out.size))
      clear hb4 H3
      go_wp2_with fail
      refine (p0 w4 (HEE.out.below H4.out)).mono ?_
      rintro e w5 ⟨rfl, hb5⟩
      have H5 := Hid.mk' (Below.trans H4.out (hb5.mono H4.out.size))
      clear hb5 H4
      have d0 : (w5.alloc (.cells #[.string ⟨#[48, 53]⟩, .string ⟨#[45, 48]⟩, .string ⟨#[43, 55]⟩, .string ⟨#[]⟩] 22)).cell? ⟨w5.heap.size, 0, none⟩ = some (.string ⟨#[48, 53]⟩) := by simp [World.cell?, World.alloc, -World.alloc_eq]
      have d1 : (w5.alloc (.cells #[.string ⟨#[48, 53]⟩, .string ⟨#[45, 48]⟩, .string ⟨#[43, 55]⟩, .string ⟨#[]⟩] 22)).cell? ⟨w5.heap.size, 1, none⟩ = some (.string ⟨#[45, 48]⟩) := by simp [World.cell?, World.alloc, -World.alloc_eq]
      have d2 : (w5.alloc (.cells #[.string ⟨#[48, 53]⟩, .string ⟨#[45, 48]⟩, .string ⟨#[43, 55]⟩, .string ⟨#[]⟩] 22)).cell? ⟨w5.heap.size, 2, none⟩ = some (.string ⟨#[43, 55]⟩) := by simp [World.cell?, World.alloc, -World.alloc_eq]
      have d3 : (w5.alloc (.cells #[.string ⟨#[48, 53]⟩, .string ⟨#[45, 48]⟩, .string ⟨#[43, 55]⟩, .string ⟨#[]⟩] 22)).cell? ⟨w5.heap.size, 3, none⟩ = some (.string ⟨#[]⟩) := by simp [World.cell?, World.alloc, -World.alloc_eq]
      have H6 : Hid (Below w.heap.size w (w5.alloc (.cells #[.string ⟨#[48, 53]⟩, .string ⟨#[45, 48]⟩, .string ⟨#[43, 55]⟩, .string ⟨#[]⟩] 22))) := H5.out.alloc H5.out.size _
      have h6s : w5.heap.size < (w5.alloc (.cells #[.string ⟨#[48, 53]⟩, .string ⟨#[45, 48]⟩, .string ⟨#[43, 55]⟩, .string ⟨#[]⟩] 22)).heap.size := by simp
      go_wp2_with fail
      generalize (w5.alloc (.cells #[.string ⟨#[48, 53]⟩, .string ⟨#[45, 48]⟩, .string ⟨#[43, 55]⟩, .string ⟨#[]⟩] 22)) = W6 at d0 d1 d2 d3 H6 h6s ⊢
      go_loopg [90] 4 (fun g s wr => ∃ (i : Nat), s = .int .i64 (i : Int) ∧ i ≤ 4 ∧ 4 - i ≤ g ∧ Below W6.heap.size W6 wr)
      case atStart => exact ⟨0, rfl, by omega, by omega, Below.refl _ _⟩
      case round =>
        obtain ⟨j, rfl, hj, hg, hB⟩ := hrel
        have HB := Hid.mk' hB
        clear hB
        have k0 := (HB.out.cell (p := ⟨w5.heap.size, 0, none⟩) h6s).trans d0
        have k1 := (HB.out.cell (p := ⟨w5.heap.size, 1, none⟩) h6s).trans d1
        have k2 := (HB.out.cell (p := ⟨w5.heap.size, 2, none⟩) h6s).trans d2
        have k3 := (HB.out.cell (p := ⟨w5.heap.size, 3, none⟩) h6s).trans d3
        clear d0 d1 d2 d3 h6s
        obtain rfl | rfl | rfl | rfl | rfl : j = 0 ∨ j = 1 ∨ j = 2 ∨ j = 3 ∨ j = 4 := by omega
        · go_wp2_with fail
          refine (c0 _).mono ?_
          rintro e w7 ⟨rfl, hb7⟩
          have H7 := Hid.mk' (Below.trans HB.out (hb7.mono HB.out.size))
          clear hb7
          go_wp2_with fail
          go_roundg (4 - (0 + 1))
          case measure => omega
          case rel => exact ⟨0 + 1, by go_num, by omega, by omega, H7.out⟩
        · go_wp2_with fail
          refine (c1 _).mono ?_
          rintro e w7 ⟨rfl, hb7⟩
          have H7 := Hid.mk' (Below.trans HB.out (hb7.mono HB.out.size))
          clear hb7
          go_wp2_with fail
          go_roundg (4 - (1 + 1))
          case measure => omega
          case rel => exact ⟨1 + 1, by go_num, by omega, by omega, H7.out⟩
        · go_wp2_with fail
          refine (c2 _).mono ?_
          rintro e w7 ⟨rfl, hb7⟩
          have H7 := Hid.mk' (Below.trans HB.out (hb7.mono HB.out.size))
          clear hb7
          go_wp2_with fail
          go_roundg (4 - (2 + 1))
          case measure => omega
          case rel => exact ⟨2 + 1, by go_num, by omega, by omega, H7.out⟩
        · go_wp2_with fail
          refine (c3 _).mono ?_
          rintro e w7 ⟨rfl, hb7⟩
          have H7 := Hid.mk' (Below.trans HB.out (hb7.mono HB.out.size))
          clear hb7
          go_wp2_with fail
          go_roundg (4 - (3 + 1))
          case measure => omega
          case rel => exact ⟨3 + 1, by go_num, by omega, by omega, H7.out⟩
        · go_wp2_with fail
          go_ret
          exact ⟨rfl, Below.trans H6.out (HB.out.mono H6.out.size)⟩
def awake.f : Option Bool := some true
theorem awake.calls (r : Bool) (w : World) (h : awake.f = some r) (HE : Env w) :
    Calls Tryz.prog 9 #[] w fun e w' => e = .returned (.bool r) ∧ Below w.heap.size w w' := by
  cases h
  exact awake_any w HE
end Go.Proofs.YtpkfnclbcmnckaaGreatDoor
set_option linter.unusedVariables false
namespace Go.Proofs.YtpkfnclbcmnckaaGreatDoor
open Go Go.RowKit Go.Proofs.YtpkfnclbcmnckaaGreatDoor.Dec Go.Proofs.YtpkfnclbcmnckaaGreatDoor.Mem Go.Proofs.YtpkfnclbcmnckaaGreatDoor.Wid Go.Proofs.YtpkfnclbcmnckaaGreatDoorW.PrintWords
def bcell (c : UInt8) : Value := .int .u8 (c.toNat : Int)
def Row (w : World) (b : Nat) (l : List UInt8) : Prop := w.heap[b]? = some (.cells (l.map bcell).toArray 5 (0, 0))
section
variable {w w' : World} {b : Nat} {l : List UInt8}
theorem Row.cell (h : Row w b l) (i : Nat) (hi : i < l.length) : w.cell? ⟨b, i, none⟩ = some (bcell l[i]) := by
  unfold Row at h
  simp [World.cell?, h, hi]
theorem Row.free (h : Row w b l) (o : Nat) : w.frozen? ⟨b, o, none⟩ = false := by
  unfold Row at h
  simp [World.frozen?, h]
theorem Row.size (h : Row w b l) : b < w.heap.size := (Array.getElem?_eq_some_iff.1 h).1
theorem Row.set (h : Row w b l) (i : Nat) (c : UInt8) : Row (w.setCell ⟨b, i, none⟩ (bcell c)) b (l.set i c) := by
  unfold Row at h ⊢
  rw [setCell_heap w b i _ h]
  simp [List.map_set]
theorem Row.sets : ∀ (m : List UInt8) (o : Nat) (w : World) (l : List UInt8), Row w b l → o + m.length ≤ l.length → Row (w.setCells b o (m.map bcell)) b (l.take o ++ m ++ l.drop (o + m.length))
  | [], o, w, l, h, _ => by simpa [World.setCells] using h
  | c :: m, o, w, l, h, hl => by
    have hl2 : o + 1 + m.length ≤ (l.set o c).length := by rw [List.length_set]; simp at hl; omega
    have := Row.sets m (o + 1) _ _ (h.set o c) hl2
    have ho : o < l.length := by simp at hl; omega
    have e : (l.set o c).take (o + 1) ++ m ++ (l.set o c).drop (o + 1 + m.length) = l.take o ++ (c :: m) ++ l.drop (o + (c :: m).length) := by
      rw [List.take_succ_eq_append_getElem (by rw [List.length_set]; exact ho), List.getElem_set_self, List.take_set_of_le (Nat.le_refl o), List.drop_set_of_lt (by omega), List.length_cons, show o + 1 + m.length = o + (m.length + 1) by omega]
      simp
    rw [e] at this
    exact this
end
theorem fill_step {n i : Nat} (hi : i < n) : (List.replicate i (48 : UInt8) ++ List.replicate (n - i) 0).set i 48 = List.replicate (i + 1) 48 ++ List.replicate (n - (i + 1)) 0 := by
  obtain ⟨d, hd⟩ : ∃ d, n - i = d + 1 := ⟨n - i - 1, by omega⟩
  rw [hd, show n - (i + 1) = d by omega, List.set_append_right _ _ (by simp), List.length_replicate, Nat.sub_self, List.replicate_succ, List.set_cons_zero, List.replicate_succ', List.append_assoc]
  rfl
theorem info_u8 : (Tryz.prog.info? 5).map (fun i => (i.zero, i.size, i.bytes)) = some (some (.int .u8 0), 1, 1) := by kernel_rfl
theorem made_zero (n : Nat) : (madeCells (Value.int .u8 0).cells (n * 1)).toList = (List.replicate n (0 : UInt8)).map bcell := by
  have : ∀ l : List Nat, l.map (fun x => (Value.int .u8 0).cells[x % (Value.int .u8 0).cells.size]!) = (List.replicate l.length (0 : UInt8)).map bcell := by
    intro l
    induction l with
    | nil => rfl
    | cons a l ih =>
      rw [List.map_cons, ih, List.length_cons, List.replicate_succ, List.map_cons]
      congr 1
      simp [Value.cells, Nat.mod_one, bcell]
  have h := this (List.range n)
  rw [List.length_range] at h
  rw [← h]
  simp [madeCells]
theorem row_of_own {w : World} {base b n : Nat} (h : w.ownsRow base 5 1 (.slice (some ⟨b, 0, none⟩) n n) n (madeCells (Value.int .u8 0).cells (n * 1)).toList) : Row w b (List.replicate n 0) := by
  obtain ⟨h1, h2⟩ := h
  rcases h2 with ⟨h2, _⟩ | ⟨g, cap, cur, he, hb, hc, hn, hm, hs, ht⟩
  · simp at h2
  · simp only [Value.slice.injEq, Option.some.injEq, Addr.mk.injEq, and_true, true_and] at he
    obtain ⟨rfl, rfl⟩ := he
    unfold Row
    rw [hc]
    rw [made_zero, List.take_of_length_le (by simp at hs ⊢; omega)] at ht
    rw [← ht]
set_option maxRecDepth 100000 in
set_option maxHeartbeats 2000000 in
theorem wide_any (s : ByteArray) (n : Nat) (w : World) (hs : s.size ≤ n) (hn : n ≤ 100000) :
    Calls Tryz.prog 110 #[.string s, .int .i64 (n : Int)] w fun e w' => e = .returned (.string ⟨(List.replicate (n - s.size) 48 ++ s.data.toList).toArray⟩) ∧ Below w.heap.size w w' := by
  obtain ⟨i0, hi0, hz0, hs0, hb0⟩ := info_parts info_u8
  go_enter Tryz.func110, Tryz.ntmps110
  go_wp2_with ((with_reducible refine gate_dst (N := 8) rfl ?_); refine wpList_make_full w rfl _ _ 88 rfl w.heap.size 5 i0 (.int .u8 0) 1 Tryz.underlying88 hi0 hz0 hs0 .i64 .i64 (n : Int) (n : Int) n rfl rfl rfl rfl (by rw [hb0]; omega) (by simp only [maxLen]; omega) (Nat.le_refl _) ?_; intro w1 ho hg)
  have HR0 := Hid.mk' (row_of_own ho)
  have HB0 : Hid (Below w.heap.size w w1) := (Below.refl _ _).grown hg (Nat.le_refl _) (fun _ h => by cases h)
  clear ho hg hi0 hz0 hs0 hb0
  obtain ⟨b, hb⟩ : ∃ b, w.heap.size = b := ⟨_, rfl⟩
  have HBE := Hid.mk' hb
  rw [hb] at HR0 HB0 ⊢
  clear hb
  go_loopg [6] n (fun g s6 wr => ∃ (i : Nat), s6 = .int .i64 (i : Int) ∧ i ≤ n ∧ n - i ≤ g ∧ Row wr b (List.replicate i 48 ++ List.replicate (n - i) 0) ∧ Below b w wr)
  case atStart => exact ⟨0, rfl, Nat.zero_le _, Nat.le_refl _, HR0.out, HB0.out⟩
  case round =>
    obtain ⟨i, rfl, hi, hg, hrow, hB⟩ := hrel
    have HR := Hid.mk' hrow
    have HB := Hid.mk' hB
    clear hrow hB HR0 HB0
    rcases Nat.lt_or_ge i n with hlt | hge
    · have g1 : (i : Int) < (n : Int) := by omega
      have g0 : (0 : Int) ≤ (i : Int) := by omega
      have c1 := HR.out.cell i (by simp; omega)
      have c2 := HR.out.free i
      have HS : Hid (Row (wr.setCell ⟨b, i, none⟩ (.int .u8 48)) b (List.replicate (i + 1) 48 ++ List.replicate (n - (i + 1)) 0)) := by
        have := HR.out.set i 48
        rwa [fill_step hlt] at this
      have HB2 : Hid (Below b w (wr.setCell ⟨b, i, none⟩ (.int .u8 48))) := HB.out.setCell (p := ⟨b, i, none⟩) (Nat.le_refl _) _
      generalize bcell _ = y at c1
      go_wp2_with fail
      go_roundg (n - (i + 1))
      case measure => omega
      case rel => exact ⟨i + 1, by go_num, hlt, Nat.le_refl _, HS.out, HB2.out⟩
    · obtain rfl : i = n := by omega
      have g1 : ¬ ((i : Int) < (i : Int)) := by omega
      obtain ⟨m, hm⟩ : ∃ m, i = m + s.size := ⟨i - s.size, by omega⟩
      have hmi : (i : Int) - (s.size : Int) = (m : Int) := by omega
      have hmw : IntKind.i64.wrap (m : Int) = (m : Int) := IntWalk.i64_in _ ⟨by omega, by omega⟩
      have g2 : (0 : Int) ≤ (m : Int) := by omega
      have g3 : (m : Int) ≤ (i : Int) := by omega
      have hl0 : (List.replicate (m + s.size) (48 : UInt8) ++ List.replicate (m + s.size - (m + s.size)) 0) = List.replicate (m + s.size) 48 := by simp
      subst hm
      rw [hl0] at HR
      have hsl : s.data.toList.length = s.size := (size_list s).symm
      have HS : Hid (Row (wr.setCells b m (s.data.toList.map bcell)) b (List.replicate m 48 ++ s.data.toList)) := by
        have := Row.sets s.data.toList m wr _ HR.out (by rw [List.length_replicate, hsl]; exact Nat.le_refl _)
        rw [List.drop_of_length_le (by rw [List.length_replicate, hsl]; exact Nat.le_refl _), List.take_replicate, Nat.min_eq_left (Nat.le_add_right _ _), List.append_nil] at this
        exact this
      have HB2 : Hid (Below b w (wr.setCells b m (s.data.toList.map bcell))) := below_setCells (Nat.le_refl _) _ _ _ HB.out
      have HCP : Hid ((Builtin.copy_ #[88, 9] 3 #[.slice (some ⟨b, m, none⟩) s.size s.size, .string s]).run Tryz.prog wr = .ok (goInt s.size) (wr.setCells b m (s.data.toList.map bcell))) :=
        run_copy_string wr _ _ _ 5 b m s.size s.size s Tryz.underlying88 Tryz.sizeOf5 (Nat.le_refl _) (fun j hj => by rw [HR.out.cell (m + j) (by rw [List.length_replicate]; omega)]; rfl) (fun j hj => HR.out.free _)
      have hlen : (List.replicate m (48 : UInt8) ++ s.data.toList).length = m + s.size := by rw [List.length_append, List.length_replicate, hsl]
      have HCV := Hid.mk' (run_convert_bytes_back (P := Tryz.prog) (wr.setCells b m (s.data.toList.map bcell)) 88 9 5 ⟨b, 0, none⟩ (m + s.size) (List.replicate m (48 : UInt8) ++ s.data.toList) Tryz.underlying88 Tryz.underlying5 Tryz.underlying9 (fun j hj => by
        have := HS.out.cell j hj
        have hadd : (⟨b, 0, none⟩ : Addr).add j = ⟨b, j, none⟩ := by unfold Addr.add; split <;> simp_all
        rw [hadd]
        exact this))
      rw [hlen] at HCV
      have HM : Hid (m + s.size - s.size = m) := by show _ = _; omega
      have HWE : Hid (s = ByteArray.empty → wr.setCells b m (s.data.toList.map bcell) = wr) := by rintro rfl; rfl
      generalize wr.setCells b m (s.data.toList.map bcell) = W2 at HS HB2 HCP HCV HWE
      clear hl0 hsl
      rcases Nat.eq_zero_or_pos s.size with hz | hz
      · have hnil : s.data.toList = [] := List.length_eq_zero_iff.1 (by rw [← size_list]; exact hz)
        obtain rfl : s = ByteArray.empty := bytes_ext hnil
        have HE2 : Hid (W2 = wr) := HWE.out rfl
        clear HCP
        have HCP : Hid ((Builtin.copy_ #[88, 9] 3 #[.slice (some ⟨b, 0, none⟩) 0 0, .string ByteArray.empty]).run Tryz.prog wr = .ok (goInt 0) wr) :=
          run_copy_string wr _ _ _ 5 b 0 0 0 ByteArray.empty Tryz.underlying88 Tryz.sizeOf5 (Nat.le_refl _) (fun j hj => absurd hj (by simp)) (fun j hj => absurd hj (by simp))
        obtain rfl := HE2.out
        have HCV2 : Hid ((convert 88 9 (.slice (some ⟨b, 0, none⟩) m m)).run Tryz.prog W2 = .ok (.string ⟨(List.replicate m 48 ++ ByteArray.empty.data.toList).toArray⟩) W2) := HCV.out
        go_wp2_with fail
        rw [HCP.out]
        simp only [Result.andThen_ok]
        go_wp2_with fail
        rw [HCV2.out]
        simp only [Result.andThen_ok]
        go_wp2_with fail
        go_ret
        rw [HM.out, HBE.out]
        have hfin : (⟨Array.replicate m 48⟩ : ByteArray) = ⟨(List.replicate m 48 ++ ByteArray.empty.data.toList).toArray⟩ := by
          refine bytes_ext ?_
          rw [show ByteArray.empty.data.toList = [] from rfl, List.append_nil]
          simp
        exact ⟨ret_str hfin, HB2.out⟩
      · have hz1 : ¬ (s = ByteArray.empty) := by rintro rfl; exact absurd hz (by decide)
        have hz2 : ¬ (s.size = 0) := by omega
        have hz3 : ¬ (m + s.size = m) := by omega
        go_wp2_with fail
        rw [HCP.out]
        simp only [Result.andThen_ok]
        go_wp2_with fail
        rw [HCV.out]
        simp only [Result.andThen_ok]
        go_wp2_with fail
        go_ret
        rw [HM.out, HBE.out]
        exact ⟨rfl, HB2.out⟩
def metrolabref01_wide.f (s : ByteArray) (n : Int) : Option ByteArray :=
  if (s.size : Int) ≤ n ∧ n ≤ 100000 then some ⟨(List.replicate (n.toNat - s.size) 48 ++ s.data.toList).toArray⟩ else none
theorem metrolabref01_wide.calls (a0 : ByteArray) (a1 : Int) (r : ByteArray) (w : World) (h : metrolabref01_wide.f a0 a1 = some r) :
    Calls Tryz.prog 110 #[.string a0, .int .i64 a1] w fun e w' => e = .returned (.string r) ∧ Below w.heap.size w w' := by
  unfold metrolabref01_wide.f at h
  split at h
  · rename_i hs
    obtain ⟨n, rfl⟩ : ∃ n : Nat, a1 = (n : Int) := ⟨a1.toNat, by omega⟩
    rw [Int.toNat_natCast] at h
    cases h
    exact wide_any a0 n w (by omega) (by omega)
  · cases h
end Go.Proofs.YtpkfnclbcmnckaaGreatDoor
namespace Go.Proofs.YtpkfnclbcmnckaaGreatDoor.ZP
open Go.RowKit Go.Proofs.YtpkfnclbcmnckaaGreatDoorW.PrintWords Go.Proofs.YtpkfnclbcmnckaaGreatDoorW.PrintLast Go.Proofs.YtpkfnclbcmnckaaGreatDoorW.PrintMore
attribute [local go_sem] max2_int min2_int max_two min_two max_three min_three max_four min_four   -- for this text's walks alone
set_option linter.unusedVariables false
set_option linter.unusedSimpArgs false
def errW : Option Int → Value
  | none => .nilIface
  | some c => .iface 0 (.int .i64 c)
theorem errW_none : errW none = .nilIface := rfl
theorem errW_some (c : Int) : errW (some c) = .iface 0 (.int .i64 c) := rfl
theorem info5 : (Tryz.prog.info? 5).map (fun i => (i.zero, i.size, i.bytes)) = some (some (.int .u8 0), 1, 1) := by kernel_rfl
end Go.Proofs.YtpkfnclbcmnckaaGreatDoor.ZP
namespace Go.Proofs.YtpkfnclbcmnckaaGreatDoor.ZP
open Go.RowKit Go.Proofs.YtpkfnclbcmnckaaGreatDoorW.PrintWords Go.Proofs.YtpkfnclbcmnckaaGreatDoorW.PrintLast Go.Proofs.YtpkfnclbcmnckaaGreatDoorW.PrintMore
attribute [local go_sem] max2_int min2_int max_two min_two max_three min_three max_four min_four   -- for this text's walks alone
set_option linter.unusedVariables false
set_option linter.unusedSimpArgs false
def metrolabref01_size.f (a0 : ByteArray) : Option (ByteArray) := if a0.toList = ([] : List UInt8) then (some a0) else (if 0 < (a0.size : Int) then (if (bt a0 0) = 45 then (if 1 ≤ (a0.size : Int) then (some (a0.extract 1 a0.size)) else (none)) else (some a0)) else (none))
set_option maxHeartbeats 8000000 in
set_option maxRecDepth 100000 in
theorem metrolabref01_size.calls (a0 : ByteArray) (r : ByteArray) (w : World) (h : metrolabref01_size.f a0 = some r) :
    Calls Tryz.prog 58 #[.string a0] w fun e w' => e = .returned (.string r) ∧ Drawn0 w w' := by
  have H : (if a0.toList = ([] : List UInt8) then (some a0) else (if 0 < (a0.size : Int) then (if (bt a0 0) = 45 then (if 1 ≤ (a0.size : Int) then (some (a0.extract 1 a0.size)) else (none)) else (some a0)) else (none))) = some r := h
  clear h
  by_cases c2 : a0.toList = ([] : List UInt8)
  · rw [if_pos c2] at H
    have c2b0 : (a0.toList == ([] : List UInt8)) = true := beq_iff_eq.mpr c2
    have c2b1 : (a0.toList != ([] : List UInt8)) = false := bne_eq_false_iff_eq.mpr c2
    clear c2
    obtain rfl := Option.some.inj H
    go_enter Tryz.func58, Tryz.ntmps58
    go_wp2
    go_ret
    exact ⟨by first | rfl | (simp; done) | (simp [*]; done), by repeat (first | exact Drawn0.refl _ | apply Drawn0.step)⟩
  · rw [if_neg c2] at H
    have c2b0 : (a0.toList == ([] : List UInt8)) = false := beq_eq_false_iff_ne.mpr c2
    have c2b1 : (a0.toList != ([] : List UInt8)) = true := bne_iff_ne.mpr c2
    by_cases c3 : 0 < (a0.size : Int)
    · rw [if_pos c3] at H
      have c3b0 : decide (0 < (a0.size : Int)) = true := decide_eq_true c3
      have c3b1 : decide (0 < a0.size) = true := decide_eq_true (by omega)
      clear c3
      by_cases c5 : (bt a0 0) = 45
      · rw [if_pos c5] at H
        have c5b0 : ((bt a0 0) == 45) = true := beq_iff_eq.mpr c5
        have c5b1 : ((bt a0 0) != 45) = false := bne_eq_false_iff_eq.mpr c5
        clear c5
        by_cases c6 : 1 ≤ (a0.size : Int)
        · rw [if_pos c6] at H
          have c6b0 := eq_true c6
          have c6b1 : decide (1 ≤ (a0.size : Int)) = true := decide_eq_true c6
          clear c6
          obtain rfl := Option.some.inj H
          have p4 : 0 ≤ (0 : Int) := (by omega)
          have q4 : 0 < a0.size := (by have : (0 : Int) < (a0.size : Int) := of_decide_eq_true (by first | (with_reducible assumption) | assumption); omega)
          have hx4 : ∀ h : 0 < a0.size, ((a0[0]'h).toNat : Int) = bt a0 0 := bt_at a0 0
          clear p4
          have qi4 : (0 < (a0.size : Int)) = True := eq_true (of_decide_eq_true (by first | (with_reducible assumption) | assumption))
          replace q4 := eq_true q4
          go_enter Tryz.func58, Tryz.ntmps58
          go_wp2
          go_ret
          exact ⟨by first | rfl | (simp; done) | (simp [*]; done), by repeat (first | exact Drawn0.refl _ | apply Drawn0.step)⟩
        · rw [if_neg c6] at H
          exact absurd H (by simp)
      · rw [if_neg c5] at H
        have c5b0 : ((bt a0 0) == 45) = false := beq_eq_false_iff_ne.mpr c5
        have c5b1 : ((bt a0 0) != 45) = true := bne_iff_ne.mpr c5
        obtain rfl := Option.some.inj H
        have p4 : 0 ≤ (0 : Int) := (by omega)
        have q4 : 0 < a0.size := (by have : (0 : Int) < (a0.size : Int) := of_decide_eq_true (by first | (with_reducible assumption) | assumption); omega)
        have hx4 : ∀ h : 0 < a0.size, ((a0[0]'h).toNat : Int) = bt a0 0 := bt_at a0 0
        clear p4
        have qi4 : (0 < (a0.size : Int)) = True := eq_true (of_decide_eq_true (by first | (with_reducible assumption) | assumption))
        replace q4 := eq_true q4
        go_enter Tryz.func58, Tryz.ntmps58
        go_wp2
        go_ret
        exact ⟨by first | rfl | (simp; done) | (simp [*]; done), by repeat (first | exact Drawn0.refl _ | apply Drawn0.step)⟩
    · rw [if_neg c3] at H
      exact absurd H (by simp)
mutual
def metrolabref01_Check.j0 : Nat → ByteArray → Bool → Option (Int)
  | 0, _, _ => none
  | k + 1, x3, x23 => if x23 = true then (some 3) else (metrolabref01_Check.l0 k x3 0)
def metrolabref01_Check.l0 : Nat → ByteArray → Int → Option (Int)
  | 0, _, _ => none
  | k + 1, x3, x4 => if x4 < (x3.size : Int) then (if 0 ≤ x4 then (if (bt x3 x4) < 48 then (some 3) else (if (bt x3 x4) > 57 then (some 3) else (metrolabref01_Check.l0 k x3 (wrap64 (x4 + 1))))) else (none)) else (if (x3.size : Int) > 1024 then (some 11) else (some 0))
end
def metrolabref01_Check.f (k : Nat) (a0 : ByteArray) : Option (Int) := (metrolabref01_size.f a0).bind fun t101 => (if t101.toList = ([] : List UInt8) then (metrolabref01_Check.j0 k t101 true) else (if 0 < (t101.size : Int) then (if (bt t101 0) = 48 then (if (t101.size : Int) > 1 then (metrolabref01_Check.j0 k t101 true) else (metrolabref01_Check.j0 k t101 (decide ((a0.size : Int) > 1)))) else (metrolabref01_Check.j0 k t101 false)) else (none)))
theorem metrolabref01_Check.mono_l : ∀ k, (∀ y0 y1, LeO (metrolabref01_Check.j0 k y0 y1) (metrolabref01_Check.j0 (k + 1) y0 y1)) ∧ (∀ y0 y1, LeO (metrolabref01_Check.l0 k y0 y1) (metrolabref01_Check.l0 (k + 1) y0 y1))
  | 0 => ⟨fun _ _ r h => by simp [metrolabref01_Check.j0] at h, fun _ _ r h => by simp [metrolabref01_Check.l0] at h⟩
  | k + 1 => by
    obtain ⟨ih0, ih1⟩ := metrolabref01_Check.mono_l k
    refine ⟨?_, ?_⟩
    · intro y0 y1
      unfold metrolabref01_Check.j0
      repeat' first
      | (with_reducible exact ih0 _ _)
      | (with_reducible exact ih1 _ _)
      | (with_reducible exact LeO.refl _)
      | (with_reducible exact LeO.none _)
      | (with_reducible refine LeO.ite ?_ ?_)
      | (with_reducible refine LeO.bind ?_ (fun _ => ?_))
      | exact ih0 _ _
      | exact ih1 _ _
      | exact LeO.none _
      | refine LeO.ite ?_ ?_
      | refine LeO.bind ?_ (fun _ => ?_)
    · intro y0 y1
      unfold metrolabref01_Check.l0
      repeat' first
      | (with_reducible exact ih0 _ _)
      | (with_reducible exact ih1 _ _)
      | (with_reducible exact LeO.refl _)
      | (with_reducible exact LeO.none _)
      | (with_reducible refine LeO.ite ?_ ?_)
      | (with_reducible refine LeO.bind ?_ (fun _ => ?_))
      | exact ih0 _ _
      | exact ih1 _ _
      | exact LeO.none _
      | refine LeO.ite ?_ ?_
      | refine LeO.bind ?_ (fun _ => ?_)
theorem metrolabref01_Check.mono : ∀ a0 k, LeO (metrolabref01_Check.f k a0) (metrolabref01_Check.f (k + 1) a0) := by
  intro a0 k
  obtain ⟨ih0, ih1⟩ := metrolabref01_Check.mono_l k
  unfold metrolabref01_Check.f
  repeat' first
      | (with_reducible exact ih0 _ _)
      | (with_reducible exact ih1 _ _)
      | (with_reducible exact LeO.refl _)
      | (with_reducible exact LeO.none _)
      | (with_reducible refine LeO.ite ?_ ?_)
      | (with_reducible refine LeO.bind ?_ (fun _ => ?_))
      | exact ih0 _ _
      | exact ih1 _ _
      | exact LeO.none _
      | refine LeO.ite ?_ ?_
      | refine LeO.bind ?_ (fun _ => ?_)
set_option maxHeartbeats 8000000 in
set_option maxRecDepth 100000 in
theorem metrolabref01_Check.calls (k : Nat) (a0 : ByteArray) (r : Int) (w : World) (h : metrolabref01_Check.f k a0 = some r) :
    Calls Tryz.prog 29 #[.string a0] w fun e w' => e = .returned (.int .i64 r) ∧ Drawn0 w w' := by
  have H : ((metrolabref01_size.f a0).bind fun t101 => (if t101.toList = ([] : List UInt8) then (metrolabref01_Check.j0 k t101 true) else (if 0 < (t101.size : Int) then (if (bt t101 0) = 48 then (if (t101.size : Int) > 1 then (metrolabref01_Check.j0 k t101 true) else (metrolabref01_Check.j0 k t101 (decide ((a0.size : Int) > 1)))) else (metrolabref01_Check.j0 k t101 false)) else (none)))) = some r := h
  clear h
  replace H := Option.bind_eq_some_iff.mp H
  obtain ⟨t101, A20, H⟩ := H
  replace H : (if t101.toList = ([] : List UInt8) then (metrolabref01_Check.j0 k t101 true) else (if 0 < (t101.size : Int) then (if (bt t101 0) = 48 then (if (t101.size : Int) > 1 then (metrolabref01_Check.j0 k t101 true) else (metrolabref01_Check.j0 k t101 (decide ((a0.size : Int) > 1)))) else (metrolabref01_Check.j0 k t101 false)) else (none))) = some r := H
  have A2 := Aside0.mk A20
  clear A20
  have HC3 := Aside0.mk H
  clear H
  go_enter Tryz.func29, Tryz.ntmps29
  go_upto_region 2 with (first | ((with_reducible refine gate_callee (f := 58) rfl ?_); refine goesL_ (some 6) rfl rfl Tryz.func58 (by kernel_rfl) rfl #[.string a0] rfl (by (try simp only [List.map_toArray, List.map_cons, List.map_nil]); first | done | rfl | (simp only [List.length_drop, List.length_take]; rfl)) ?_; (with_reducible refine (metrolabref01_size.calls a0 t101 _ A2.out).mono ?_); rintro e w' ⟨rfl, ⟨nd, rfl⟩⟩; refine ⟨_, rfl, ?_⟩))
  (try simp only [Act.put, List.setIfInBounds_toArray, List.set_cons_zero, List.set_cons_succ])
  go_cut [23] (fun v23 wc => ∃ (kq : Nat) (x23_2 : Bool), v23 = .bool x23_2 ∧ Aside0 (metrolabref01_Check.j0 kq t101 x23_2 = some r) ∧ Aside0 (kq ≤ k) ∧ Drawn0 w wc)
  case first =>
    have H := HC3.out
    clear HC3
    by_cases c4 : t101.toList = ([] : List UInt8)
    · rw [if_pos c4] at H
      have c4b0 : (t101.toList == ([] : List UInt8)) = true := beq_iff_eq.mpr c4
      have c4b1 : (t101.toList != ([] : List UInt8)) = false := bne_eq_false_iff_eq.mpr c4
      clear c4
      (first | rw [c4b0] | (simp only [i64_w, i32_w]; rw [c4b0]) | skip)
      have H' := Aside0.mk H
      clear H
      go_wp2
      go_meet
      case rel => exact ⟨_, (true), (by first | rfl | exact congrArg Value.bool (not_empty _) | exact congrArg Value.bool (is_empty _) | (simp; done) | (simp [*]; done)), H', ⟨by first | omega | exact Nat.le_refl _⟩, by repeat (first | exact Drawn0.refl _ | apply Drawn0.step)⟩
    · rw [if_neg c4] at H
      have c4b0 : (t101.toList == ([] : List UInt8)) = false := beq_eq_false_iff_ne.mpr c4
      have c4b1 : (t101.toList != ([] : List UInt8)) = true := bne_iff_ne.mpr c4
      (first | rw [c4b0] | (simp only [i64_w, i32_w]; rw [c4b0]) | skip)
      by_cases c5 : 0 < (t101.size : Int)
      · rw [if_pos c5] at H
        have c5b0 : decide (0 < (t101.size : Int)) = true := decide_eq_true c5
        have c5b1 : decide (0 < t101.size) = true := decide_eq_true (by omega)
        clear c5
        by_cases c7 : (bt t101 0) = 48
        · rw [if_pos c7] at H
          have c7b0 : ((bt t101 0) == 48) = true := beq_iff_eq.mpr c7
          have c7b1 : ((bt t101 0) != 48) = false := bne_eq_false_iff_eq.mpr c7
          clear c7
          by_cases c8 : (t101.size : Int) > 1
          · rw [if_pos c8] at H
            have c8b0 : decide (1 < (t101.size : Int)) = true := decide_eq_true c8
            have c8b1 : decide (1 < t101.size) = true := decide_eq_true (by omega)
            clear c8
            have H' := Aside0.mk H
            clear H
            have p6 : 0 ≤ (0 : Int) := (by omega)
            have q6 : 0 < t101.size := (by have : (0 : Int) < (t101.size : Int) := of_decide_eq_true (by first | (with_reducible assumption) | assumption); omega)
            have hx6 : ∀ h : 0 < t101.size, ((t101[0]'h).toNat : Int) = bt t101 0 := bt_at t101 0
            clear p6
            have qi6 : (0 < (t101.size : Int)) = True := eq_true (of_decide_eq_true (by first | (with_reducible assumption) | assumption))
            replace q6 := eq_true q6
            go_wp2
            go_meet
            case rel => exact ⟨_, (true), (by first | rfl | exact congrArg Value.bool (not_empty _) | exact congrArg Value.bool (is_empty _) | (simp; done) | (simp [*]; done)), H', ⟨by first | omega | exact Nat.le_refl _⟩, by repeat (first | exact Drawn0.refl _ | apply Drawn0.step)⟩
          · rw [if_neg c8] at H
            have c8b0 : decide (1 < (t101.size : Int)) = false := decide_eq_false c8
            have c8b1 : decide (1 < t101.size) = false := decide_eq_false (by omega)
            clear c8
            have H' := Aside0.mk H
            clear H
            have p6 : 0 ≤ (0 : Int) := (by omega)
            have q6 : 0 < t101.size := (by have : (0 : Int) < (t101.size : Int) := of_decide_eq_true (by first | (with_reducible assumption) | assumption); omega)
            have hx6 : ∀ h : 0 < t101.size, ((t101[0]'h).toNat : Int) = bt t101 0 := bt_at t101 0
            clear p6
            have qi6 : (0 < (t101.size : Int)) = True := eq_true (of_decide_eq_true (by first | (with_reducible assumption) | assumption))
            replace q6 := eq_true q6
            go_wp2
            go_meet
            case rel => exact ⟨_, (decide ((a0.size : Int) > 1)), (by first | rfl | exact congrArg Value.bool (not_empty _) | exact congrArg Value.bool (is_empty _) | (simp; done) | (simp [*]; done)), H', ⟨by first | omega | exact Nat.le_refl _⟩, by repeat (first | exact Drawn0.refl _ | apply Drawn0.step)⟩
        · rw [if_neg c7] at H
          have c7b0 : ((bt t101 0) == 48) = false := beq_eq_false_iff_ne.mpr c7
          have c7b1 : ((bt t101 0) != 48) = true := bne_iff_ne.mpr c7
          have H' := Aside0.mk H
          clear H
          have p6 : 0 ≤ (0 : Int) := (by omega)
          have q6 : 0 < t101.size := (by have : (0 : Int) < (t101.size : Int) := of_decide_eq_true (by first | (with_reducible assumption) | assumption); omega)
          have hx6 : ∀ h : 0 < t101.size, ((t101[0]'h).toNat : Int) = bt t101 0 := bt_at t101 0
          clear p6
          have qi6 : (0 < (t101.size : Int)) = True := eq_true (of_decide_eq_true (by first | (with_reducible assumption) | assumption))
          replace q6 := eq_true q6
          go_wp2
          go_meet
          case rel => exact ⟨_, (false), (by first | rfl | exact congrArg Value.bool (not_empty _) | exact congrArg Value.bool (is_empty _) | (simp; done) | (simp [*]; done)), H', ⟨by first | omega | exact Nat.le_refl _⟩, by repeat (first | exact Drawn0.refl _ | apply Drawn0.step)⟩
      · rw [if_neg c5] at H
        exact absurd H (by simp)
  case rest =>
    clear HC3
    try clear c2
    try clear p2
    try clear c4
    try clear c4b0
    try clear c4b1
    try clear c5
    try clear c5b0
    try clear c5b1
    try clear p6
    try clear q6
    try clear hx6
    try clear qi6
    try clear c7
    try clear c7b0
    try clear c7b1
    try clear c8
    try clear c8b0
    try clear c8b1
    try clear p6
    try clear q6
    obtain ⟨kq, x23_2, rfl, HA, HJ2, ⟨mc2, rfl⟩⟩ := hcut
    cases kq with
    | zero => exact absurd HA.out (by simp [metrolabref01_Check.j0])
    | succ kj2 =>
      have H := HA.out
      clear HA
      simp only [metrolabref01_Check.j0] at H
      by_cases c9 : x23_2 = true
      · subst c9
        have H1 : (some 3) = some r := by rw [if_pos rfl] at H; exact H
        clear H
        have H := H1
        clear H1
        obtain rfl := Option.some.inj H
        go_wp2
        go_ret
        exact ⟨by first | rfl | (simp; done) | (simp [*]; done), by repeat (first | exact Drawn0.refl _ | apply Drawn0.step)⟩
      · replace c9 := Bool.eq_false_iff.mpr c9
        subst c9
        have H1 : (metrolabref01_Check.l0 kj2 t101 0) = some r := by rw [if_neg (show ¬ (false = true) by decide)] at H; exact H
        clear H
        have H := H1
        clear H1
        have H' := Aside0.mk H
        clear H
        go_wp2
        go_loopg [4] kj2 (fun kq v4 w' => ∃ (x4_2 : Int), v4 = .int .i64 x4_2 ∧ Aside0 (metrolabref01_Check.l0 kq t101 x4_2 = some r) ∧ Aside0 (kq ≤ kj2) ∧ Drawn0 w w')
        case atStart => exact ⟨(0), (by first | rfl | exact congrArg Value.bool (not_empty _) | exact congrArg Value.bool (is_empty _) | (simp; done) | (simp [*]; done)), H', ⟨Nat.le_refl _⟩, by repeat (first | exact Drawn0.refl _ | apply Drawn0.step)⟩
        case round =>
          clear H'
          try clear c2
          try clear p2
          try clear c4
          try clear c4b0
          try clear c4b1
          try clear c5
          try clear c5b0
          try clear c5b1
          try clear p6
          try clear q6
          try clear hx6
          try clear qi6
          try clear c7
          try clear c7b0
          try clear c7b1
          try clear c8
          try clear c8b0
          try clear c8b1
          try clear c9
          try clear p2
          try clear p6
          try clear q6
          obtain ⟨x4_2, rfl, HA, HK2, ⟨m2, rfl⟩⟩ := hrel
          cases gk with
          | zero => exact absurd HA.out (by simp [metrolabref01_Check.l0])
          | succ k2 =>
            have H := HA.out
            clear HA
            simp only [metrolabref01_Check.l0] at H
            by_cases c10 : x4_2 < (t101.size : Int)
            · rw [if_pos c10] at H
              have c10b0 : decide (x4_2 < (t101.size : Int)) = true := decide_eq_true c10
              clear c10
              by_cases c11 : 0 ≤ x4_2
              · rw [if_pos c11] at H
                have c11b0 : decide (0 ≤ x4_2) = true := decide_eq_true c11
                clear c11
                by_cases c13 : (bt t101 x4_2) < 48
                · rw [if_pos c13] at H
                  have c13b0 : decide ((bt t101 x4_2) < 48) = true := decide_eq_true c13
                  clear c13
                  obtain rfl := Option.some.inj H
                  have p12 : 0 ≤ (x4_2 : Int) := of_decide_eq_true (by first | (with_reducible assumption) | assumption)
                  have q12 : x4_2 < (t101.size : Int) := of_decide_eq_true (by first | (with_reducible assumption) | assumption)
                  have hx12 := bt_at t101 x4_2
                  replace p12 := eq_true p12
                  replace q12 := eq_true q12
                  go_wp2
                  go_ret
                  exact ⟨by first | rfl | (simp; done) | (simp [*]; done), by repeat (first | exact Drawn0.refl _ | apply Drawn0.step)⟩
                · rw [if_neg c13] at H
                  have c13b0 : decide ((bt t101 x4_2) < 48) = false := decide_eq_false c13
                  clear c13
                  by_cases c15 : (bt t101 x4_2) > 57
                  · rw [if_pos c15] at H
                    have c15b0 : decide (57 < (bt t101 x4_2)) = true := decide_eq_true c15
                    clear c15
                    obtain rfl := Option.some.inj H
                    have p12 : 0 ≤ (x4_2 : Int) := of_decide_eq_true (by first | (with_reducible assumption) | assumption)
                    have q12 : x4_2 < (t101.size : Int) := of_decide_eq_true (by first | (with_reducible assumption) | assumption)
                    have hx12 := bt_at t101 x4_2
                    replace p12 := eq_true p12
                    replace q12 := eq_true q12
                    have p14 : 0 ≤ (x4_2 : Int) := of_decide_eq_true (by first | (with_reducible assumption) | assumption)
                    have q14 : x4_2 < (t101.size : Int) := of_decide_eq_true (by first | (with_reducible assumption) | assumption)
                    have hx14 := bt_at t101 x4_2
                    replace p14 := eq_true p14
                    replace q14 := eq_true q14
                    go_wp2
                    go_ret
                    exact ⟨by first | rfl | (simp; done) | (simp [*]; done), by repeat (first | exact Drawn0.refl _ | apply Drawn0.step)⟩
                  · rw [if_neg c15] at H
                    have c15b0 : decide (57 < (bt t101 x4_2)) = false := decide_eq_false c15
                    clear c15
                    have H' := Aside0.mk H
                    clear H
                    have p12 : 0 ≤ (x4_2 : Int) := of_decide_eq_true (by first | (with_reducible assumption) | assumption)
                    have q12 : x4_2 < (t101.size : Int) := of_decide_eq_true (by first | (with_reducible assumption) | assumption)
                    have hx12 := bt_at t101 x4_2
                    replace p12 := eq_true p12
                    replace q12 := eq_true q12
                    have p14 : 0 ≤ (x4_2 : Int) := of_decide_eq_true (by first | (with_reducible assumption) | assumption)
                    have q14 : x4_2 < (t101.size : Int) := of_decide_eq_true (by first | (with_reducible assumption) | assumption)
                    have hx14 := bt_at t101 x4_2
                    replace p14 := eq_true p14
                    replace q14 := eq_true q14
                    go_wp2
                    go_roundg k2
                    case measure => have := HJ2.out; have := HK2.out; omega
                    case rel => exact ⟨(wrap64 (x4_2 + 1)), (by first | rfl | exact congrArg Value.bool (not_empty _) | exact congrArg Value.bool (is_empty _) | (simp; done) | (simp [*]; done)), H', ⟨by have := HJ2.out; have := HK2.out; omega⟩, by repeat (first | exact Drawn0.refl _ | apply Drawn0.step)⟩
              · rw [if_neg c11] at H
                exact absurd H (by simp)
            · rw [if_neg c10] at H
              have c10b0 : decide (x4_2 < (t101.size : Int)) = false := decide_eq_false c10
              clear c10
              by_cases c16 : (t101.size : Int) > 1024
              · rw [if_pos c16] at H
                have c16b0 : decide (1024 < (t101.size : Int)) = true := decide_eq_true c16
                have c16b1 : decide (1024 < t101.size) = true := decide_eq_true (by omega)
                clear c16
                obtain rfl := Option.some.inj H
                go_wp2
                go_ret
                exact ⟨by first | rfl | (simp; done) | (simp [*]; done), by repeat (first | exact Drawn0.refl _ | apply Drawn0.step)⟩
              · rw [if_neg c16] at H
                have c16b0 : decide (1024 < (t101.size : Int)) = false := decide_eq_false c16
                have c16b1 : decide (1024 < t101.size) = false := decide_eq_false (by omega)
                clear c16
                obtain rfl := Option.some.inj H
                go_wp2
                go_ret
                exact ⟨by first | rfl | (simp; done) | (simp [*]; done), by repeat (first | exact Drawn0.refl _ | apply Drawn0.step)⟩
def metrolabref01_Few.f (k : Nat) (a0 : ByteArray) : Option (Bool) := if (a0.size : Int) ≤ 50 then (some true) else (if (a0.size : Int) ≤ 2048 then ((metrolabref01_Check.f k a0).bind fun t102 => (some (t102 == 3))) else (some false))
theorem metrolabref01_Few.mono : ∀ a0 k, LeO (metrolabref01_Few.f k a0) (metrolabref01_Few.f (k + 1) a0) := by
  intro a0 k
  unfold metrolabref01_Few.f
  repeat' first
      | (with_reducible exact metrolabref01_Check.mono _ _)
      | (with_reducible exact LeO.refl _)
      | (with_reducible exact LeO.none _)
      | (with_reducible refine LeO.ite ?_ ?_)
      | (with_reducible refine LeO.bind ?_ (fun _ => ?_))
      | exact metrolabref01_Check.mono _ _
      | exact LeO.none _
      | refine LeO.ite ?_ ?_
      | refine LeO.bind ?_ (fun _ => ?_)
set_option maxHeartbeats 8000000 in
set_option maxRecDepth 100000 in
theorem metrolabref01_Few.calls (k : Nat) (a0 : ByteArray) (r : Bool) (w : World) (h : metrolabref01_Few.f k a0 = some r) :
    Calls Tryz.prog 8 #[.string a0] w fun e w' => e = .returned (.bool r) ∧ Drawn0 w w' := by
  have H : (if (a0.size : Int) ≤ 50 then (some true) else (if (a0.size : Int) ≤ 2048 then ((metrolabref01_Check.f k a0).bind fun t102 => (some (t102 == 3))) else (some false))) = some r := h
  clear h
  by_cases c2 : (a0.size : Int) ≤ 50
  · rw [if_pos c2] at H
    have c2b0 : decide ((a0.size : Int) ≤ 50) = true := decide_eq_true c2
    have c2b1 : decide (a0.size ≤ 50) = true := decide_eq_true (by omega)
    clear c2
    obtain rfl := Option.some.inj H
    go_enter Tryz.func8, Tryz.ntmps8
    go_wp2
    go_ret
    exact ⟨by first | rfl | (simp; done) | (simp [*]; done), by repeat (first | exact Drawn0.refl _ | apply Drawn0.step)⟩
  · rw [if_neg c2] at H
    have c2b0 : decide ((a0.size : Int) ≤ 50) = false := decide_eq_false c2
    have c2b1 : decide (a0.size ≤ 50) = false := decide_eq_false (by omega)
    clear c2
    by_cases c3 : (a0.size : Int) ≤ 2048
    · rw [if_pos c3] at H
      have c3b0 : decide ((a0.size : Int) ≤ 2048) = true := decide_eq_true c3
      have c3b1 : decide (a0.size ≤ 2048) = true := decide_eq_true (by omega)
      clear c3
      replace H := Option.bind_eq_some_iff.mp H
      obtain ⟨t102, A40, H⟩ := H
      replace H : (some (t102 == 3)) = some r := H
      have A4 := Aside0.mk A40
      clear A40
      obtain rfl := Option.some.inj H
      go_enter Tryz.func8, Tryz.ntmps8
      go_wp2_with (first | (go_at_call 29; (with_reducible refine (metrolabref01_Check.calls k a0 t102 _ A4.out).mono ?_); rintro e w' ⟨rfl, ⟨nd, rfl⟩⟩))
      go_ret
      exact ⟨by first | rfl | (simp; done) | (simp [*]; done), by repeat (first | exact Drawn0.refl _ | apply Drawn0.step)⟩
    · rw [if_neg c3] at H
      have c3b0 : decide ((a0.size : Int) ≤ 2048) = false := decide_eq_false c3
      have c3b1 : decide (a0.size ≤ 2048) = false := decide_eq_false (by omega)
      clear c3
      obtain rfl := Option.some.inj H
      go_enter Tryz.func8, Tryz.ntmps8
      go_wp2
      go_ret
      exact ⟨by first | rfl | (simp; done) | (simp [*]; done), by repeat (first | exact Drawn0.refl _ | apply Drawn0.step)⟩
def metrolabref01_Kept.f (a0 : ByteArray) : Option (ByteArray × Int) := (metrolabref01_size.f a0).bind fun t103 => (if (t103.size : Int) > 1024 then (some ((⟨#[]⟩ : ByteArray), 11)) else (some (a0, 0)))
set_option maxHeartbeats 8000000 in
set_option maxRecDepth 100000 in
theorem metrolabref01_Kept.calls (a0 : ByteArray) (r1 : ByteArray) (r2 : Int) (w : World) (h : metrolabref01_Kept.f a0 = some (r1, r2)) :
    Calls Tryz.prog 46 #[.string a0] w fun e w' => e = .returned (.tuple #[.string r1, .int .i64 r2]) ∧ Drawn0 w w' := by
  have H : ((metrolabref01_size.f a0).bind fun t103 => (if (t103.size : Int) > 1024 then (some ((⟨#[]⟩ : ByteArray), 11)) else (some (a0, 0)))) = some (r1, r2) := h
  clear h
  replace H := Option.bind_eq_some_iff.mp H
  obtain ⟨t103, A20, H⟩ := H
  replace H : (if (t103.size : Int) > 1024 then (some ((⟨#[]⟩ : ByteArray), 11)) else (some (a0, 0))) = some (r1, r2) := H
  have A2 := Aside0.mk A20
  clear A20
  by_cases c3 : (t103.size : Int) > 1024
  · rw [if_pos c3] at H
    have c3b0 : decide (1024 < (t103.size : Int)) = true := decide_eq_true c3
    have c3b1 : decide (1024 < t103.size) = true := decide_eq_true (by omega)
    clear c3
    simp only [Option.some.injEq, Prod.mk.injEq] at H
    obtain ⟨rfl, rfl⟩ := H
    go_enter Tryz.func46, Tryz.ntmps46
    go_wp2_with (first | ((with_reducible refine gate_callee (f := 58) rfl ?_); refine goesL_ (some 5) rfl rfl Tryz.func58 (by kernel_rfl) rfl #[.string a0] rfl (by (try simp only [List.map_toArray, List.map_cons, List.map_nil]); first | done | rfl | (simp only [List.length_drop, List.length_take]; rfl)) ?_; (with_reducible refine (metrolabref01_size.calls a0 t103 _ A2.out).mono ?_); rintro e w' ⟨rfl, ⟨nd, rfl⟩⟩; refine ⟨_, rfl, ?_⟩))
    go_ret2
    exact ⟨by first | rfl | (simp; done) | (simp [*]; done), by repeat (first | exact Drawn0.refl _ | apply Drawn0.step)⟩
  · rw [if_neg c3] at H
    have c3b0 : decide (1024 < (t103.size : Int)) = false := decide_eq_false c3
    have c3b1 : decide (1024 < t103.size) = false := decide_eq_false (by omega)
    clear c3
    simp only [Option.some.injEq, Prod.mk.injEq] at H
    obtain ⟨rfl, rfl⟩ := H
    go_enter Tryz.func46, Tryz.ntmps46
    go_wp2_with (first | ((with_reducible refine gate_callee (f := 58) rfl ?_); refine goesL_ (some 5) rfl rfl Tryz.func58 (by kernel_rfl) rfl #[.string a0] rfl (by (try simp only [List.map_toArray, List.map_cons, List.map_nil]); first | done | rfl | (simp only [List.length_drop, List.length_take]; rfl)) ?_; (with_reducible refine (metrolabref01_size.calls a0 t103 _ A2.out).mono ?_); rintro e w' ⟨rfl, ⟨nd, rfl⟩⟩; refine ⟨_, rfl, ?_⟩))
    go_ret2
    exact ⟨by first | rfl | (simp; done) | (simp [*]; done), by repeat (first | exact Drawn0.refl _ | apply Drawn0.step)⟩
def metrolabref01_Below.f (a0 : ByteArray) : Option (Bool) := if 0 < (a0.size : Int) then (some ((bt a0 0) == 45)) else (none)
set_option maxHeartbeats 8000000 in
set_option maxRecDepth 100000 in
theorem metrolabref01_Below.calls (a0 : ByteArray) (r : Bool) (w : World) (h : metrolabref01_Below.f a0 = some r) :
    Calls Tryz.prog 59 #[.string a0] w fun e w' => e = .returned (.bool r) ∧ Drawn0 w w' := by
  have H : (if 0 < (a0.size : Int) then (some ((bt a0 0) == 45)) else (none)) = some r := h
  clear h
  by_cases c2 : 0 < (a0.size : Int)
  · rw [if_pos c2] at H
    have c2b0 : decide (0 < (a0.size : Int)) = true := decide_eq_true c2
    have c2b1 : decide (0 < a0.size) = true := decide_eq_true (by omega)
    clear c2
    obtain rfl := Option.some.inj H
    have p3 : 0 ≤ (0 : Int) := (by omega)
    have q3 : 0 < a0.size := (by have : (0 : Int) < (a0.size : Int) := of_decide_eq_true (by first | (with_reducible assumption) | assumption); omega)
    have hx3 : ∀ h : 0 < a0.size, ((a0[0]'h).toNat : Int) = bt a0 0 := bt_at a0 0
    clear p3
    have qi3 : (0 < (a0.size : Int)) = True := eq_true (of_decide_eq_true (by first | (with_reducible assumption) | assumption))
    replace q3 := eq_true q3
    go_enter Tryz.func59, Tryz.ntmps59
    go_wp2
    go_ret
    exact ⟨by first | rfl | (simp; done) | (simp [*]; done), by repeat (first | exact Drawn0.refl _ | apply Drawn0.step)⟩
  · rw [if_neg c2] at H
    exact absurd H (by simp)
def metrolabref01_signed.f (a0 : ByteArray) (a1 : Bool) : Option (ByteArray) := if a1 = true then (if a0.toList = ([48] : List UInt8) then (some a0) else (if 1 + a0.size ≤ 9223372036854775807 then (some ((⟨#[45]⟩ : ByteArray) ++ a0)) else (none))) else (some a0)
set_option maxHeartbeats 8000000 in
set_option maxRecDepth 100000 in
theorem metrolabref01_signed.calls (a0 : ByteArray) (a1 : Bool) (r : ByteArray) (w : World) (h : metrolabref01_signed.f a0 a1 = some r) :
    Calls Tryz.prog 72 #[.string a0, .bool a1] w fun e w' => e = .returned (.string r) ∧ Drawn0 w w' := by
  have H : (if a1 = true then (if a0.toList = ([48] : List UInt8) then (some a0) else (if 1 + a0.size ≤ 9223372036854775807 then (some ((⟨#[45]⟩ : ByteArray) ++ a0)) else (none))) else (some a0)) = some r := h
  clear h
  by_cases c3 : a1 = true
  · subst c3
    have H1 : (if a0.toList = ([48] : List UInt8) then (some a0) else (if 1 + a0.size ≤ 9223372036854775807 then (some ((⟨#[45]⟩ : ByteArray) ++ a0)) else (none))) = some r := by rw [if_pos rfl] at H; exact H
    clear H
    have H := H1
    clear H1
    by_cases c4 : a0.toList = ([48] : List UInt8)
    · rw [if_pos c4] at H
      have c4b0 : (a0.toList == ([48] : List UInt8)) = true := beq_iff_eq.mpr c4
      have c4b1 : (a0.toList != ([48] : List UInt8)) = false := bne_eq_false_iff_eq.mpr c4
      clear c4
      obtain rfl := Option.some.inj H
      go_enter Tryz.func72, Tryz.ntmps72
      go_wp2
      go_ret
      exact ⟨by first | rfl | (simp; done) | (simp [*]; done), by repeat (first | exact Drawn0.refl _ | apply Drawn0.step)⟩
    · rw [if_neg c4] at H
      have c4b0 : (a0.toList == ([48] : List UInt8)) = false := beq_eq_false_iff_ne.mpr c4
      have c4b1 : (a0.toList != ([48] : List UInt8)) = true := bne_iff_ne.mpr c4
      by_cases c5 : 1 + a0.size ≤ 9223372036854775807
      · rw [if_pos c5] at H
        have c5b0 := eq_true c5
        have c5b1 : decide (1 + a0.size ≤ 9223372036854775807) = true := decide_eq_true c5
        try have c5b2 : (9223372036854775807 < 1 + a0.size) = False := eq_false (Nat.not_lt.2 c5)
        obtain rfl := Option.some.inj H
        go_enter Tryz.func72, Tryz.ntmps72
        go_wp2
        go_ret
        exact ⟨by first | rfl | (simp; done) | (simp [*]; done), by repeat (first | exact Drawn0.refl _ | apply Drawn0.step)⟩
      · rw [if_neg c5] at H
        exact absurd H (by simp)
  · replace c3 := Bool.eq_false_iff.mpr c3
    subst c3
    have H1 : (some a0) = some r := by rw [if_neg (show ¬ (false = true) by decide)] at H; exact H
    clear H
    have H := H1
    clear H1
    obtain rfl := Option.some.inj H
    go_enter Tryz.func72, Tryz.ntmps72
    go_wp2
    go_ret
    exact ⟨by first | rfl | (simp; done) | (simp [*]; done), by repeat (first | exact Drawn0.refl _ | apply Drawn0.step)⟩
def metrolabref01_Turned.f (a0 : ByteArray) : Option (ByteArray) := (metrolabref01_size.f a0).bind fun t104 => ((metrolabref01_Below.f a0).bind fun t105 => ((metrolabref01_signed.f t104 (!t105)).bind fun t106 => (some t106)))
set_option maxHeartbeats 8000000 in
set_option maxRecDepth 100000 in
theorem metrolabref01_Turned.calls (a0 : ByteArray) (r : ByteArray) (w : World) (h : metrolabref01_Turned.f a0 = some r) :
    Calls Tryz.prog 64 #[.string a0] w fun e w' => e = .returned (.string r) ∧ Drawn0 w w' := by
  have H : ((metrolabref01_size.f a0).bind fun t104 => ((metrolabref01_Below.f a0).bind fun t105 => ((metrolabref01_signed.f t104 (!t105)).bind fun t106 => (some t106)))) = some r := h
  clear h
  replace H := Option.bind_eq_some_iff.mp H
  obtain ⟨t104, A20, H⟩ := H
  replace H : ((metrolabref01_Below.f a0).bind fun t105 => ((metrolabref01_signed.f t104 (!t105)).bind fun t106 => (some t106))) = some r := H
  have A2 := Aside0.mk A20
  clear A20
  replace H := Option.bind_eq_some_iff.mp H
  obtain ⟨t105, A30, H⟩ := H
  replace H : ((metrolabref01_signed.f t104 (!t105)).bind fun t106 => (some t106)) = some r := H
  have A3 := Aside0.mk A30
  clear A30
  replace H := Option.bind_eq_some_iff.mp H
  obtain ⟨t106, A40, H⟩ := H
  replace H : (some t106) = some r := H
  have A4 := Aside0.mk A40
  clear A40
  obtain rfl := Option.some.inj H
  go_enter Tryz.func64, Tryz.ntmps64
  go_wp2_with (first | ((with_reducible refine gate_callee (f := 58) rfl ?_); refine goesL_ (some 4) rfl rfl Tryz.func58 (by kernel_rfl) rfl #[.string a0] rfl (by (try simp only [List.map_toArray, List.map_cons, List.map_nil]); first | done | rfl | (simp only [List.length_drop, List.length_take]; rfl)) ?_; (with_reducible refine (metrolabref01_size.calls a0 t104 _ A2.out).mono ?_); rintro e w' ⟨rfl, ⟨nd, rfl⟩⟩; refine ⟨_, rfl, ?_⟩) | ((with_reducible refine gate_callee (f := 59) rfl ?_); refine goesL_ (some 6) rfl rfl Tryz.func59 (by kernel_rfl) rfl #[.string a0] rfl (by (try simp only [List.map_toArray, List.map_cons, List.map_nil]); first | done | rfl | (simp only [List.length_drop, List.length_take]; rfl)) ?_; (with_reducible refine (metrolabref01_Below.calls a0 t105 _ A3.out).mono ?_); rintro e w' ⟨rfl, ⟨nd, rfl⟩⟩; refine ⟨_, rfl, ?_⟩) | ((with_reducible refine gate_callee (f := 72) rfl ?_); refine goesL_ (some 8) rfl rfl Tryz.func72 (by kernel_rfl) rfl #[.string t104, .bool (!t105)] rfl (by (try simp only [List.map_toArray, List.map_cons, List.map_nil]); first | done | rfl | (simp only [List.length_drop, List.length_take]; rfl)) ?_; (with_reducible refine (metrolabref01_signed.calls t104 (!t105) t106 _ A4.out).mono ?_); rintro e w' ⟨rfl, ⟨nd, rfl⟩⟩; refine ⟨_, rfl, ?_⟩))
  go_ret
  exact ⟨by first | rfl | (simp; done) | (simp [*]; done), by repeat (first | exact Drawn0.refl _ | apply Drawn0.step)⟩
mutual
def metrolabref01_Of.j0 : Nat → Int → Bool → Option (ByteArray)
  | 0, _, _ => none
  | k + 1, x0, x11 => if x11 = true then (some (⟨#[45, 57, 50, 50, 51, 51, 55, 50, 48, 51, 54, 56, 53, 52, 55, 55, 53, 56, 48, 56]⟩ : ByteArray)) else (if x0 < 0 then ((metrolabref01_Of.f k (wrap64 (-x0))).bind fun t107 => ((metrolabref01_Turned.f t107).bind fun t108 => (some t108))) else (metrolabref01_Of.l0 k x0 (⟨#[]⟩ : ByteArray)))
def metrolabref01_Of.l0 : Nat → Int → ByteArray → Option (ByteArray)
  | 0, _, _ => none
  | k + 1, x0, x3 => if x0 > 9 then ((some (([(wrap64 (48 + (Int.tmod x0 10))) % 256] : List Int) : List Int)).bind fun y109 => (if (strOfNums y109).size + x3.size ≤ 9223372036854775807 then (metrolabref01_Of.l0 k (wrap64 (Int.tdiv x0 10)) ((strOfNums y109) ++ x3)) else (none))) else ((some (([(wrap64 (48 + x0)) % 256] : List Int) : List Int)).bind fun y112 => (if (strOfNums y112).size + x3.size ≤ 9223372036854775807 then (some ((strOfNums y112) ++ x3)) else (none)))
def metrolabref01_Of.f : Nat → Int → Option (ByteArray)
  | 0, _ => none
  | k + 1, a0 => if a0 = (wrap64 (-a0)) then (metrolabref01_Of.j0 k a0 (a0 != 0)) else (metrolabref01_Of.j0 k a0 false)
end
theorem metrolabref01_Of.mono_l : ∀ k, (∀ y0, LeO (metrolabref01_Of.f k y0) (metrolabref01_Of.f (k + 1) y0)) ∧ (∀ y0 y1, LeO (metrolabref01_Of.j0 k y0 y1) (metrolabref01_Of.j0 (k + 1) y0 y1)) ∧ (∀ y0 y1, LeO (metrolabref01_Of.l0 k y0 y1) (metrolabref01_Of.l0 (k + 1) y0 y1))
  | 0 => ⟨fun _ r h => by simp [metrolabref01_Of.f] at h, fun _ _ r h => by simp [metrolabref01_Of.j0] at h, fun _ _ r h => by simp [metrolabref01_Of.l0] at h⟩
  | k + 1 => by
    obtain ⟨ih0, ih1, ih2⟩ := metrolabref01_Of.mono_l k
    refine ⟨?_, ?_, ?_⟩
    · intro y0
      unfold metrolabref01_Of.f
      repeat' first
      | (with_reducible exact ih0 _)
      | (with_reducible exact ih1 _ _)
      | (with_reducible exact ih2 _ _)
      | (with_reducible exact LeO.refl _)
      | (with_reducible exact LeO.none _)
      | (with_reducible refine LeO.ite ?_ ?_)
      | (with_reducible refine LeO.bind ?_ (fun _ => ?_))
      | exact ih0 _
      | exact ih1 _ _
      | exact ih2 _ _
      | exact LeO.none _
      | refine LeO.ite ?_ ?_
      | refine LeO.bind ?_ (fun _ => ?_)
    · intro y0 y1
      unfold metrolabref01_Of.j0
      repeat' first
      | (with_reducible exact ih0 _)
      | (with_reducible exact ih1 _ _)
      | (with_reducible exact ih2 _ _)
      | (with_reducible exact LeO.refl _)
      | (with_reducible exact LeO.none _)
      | (with_reducible refine LeO.ite ?_ ?_)
      | (with_reducible refine LeO.bind ?_ (fun _ => ?_))
      | exact ih0 _
      | exact ih1 _ _
      | exact ih2 _ _
      | exact LeO.none _
      | refine LeO.ite ?_ ?_
      | refine LeO.bind ?_ (fun _ => ?_)
    · intro y0 y1
      unfold metrolabref01_Of.l0
      repeat' first
      | (with_reducible exact ih0 _)
      | (with_reducible exact ih1 _ _)
      | (with_reducible exact ih2 _ _)
      | (with_reducible exact LeO.refl _)
      | (with_reducible exact LeO.none _)
      | (with_reducible refine LeO.ite ?_ ?_)
      | (with_reducible refine LeO.bind ?_ (fun _ => ?_))
      | exact ih0 _
      | exact ih1 _ _
      | exact ih2 _ _
      | exact LeO.none _
      | refine LeO.ite ?_ ?_
      | refine LeO.bind ?_ (fun _ => ?_)
theorem metrolabref01_Of.mono : ∀ a0 k, LeO (metrolabref01_Of.f k a0) (metrolabref01_Of.f (k + 1) a0) := by
  intro a0 k
  obtain ⟨ih0, ih1, ih2⟩ := metrolabref01_Of.mono_l k
  exact ih0 a0
set_option maxHeartbeats 8000000 in
set_option maxRecDepth 100000 in
theorem metrolabref01_Of.calls (k : Nat) : ∀ (a0 : Int) (r : ByteArray) (w : World) (h : metrolabref01_Of.f k a0 = some r),
    Calls Tryz.prog 31 #[.int .i64 a0] w fun e w' => e = .returned (.string r) ∧ Below w.heap.size w w' := by
  induction k using Nat.strongRecOn with
  | _ k ih =>
  intro a0 r w h
  cases k with
  | zero => exact absurd h (by simp [metrolabref01_Of.f])
  | succ k =>
  simp only [metrolabref01_Of.f] at h
  have HB := Aside0.mk (Below.refl w.heap.size w)
  have H : (if a0 = (wrap64 (-a0)) then (metrolabref01_Of.j0 k a0 (a0 != 0)) else (metrolabref01_Of.j0 k a0 false)) = some r := h
  clear h
  have HC2 := Aside0.mk H
  clear H
  go_enter Tryz.func31, Tryz.ntmps31
  go_upto_region 1 with (fail)
  go_cut [11] (fun v11 wc => ∃ (kq : Nat) (x11_1 : Bool), v11 = .bool x11_1 ∧ Aside0 (metrolabref01_Of.j0 kq a0 x11_1 = some r) ∧ Aside0 (kq ≤ k) ∧ Aside0 (Below w.heap.size w wc))
  case first =>
    have H := HC2.out
    clear HC2
    by_cases c3 : a0 = (wrap64 (-a0))
    · rw [if_pos c3] at H
      have c3b0 : (a0 == (wrap64 (-a0))) = true := beq_iff_eq.mpr c3
      have c3b1 : (a0 != (wrap64 (-a0))) = false := bne_eq_false_iff_eq.mpr c3
      clear c3
      (first | rw [c3b0] | (simp only [i64_w, i32_w]; rw [c3b0]) | skip)
      have H' := Aside0.mk H
      clear H
      go_wp2
      go_meet
      case rel => exact ⟨_, ((a0 != 0)), (by first | rfl | exact congrArg Value.bool (not_empty _) | exact congrArg Value.bool (is_empty _) | (simp; done) | (simp [*]; done)), H', ⟨by first | omega | exact Nat.le_refl _⟩, ⟨by repeat (first | (with_reducible first | exact HB.out | apply below_alloc | apply pw_below_drewN | apply below_drew1) | exact HB.out)⟩⟩
    · rw [if_neg c3] at H
      have c3b0 : (a0 == (wrap64 (-a0))) = false := beq_eq_false_iff_ne.mpr c3
      have c3b1 : (a0 != (wrap64 (-a0))) = true := bne_iff_ne.mpr c3
      (first | rw [c3b0] | (simp only [i64_w, i32_w]; rw [c3b0]) | skip)
      have H' := Aside0.mk H
      clear H
      go_wp2
      go_meet
      case rel => exact ⟨_, (false), (by first | rfl | exact congrArg Value.bool (not_empty _) | exact congrArg Value.bool (is_empty _) | (simp; done) | (simp [*]; done)), H', ⟨by first | omega | exact Nat.le_refl _⟩, ⟨by repeat (first | (with_reducible first | exact HB.out | apply below_alloc | apply pw_below_drewN | apply below_drew1) | exact HB.out)⟩⟩
  case rest =>
    clear HC2
    try clear p2
    try clear c3
    try clear c3b0
    try clear c3b1
    obtain ⟨kq, x11_1, rfl, HA, HJ1, HB⟩ := hcut
    cases kq with
    | zero => exact absurd HA.out (by simp [metrolabref01_Of.j0])
    | succ kj1 =>
      have H := HA.out
      clear HA
      simp only [metrolabref01_Of.j0] at H
      by_cases c4 : x11_1 = true
      · subst c4
        have H1 : (some (⟨#[45, 57, 50, 50, 51, 51, 55, 50, 48, 51, 54, 56, 53, 52, 55, 55, 53, 56, 48, 56]⟩ : ByteArray)) = some r := by rw [if_pos rfl] at H; exact H
        clear H
        have H := H1
        clear H1
        obtain rfl := Option.some.inj H
        go_wp2
        go_ret
        exact ⟨by first | rfl | (simp [errW_none, errW_some] <;> rfl) | (simp [*, errW_none, errW_some] <;> rfl), by repeat (first | (with_reducible first | exact HB.out | apply below_alloc | apply pw_below_drewN | apply below_drew1) | exact HB.out)⟩
      · replace c4 := Bool.eq_false_iff.mpr c4
        subst c4
        have H1 : (if a0 < 0 then ((metrolabref01_Of.f kj1 (wrap64 (-a0))).bind fun t107 => ((metrolabref01_Turned.f t107).bind fun t108 => (some t108))) else (metrolabref01_Of.l0 kj1 a0 (⟨#[]⟩ : ByteArray))) = some r := by rw [if_neg (show ¬ (false = true) by decide)] at H; exact H
        clear H
        have H := H1
        clear H1
        by_cases c5 : a0 < 0
        · rw [if_pos c5] at H
          have c5b0 : decide (a0 < 0) = true := decide_eq_true c5
          clear c5
          replace H := Option.bind_eq_some_iff.mp H
          obtain ⟨t107, A60, H⟩ := H
          replace H : ((metrolabref01_Turned.f t107).bind fun t108 => (some t108)) = some r := H
          have A6 := Aside0.mk A60
          clear A60
          replace H := Option.bind_eq_some_iff.mp H
          obtain ⟨t108, A70, H⟩ := H
          replace H : (some t108) = some r := H
          have A7 := Aside0.mk A70
          clear A70
          obtain rfl := Option.some.inj H
          go_wp2_with (first | ((with_reducible refine gate_callee (f := 31) rfl ?_); refine goesL_ (some 16) rfl rfl Tryz.func31 (by kernel_rfl) rfl #[.int .i64 (wrap64 (-a0))] rfl (by (try simp only [List.map_toArray, List.map_cons, List.map_nil]); first | done | rfl | (simp only [List.length_drop, List.length_take]; rfl)) ?_; (with_reducible refine (ih kj1 (by have := HJ1.out; omega) (wrap64 (-a0)) t107 _ A6.out).mono ?_); rintro e w8 ⟨rfl, hb⟩; refine ⟨_, rfl, ?_⟩; have n0_ := Aside0.mk (below_step (by repeat (first | (with_reducible first | exact HB.out | apply below_alloc | apply pw_below_drewN | apply below_drew1) | exact HB.out)) hb); clear HB; have HB := n0_; clear n0_; (try clear hb); (try clear hb2); (try clear hk); (try clear hi)) | ((with_reducible refine gate_callee (f := 64) rfl ?_); refine goesL_ (some 17) rfl rfl Tryz.func64 (by kernel_rfl) rfl #[.string t107] rfl (by (try simp only [List.map_toArray, List.map_cons, List.map_nil]); first | done | rfl | (simp only [List.length_drop, List.length_take]; rfl)) ?_; (with_reducible refine (metrolabref01_Turned.calls t107 t108 _ A7.out).mono ?_); rintro e w' ⟨rfl, ⟨nd, rfl⟩⟩; refine ⟨_, rfl, ?_⟩))
          go_ret
          exact ⟨by first | rfl | (simp [errW_none, errW_some] <;> rfl) | (simp [*, errW_none, errW_some] <;> rfl), by repeat (first | (with_reducible first | exact HB.out | apply below_alloc | apply pw_below_drewN | apply below_drew1) | exact HB.out)⟩
        · rw [if_neg c5] at H
          have c5b0 : decide (a0 < 0) = false := decide_eq_false c5
          clear c5
          have H' := Aside0.mk H
          clear H
          go_wp2
          go_loopg [0, 3] kj1 (fun kq v0 v3 w' => ∃ (x0_2 : Int) (x3_2 : ByteArray), v0 = .int .i64 x0_2 ∧ v3 = .string x3_2 ∧ Aside0 (metrolabref01_Of.l0 kq x0_2 x3_2 = some r) ∧ Aside0 (kq ≤ kj1) ∧ Aside0 (Below w.heap.size w w'))
          case atStart => exact ⟨(a0), ((⟨#[]⟩ : ByteArray)), (by first | rfl | exact congrArg Value.bool (not_empty _) | exact congrArg Value.bool (is_empty _) | (simp; done) | (simp [*]; done)), (by first | rfl | exact congrArg Value.bool (not_empty _) | exact congrArg Value.bool (is_empty _) | (simp; done) | (simp [*]; done)), H', ⟨Nat.le_refl _⟩, ⟨by repeat (first | (with_reducible first | exact HB.out | apply below_alloc | apply pw_below_drewN | apply below_drew1) | exact HB.out)⟩⟩
          case round =>
            clear H'
            try clear p2
            try clear c3
            try clear c3b0
            try clear c3b1
            try clear c4
            try clear c5
            try clear c5b0
            try clear c6
            try clear p6
            try clear p2
            obtain ⟨x0_2, x3_2, rfl, rfl, HA, HK2, HB⟩ := hrel
            cases gk with
            | zero => exact absurd HA.out (by simp [metrolabref01_Of.l0])
            | succ k2 =>
              have H := HA.out
              clear HA
              simp only [metrolabref01_Of.l0] at H
              by_cases c9 : x0_2 > 9
              · rw [if_pos c9] at H
                have c9b0 : decide (9 < x0_2) = true := decide_eq_true c9
                clear c9
                obtain ⟨y109, hy109⟩ : ∃ y_ : List Int, y_ = (([(wrap64 (48 + (Int.tmod x0_2 10))) % 256] : List Int)) := ⟨_, rfl⟩
                replace H : (if (strOfNums y109).size + x3_2.size ≤ 9223372036854775807 then (metrolabref01_Of.l0 k2 (wrap64 (Int.tdiv x0_2 10)) ((strOfNums y109) ++ x3_2)) else (none)) = some r := by first | (rw [hy109]; with_reducible exact H) | (have H2_ := (Option.bind_some _ _).symm.trans H; rw [hy109]; with_reducible exact H2_) | (have H2_ := (Option.bind_some _ _).symm.trans H; with_reducible exact H2_) | with_reducible exact H | (rw [hy109]; exact H) | exact H
                have Ny109 := Aside0.mk hy109
                clear hy109
                by_cases c10 : (strOfNums y109).size + x3_2.size ≤ 9223372036854775807
                · rw [if_pos c10] at H
                  have c10b0 := eq_true c10
                  have c10b1 : decide ((strOfNums y109).size + x3_2.size ≤ 9223372036854775807) = true := decide_eq_true c10
                  try have c10b2 : (9223372036854775807 < (strOfNums y109).size + x3_2.size) = False := eq_false (Nat.not_lt.2 c10)
                  have H' := Aside0.mk H
                  clear H
                  go_wp2_with (first | ((with_reducible refine gate_dst (N := 24) rfl ?_); refine Kd.R_lit (Kd.int .u8) _ 5 ?hg (N := 24) ?hd (xs := ([(wrap64 (48 + (Int.tmod x0_2 10))) % 256] : List Int)) (inner := [.int .u8 ((wrap64 (48 + (Int.tmod x0_2 10))) % 256)]) (ok := fun _ => True) (okp := fun _ => True) ?hr ?hp (fun _ hk => hk) trivial (Below.refl _ _) (Nat.le_refl _) (by simp) ?_; (case hd => rfl); (case hg => rfl); (case hr => first | (go_simp; done) | (go_simp; rfl)); (case hp => exact (Reps.one (show Kd.M (Kd.int .u8) _ _ _ ((wrap64 (48 + (Int.tmod x0_2 10))) % 256) [.int .u8 ((wrap64 (48 + (Int.tmod x0_2 10))) % 256)] from rfl) (Reps.none _ _))); intro v110 w11 ho12 hb hg_ hnew_; clear hg_ hnew_; (first | rw [← Ny109.out] at ho12 | (simp only [Int.reduceToNat] at ho12; rw [← Ny109.out] at ho12)); have n0_ := Aside0.mk (Kd.R_lower ho12 (below_size (by repeat (first | (with_reducible first | exact HB.out | apply below_alloc | apply pw_below_drewN | apply below_drew1) | exact HB.out)))); have n1_ := Aside0.mk (below_step (by repeat (first | (with_reducible first | exact HB.out | apply below_alloc | apply pw_below_drewN | apply below_drew1) | exact HB.out)) hb); clear HB; have HO111 := n0_; have HB := n1_; clear n0_ n1_; clear hb ho12; have hcv13 := own_string (P := Tryz.prog) Tryz.underlying88 Tryz.underlying5 Tryz.underlying9 (Kd.own_of_R HO111.out)))
                  go_roundg k2
                  case measure => have := HJ1.out; have := HK2.out; omega
                  case rel => exact ⟨(wrap64 (Int.tdiv x0_2 10)), ((strOfNums y109) ++ x3_2), (by first | rfl | exact congrArg Value.bool (not_empty _) | exact congrArg Value.bool (is_empty _) | (simp; done) | (simp [*]; done)), (by first | rfl | exact congrArg Value.bool (not_empty _) | exact congrArg Value.bool (is_empty _) | (simp; done) | (simp [*]; done)), H', ⟨by have := HJ1.out; have := HK2.out; omega⟩, ⟨by repeat (first | (with_reducible first | exact HB.out | apply below_alloc | apply pw_below_drewN | apply below_drew1) | exact HB.out)⟩⟩
                · rw [if_neg c10] at H
                  exact absurd H (by simp)
              · rw [if_neg c9] at H
                have c9b0 : decide (9 < x0_2) = false := decide_eq_false c9
                clear c9
                obtain ⟨y112, hy112⟩ : ∃ y_ : List Int, y_ = (([(wrap64 (48 + x0_2)) % 256] : List Int)) := ⟨_, rfl⟩
                replace H : (if (strOfNums y112).size + x3_2.size ≤ 9223372036854775807 then (some ((strOfNums y112) ++ x3_2)) else (none)) = some r := by first | (rw [hy112]; with_reducible exact H) | (have H2_ := (Option.bind_some _ _).symm.trans H; rw [hy112]; with_reducible exact H2_) | (have H2_ := (Option.bind_some _ _).symm.trans H; with_reducible exact H2_) | with_reducible exact H | (rw [hy112]; exact H) | exact H
                have Ny112 := Aside0.mk hy112
                clear hy112
                by_cases c14 : (strOfNums y112).size + x3_2.size ≤ 9223372036854775807
                · rw [if_pos c14] at H
                  have c14b0 := eq_true c14
                  have c14b1 : decide ((strOfNums y112).size + x3_2.size ≤ 9223372036854775807) = true := decide_eq_true c14
                  try have c14b2 : (9223372036854775807 < (strOfNums y112).size + x3_2.size) = False := eq_false (Nat.not_lt.2 c14)
                  obtain rfl := Option.some.inj H
                  go_wp2_with (first | ((with_reducible refine gate_dst (N := 33) rfl ?_); refine Kd.R_lit (Kd.int .u8) _ 5 ?hg (N := 33) ?hd (xs := ([(wrap64 (48 + x0_2)) % 256] : List Int)) (inner := [.int .u8 ((wrap64 (48 + x0_2)) % 256)]) (ok := fun _ => True) (okp := fun _ => True) ?hr ?hp (fun _ hk => hk) trivial (Below.refl _ _) (Nat.le_refl _) (by simp) ?_; (case hd => rfl); (case hg => rfl); (case hr => first | (go_simp; done) | (go_simp; rfl)); (case hp => exact (Reps.one (show Kd.M (Kd.int .u8) _ _ _ ((wrap64 (48 + x0_2)) % 256) [.int .u8 ((wrap64 (48 + x0_2)) % 256)] from rfl) (Reps.none _ _))); intro v113 w15 ho16 hb hg_ hnew_; clear hg_ hnew_; (first | rw [← Ny112.out] at ho16 | (simp only [Int.reduceToNat] at ho16; rw [← Ny112.out] at ho16)); have n0_ := Aside0.mk (Kd.R_lower ho16 (below_size (by repeat (first | (with_reducible first | exact HB.out | apply below_alloc | apply pw_below_drewN | apply below_drew1) | exact HB.out)))); have n1_ := Aside0.mk (below_step (by repeat (first | (with_reducible first | exact HB.out | apply below_alloc | apply pw_below_drewN | apply below_drew1) | exact HB.out)) hb); clear HB; have HO114 := n0_; have HB := n1_; clear n0_ n1_; clear hb ho16; have hcv17 := own_string (P := Tryz.prog) Tryz.underlying88 Tryz.underlying5 Tryz.underlying9 (Kd.own_of_R HO114.out)))
                  go_ret
                  exact ⟨by first | rfl | (simp [errW_none, errW_some] <;> rfl) | (simp [*, errW_none, errW_some] <;> rfl), by repeat (first | (with_reducible first | exact HB.out | apply below_alloc | apply pw_below_drewN | apply below_drew1) | exact HB.out)⟩
                · rw [if_neg c14] at H
                  exact absurd H (by simp)
end Go.Proofs.YtpkfnclbcmnckaaGreatDoor.ZP
namespace Go.Proofs.YtpkfnclbcmnckaaGreatDoor.ZP
open Go.RowKit Go.Proofs.YtpkfnclbcmnckaaGreatDoorW.PrintWords Go.Proofs.YtpkfnclbcmnckaaGreatDoorW.PrintLast Go.Proofs.YtpkfnclbcmnckaaGreatDoorW.PrintMore
attribute [local go_sem] max2_int min2_int max_two min_two max_three min_three max_four min_four   -- for this text's walks alone
set_option linter.unusedVariables false
set_option linter.unusedSimpArgs false
def metrolabref01_number.l0 : Nat → ByteArray → Int → ByteArray → Int → Option (Int)
  | 0, _, _, _, _ => none
  | k + 1, x0, x3, x4, x5 => if x5 < (x4.size : Int) then (if 0 ≤ x5 then (metrolabref01_number.l0 k x0 (wrap64 ((wrap64 (10 * x3)) + (((bt x4 x5) - 48) % 256))) x4 (wrap64 (x5 + 1))) else (none)) else ((metrolabref01_Below.f x0).bind fun t116 => (if t116 = true then (some (wrap64 (-x3))) else (some x3)))
def metrolabref01_number.f (k : Nat) (a0 : ByteArray) : Option (Int) := (metrolabref01_size.f a0).bind fun t115 => (metrolabref01_number.l0 k a0 0 t115 0)
theorem metrolabref01_number.mono_l : ∀ k, (∀ y0 y1 y2 y3, LeO (metrolabref01_number.l0 k y0 y1 y2 y3) (metrolabref01_number.l0 (k + 1) y0 y1 y2 y3))
  | 0 => fun _ _ _ _ r h => by simp [metrolabref01_number.l0] at h
  | k + 1 => by
    have ih0 := metrolabref01_number.mono_l k
    · intro y0 y1 y2 y3
      unfold metrolabref01_number.l0
      repeat' first
      | (with_reducible exact ih0 _ _ _ _)
      | (with_reducible exact LeO.refl _)
      | (with_reducible exact LeO.none _)
      | (with_reducible refine LeO.ite ?_ ?_)
      | (with_reducible refine LeO.bind ?_ (fun _ => ?_))
      | exact ih0 _ _ _ _
      | exact LeO.none _
      | refine LeO.ite ?_ ?_
      | refine LeO.bind ?_ (fun _ => ?_)
theorem metrolabref01_number.mono : ∀ a0 k, LeO (metrolabref01_number.f k a0) (metrolabref01_number.f (k + 1) a0) := by
  intro a0 k
  have ih0 := metrolabref01_number.mono_l k
  unfold metrolabref01_number.f
  repeat' first
      | (with_reducible exact ih0 _ _ _ _)
      | (with_reducible exact LeO.refl _)
      | (with_reducible exact LeO.none _)
      | (with_reducible refine LeO.ite ?_ ?_)
      | (with_reducible refine LeO.bind ?_ (fun _ => ?_))
      | exact ih0 _ _ _ _
      | exact LeO.none _
      | refine LeO.ite ?_ ?_
      | refine LeO.bind ?_ (fun _ => ?_)
set_option maxHeartbeats 8000000 in
set_option maxRecDepth 100000 in
theorem metrolabref01_number.calls (k : Nat) (a0 : ByteArray) (r : Int) (w : World) (h : metrolabref01_number.f k a0 = some r) :
    Calls Tryz.prog 95 #[.string a0] w fun e w' => e = .returned (.int .i64 r) ∧ Drawn0 w w' := by
  have H : ((metrolabref01_size.f a0).bind fun t115 => (metrolabref01_number.l0 k a0 0 t115 0)) = some r := h
  clear h
  replace H := Option.bind_eq_some_iff.mp H
  obtain ⟨t115, A20, H⟩ := H
  replace H : (metrolabref01_number.l0 k a0 0 t115 0) = some r := H
  have A2 := Aside0.mk A20
  clear A20
  have H' := Aside0.mk H
  clear H
  go_enter Tryz.func95, Tryz.ntmps95
  go_wp2_with (first | ((with_reducible refine gate_callee (f := 58) rfl ?_); refine goesL_ (some 7) rfl rfl Tryz.func58 (by kernel_rfl) rfl #[.string a0] rfl (by (try simp only [List.map_toArray, List.map_cons, List.map_nil]); first | done | rfl | (simp only [List.length_drop, List.length_take]; rfl)) ?_; (with_reducible refine (metrolabref01_size.calls a0 t115 _ A2.out).mono ?_); rintro e w' ⟨rfl, ⟨nd, rfl⟩⟩; refine ⟨_, rfl, ?_⟩))
  go_loopg [3, 5] k (fun kq v3 v5 w' => ∃ (x3_1 : Int) (x5_1 : Int), v3 = .int .i64 x3_1 ∧ v5 = .int .i64 x5_1 ∧ Aside0 (metrolabref01_number.l0 kq a0 x3_1 t115 x5_1 = some r) ∧ Aside0 (kq ≤ k) ∧ Drawn0 w w')
  case atStart => exact ⟨(0), (0), (by first | rfl | exact congrArg Value.bool (not_empty _) | exact congrArg Value.bool (is_empty _) | (simp; done) | (simp [*]; done)), (by first | rfl | exact congrArg Value.bool (not_empty _) | exact congrArg Value.bool (is_empty _) | (simp; done) | (simp [*]; done)), H', ⟨Nat.le_refl _⟩, by repeat (first | exact Drawn0.refl _ | apply Drawn0.step)⟩
  case round =>
    clear H'
    try clear p2
    obtain ⟨x3_1, x5_1, rfl, rfl, HA, HK1, ⟨m1, rfl⟩⟩ := hrel
    cases gk with
    | zero => exact absurd HA.out (by simp [metrolabref01_number.l0])
    | succ k1 =>
      have H := HA.out
      clear HA
      simp only [metrolabref01_number.l0] at H
      by_cases c3 : x5_1 < (t115.size : Int)
      · rw [if_pos c3] at H
        have c3b0 : decide (x5_1 < (t115.size : Int)) = true := decide_eq_true c3
        clear c3
        by_cases c4 : 0 ≤ x5_1
        · rw [if_pos c4] at H
          have c4b0 : decide (0 ≤ x5_1) = true := decide_eq_true c4
          clear c4
          have H' := Aside0.mk H
          clear H
          have p5 : 0 ≤ (x5_1 : Int) := of_decide_eq_true (by first | (with_reducible assumption) | assumption)
          have q5 : x5_1 < (t115.size : Int) := of_decide_eq_true (by first | (with_reducible assumption) | assumption)
          have hx5 := bt_at t115 x5_1
          replace p5 := eq_true p5
          replace q5 := eq_true q5
          go_wp2
          go_roundg k1
          case measure => have := HK1.out; omega
          case rel => exact ⟨(wrap64 ((wrap64 (10 * x3_1)) + (((bt t115 x5_1) - 48) % 256))), (wrap64 (x5_1 + 1)), (by first | rfl | exact congrArg Value.bool (not_empty _) | exact congrArg Value.bool (is_empty _) | (simp; done) | (simp [*]; done)), (by first | rfl | exact congrArg Value.bool (not_empty _) | exact congrArg Value.bool (is_empty _) | (simp; done) | (simp [*]; done)), H', ⟨by have := HK1.out; omega⟩, by repeat (first | exact Drawn0.refl _ | apply Drawn0.step)⟩
        · rw [if_neg c4] at H
          exact absurd H (by simp)
      · rw [if_neg c3] at H
        have c3b0 : decide (x5_1 < (t115.size : Int)) = false := decide_eq_false c3
        clear c3
        replace H := Option.bind_eq_some_iff.mp H
        obtain ⟨t116, A60, H⟩ := H
        replace H : (if t116 = true then (some (wrap64 (-x3_1))) else (some x3_1)) = some r := H
        have A6 := Aside0.mk A60
        clear A60
        by_cases c7 : t116 = true
        · subst c7
          have H1 : (some (wrap64 (-x3_1))) = some r := by rw [if_pos rfl] at H; exact H
          clear H
          have H := H1
          clear H1
          obtain rfl := Option.some.inj H
          go_wp2_with (first | ((with_reducible refine gate_callee (f := 59) rfl ?_); refine goesL_ (some 23) rfl rfl Tryz.func59 (by kernel_rfl) rfl #[.string a0] rfl (by (try simp only [List.map_toArray, List.map_cons, List.map_nil]); first | done | rfl | (simp only [List.length_drop, List.length_take]; rfl)) ?_; (with_reducible refine (metrolabref01_Below.calls a0 true _ A6.out).mono ?_); rintro e w' ⟨rfl, ⟨nd, rfl⟩⟩; refine ⟨_, rfl, ?_⟩))
          go_ret
          exact ⟨by first | rfl | (simp; done) | (simp [*]; done), by repeat (first | exact Drawn0.refl _ | apply Drawn0.step)⟩
        · replace c7 := Bool.eq_false_iff.mpr c7
          subst c7
          have H1 : (some x3_1) = some r := by rw [if_neg (show ¬ (false = true) by decide)] at H; exact H
          clear H
          have H := H1
          clear H1
          obtain rfl := Option.some.inj H
          go_wp2_with (first | ((with_reducible refine gate_callee (f := 59) rfl ?_); refine goesL_ (some 23) rfl rfl Tryz.func59 (by kernel_rfl) rfl #[.string a0] rfl (by (try simp only [List.map_toArray, List.map_cons, List.map_nil]); first | done | rfl | (simp only [List.length_drop, List.length_take]; rfl)) ?_; (with_reducible refine (metrolabref01_Below.calls a0 false _ A6.out).mono ?_); rintro e w' ⟨rfl, ⟨nd, rfl⟩⟩; refine ⟨_, rfl, ?_⟩))
          go_ret
          exact ⟨by first | rfl | (simp; done) | (simp [*]; done), by repeat (first | exact Drawn0.refl _ | apply Drawn0.step)⟩
def metrolabref01_brief.j0 : Nat → ByteArray → ByteArray → Bool → Option (Int × Int × Bool)
  | 0, _, _, _ => none
  | k + 1, x0, x1, x16 => if x16 = true then (some (0, 0, false)) else ((metrolabref01_number.f k x0).bind fun t119 => ((metrolabref01_number.f k x1).bind fun t120 => (some (t119, t120, true))))
def metrolabref01_brief.f (k : Nat) (a0 : ByteArray) (a1 : ByteArray) : Option (Int × Int × Bool) := (metrolabref01_size.f a0).bind fun t117 => (if (t117.size : Int) > 18 then (metrolabref01_brief.j0 k a0 a1 true) else ((metrolabref01_size.f a1).bind fun t118 => (metrolabref01_brief.j0 k a0 a1 (decide ((t118.size : Int) > 18)))))
theorem metrolabref01_brief.mono_l : ∀ k, (∀ y0 y1 y2, LeO (metrolabref01_brief.j0 k y0 y1 y2) (metrolabref01_brief.j0 (k + 1) y0 y1 y2))
  | 0 => fun _ _ _ r h => by simp [metrolabref01_brief.j0] at h
  | k + 1 => by
    have ih0 := metrolabref01_brief.mono_l k
    · intro y0 y1 y2
      unfold metrolabref01_brief.j0
      repeat' first
      | (with_reducible exact ih0 _ _ _)
      | (with_reducible exact metrolabref01_number.mono _ _)
      | (with_reducible exact LeO.refl _)
      | (with_reducible exact LeO.none _)
      | (with_reducible refine LeO.ite ?_ ?_)
      | (with_reducible refine LeO.bind ?_ (fun _ => ?_))
      | exact ih0 _ _ _
      | exact metrolabref01_number.mono _ _
      | exact LeO.none _
      | refine LeO.ite ?_ ?_
      | refine LeO.bind ?_ (fun _ => ?_)
theorem metrolabref01_brief.mono : ∀ a0 a1 k, LeO (metrolabref01_brief.f k a0 a1) (metrolabref01_brief.f (k + 1) a0 a1) := by
  intro a0 a1 k
  have ih0 := metrolabref01_brief.mono_l k
  unfold metrolabref01_brief.f
  repeat' first
      | (with_reducible exact ih0 _ _ _)
      | (with_reducible exact metrolabref01_number.mono _ _)
      | (with_reducible exact LeO.refl _)
      | (with_reducible exact LeO.none _)
      | (with_reducible refine LeO.ite ?_ ?_)
      | (with_reducible refine LeO.bind ?_ (fun _ => ?_))
      | exact ih0 _ _ _
      | exact metrolabref01_number.mono _ _
      | exact LeO.none _
      | refine LeO.ite ?_ ?_
      | refine LeO.bind ?_ (fun _ => ?_)
set_option maxHeartbeats 8000000 in
set_option maxRecDepth 100000 in
theorem metrolabref01_brief.calls (k : Nat) (a0 : ByteArray) (a1 : ByteArray) (r1 : Int) (r2 : Int) (r3 : Bool) (w : World) (h : metrolabref01_brief.f k a0 a1 = some (r1, r2, r3)) :
    Calls Tryz.prog 71 #[.string a0, .string a1] w fun e w' => e = .returned (.tuple #[.int .i64 r1, .int .i64 r2, .bool r3]) ∧ Drawn0 w w' := by
  have H : ((metrolabref01_size.f a0).bind fun t117 => (if (t117.size : Int) > 18 then (metrolabref01_brief.j0 k a0 a1 true) else ((metrolabref01_size.f a1).bind fun t118 => (metrolabref01_brief.j0 k a0 a1 (decide ((t118.size : Int) > 18)))))) = some (r1, r2, r3) := h
  clear h
  have HC3 := Aside0.mk H
  clear H
  go_enter Tryz.func71, Tryz.ntmps71
  go_upto_region 1 with (fail)
  go_cut [16] (fun v16 wc => ∃ (kq : Nat) (x16_2 : Bool), v16 = .bool x16_2 ∧ Aside0 (metrolabref01_brief.j0 kq a0 a1 x16_2 = some (r1, r2, r3)) ∧ Aside0 (kq ≤ k) ∧ Drawn0 w wc)
  case first =>
    have H := HC3.out
    clear HC3
    replace H := Option.bind_eq_some_iff.mp H
    obtain ⟨t117, A40, H⟩ := H
    replace H : (if (t117.size : Int) > 18 then (metrolabref01_brief.j0 k a0 a1 true) else ((metrolabref01_size.f a1).bind fun t118 => (metrolabref01_brief.j0 k a0 a1 (decide ((t118.size : Int) > 18))))) = some (r1, r2, r3) := H
    have A4 := Aside0.mk A40
    clear A40
    by_cases c5 : (t117.size : Int) > 18
    · rw [if_pos c5] at H
      have c5b0 : decide (18 < (t117.size : Int)) = true := decide_eq_true c5
      have c5b1 : decide (18 < t117.size) = true := decide_eq_true (by omega)
      clear c5
      (first | rw [c5b0] | (simp only [i64_w, i32_w]; rw [c5b0]) | skip)
      have H' := Aside0.mk H
      clear H
      go_wp2_with (first | ((with_reducible refine gate_callee (f := 58) rfl ?_); refine goesL_ (some 8) rfl rfl Tryz.func58 (by kernel_rfl) rfl #[.string a0] rfl (by (try simp only [List.map_toArray, List.map_cons, List.map_nil]); first | done | rfl | (simp only [List.length_drop, List.length_take]; rfl)) ?_; (with_reducible refine (metrolabref01_size.calls a0 t117 _ A4.out).mono ?_); rintro e w' ⟨rfl, ⟨nd, rfl⟩⟩; refine ⟨_, rfl, ?_⟩))
      go_meet
      case rel => exact ⟨_, (true), (by first | rfl | exact congrArg Value.bool (not_empty _) | exact congrArg Value.bool (is_empty _) | (simp; done) | (simp [*]; done)), H', ⟨by first | omega | exact Nat.le_refl _⟩, by repeat (first | exact Drawn0.refl _ | apply Drawn0.step)⟩
    · rw [if_neg c5] at H
      have c5b0 : decide (18 < (t117.size : Int)) = false := decide_eq_false c5
      have c5b1 : decide (18 < t117.size) = false := decide_eq_false (by omega)
      clear c5
      (first | rw [c5b0] | (simp only [i64_w, i32_w]; rw [c5b0]) | skip)
      replace H := Option.bind_eq_some_iff.mp H
      obtain ⟨t118, A60, H⟩ := H
      replace H : (metrolabref01_brief.j0 k a0 a1 (decide ((t118.size : Int) > 18))) = some (r1, r2, r3) := H
      have A6 := Aside0.mk A60
      clear A60
      have H' := Aside0.mk H
      clear H
      go_wp2_with (first | ((with_reducible refine gate_callee (f := 58) rfl ?_); refine goesL_ (some 8) rfl rfl Tryz.func58 (by kernel_rfl) rfl #[.string a0] rfl (by (try simp only [List.map_toArray, List.map_cons, List.map_nil]); first | done | rfl | (simp only [List.length_drop, List.length_take]; rfl)) ?_; (with_reducible refine (metrolabref01_size.calls a0 t117 _ A4.out).mono ?_); rintro e w' ⟨rfl, ⟨nd, rfl⟩⟩; refine ⟨_, rfl, ?_⟩) | (go_at_call 58; (with_reducible refine (metrolabref01_size.calls a1 t118 _ A6.out).mono ?_); rintro e w' ⟨rfl, ⟨nd, rfl⟩⟩))
      go_meet
      case rel => exact ⟨_, (decide ((t118.size : Int) > 18)), (by first | rfl | exact congrArg Value.bool (not_empty _) | exact congrArg Value.bool (is_empty _) | (simp; done) | (simp [*]; done)), H', ⟨by first | omega | exact Nat.le_refl _⟩, by repeat (first | exact Drawn0.refl _ | apply Drawn0.step)⟩
  case rest =>
    clear HC3
    try clear p2
    try clear c5
    try clear c5b0
    try clear c5b1
    obtain ⟨kq, x16_2, rfl, HA, HJ2, ⟨mc2, rfl⟩⟩ := hcut
    cases kq with
    | zero => exact absurd HA.out (by simp [metrolabref01_brief.j0])
    | succ kj2 =>
      have H := HA.out
      clear HA
      simp only [metrolabref01_brief.j0] at H
      by_cases c7 : x16_2 = true
      · subst c7
        have H1 : (some (0, 0, false)) = some (r1, r2, r3) := by rw [if_pos rfl] at H; exact H
        clear H
        have H := H1
        clear H1
        simp only [Option.some.injEq, Prod.mk.injEq] at H
        obtain ⟨rfl, rfl, rfl⟩ := H
        go_wp2
        go_ret3
        exact ⟨by first | rfl | (simp; done) | (simp [*]; done), by repeat (first | exact Drawn0.refl _ | apply Drawn0.step)⟩
      · replace c7 := Bool.eq_false_iff.mpr c7
        subst c7
        have H1 : ((metrolabref01_number.f kj2 a0).bind fun t119 => ((metrolabref01_number.f kj2 a1).bind fun t120 => (some (t119, t120, true)))) = some (r1, r2, r3) := by rw [if_neg (show ¬ (false = true) by decide)] at H; exact H
        clear H
        have H := H1
        clear H1
        replace H := Option.bind_eq_some_iff.mp H
        obtain ⟨t119, A80, H⟩ := H
        replace H : ((metrolabref01_number.f kj2 a1).bind fun t120 => (some (t119, t120, true))) = some (r1, r2, r3) := H
        have A8 := Aside0.mk A80
        clear A80
        replace H := Option.bind_eq_some_iff.mp H
        obtain ⟨t120, A90, H⟩ := H
        replace H : (some (t119, t120, true)) = some (r1, r2, r3) := H
        have A9 := Aside0.mk A90
        clear A90
        simp only [Option.some.injEq, Prod.mk.injEq] at H
        obtain ⟨rfl, rfl, rfl⟩ := H
        go_wp2_with (first | ((with_reducible refine gate_callee (f := 95) rfl ?_); refine goesL_ (some 18) rfl rfl Tryz.func95 (by kernel_rfl) rfl #[.string a0] rfl (by (try simp only [List.map_toArray, List.map_cons, List.map_nil]); first | done | rfl | (simp only [List.length_drop, List.length_take]; rfl)) ?_; (with_reducible refine (metrolabref01_number.calls kj2 a0 t119 _ A8.out).mono ?_); rintro e w' ⟨rfl, ⟨nd, rfl⟩⟩; refine ⟨_, rfl, ?_⟩) | ((with_reducible refine gate_callee (f := 95) rfl ?_); refine goesL_ (some 20) rfl rfl Tryz.func95 (by kernel_rfl) rfl #[.string a1] rfl (by (try simp only [List.map_toArray, List.map_cons, List.map_nil]); first | done | rfl | (simp only [List.length_drop, List.length_take]; rfl)) ?_; (with_reducible refine (metrolabref01_number.calls kj2 a1 t120 _ A9.out).mono ?_); rintro e w' ⟨rfl, ⟨nd, rfl⟩⟩; refine ⟨_, rfl, ?_⟩))
        go_ret3
        exact ⟨by first | rfl | (simp; done) | (simp [*]; done), by repeat (first | exact Drawn0.refl _ | apply Drawn0.step)⟩
def metrolabref01_bare.l0 : Nat → ByteArray → Option (ByteArray)
  | 0, _ => none
  | k + 1, x0 => if (x0.size : Int) > 1 then (if 0 < (x0.size : Int) then (if (bt x0 0) = 48 then (if 1 ≤ (x0.size : Int) then (metrolabref01_bare.l0 k (x0.extract 1 x0.size)) else (none)) else (some x0)) else (none)) else (some x0)
def metrolabref01_bare.f (k : Nat) (a0 : ByteArray) : Option (ByteArray) := metrolabref01_bare.l0 k a0
theorem metrolabref01_bare.mono_l : ∀ k, (∀ y0, LeO (metrolabref01_bare.l0 k y0) (metrolabref01_bare.l0 (k + 1) y0))
  | 0 => fun _ r h => by simp [metrolabref01_bare.l0] at h
  | k + 1 => by
    have ih0 := metrolabref01_bare.mono_l k
    · intro y0
      unfold metrolabref01_bare.l0
      repeat' first
      | (with_reducible exact ih0 _)
      | (with_reducible exact LeO.refl _)
      | (with_reducible exact LeO.none _)
      | (with_reducible refine LeO.ite ?_ ?_)
      | (with_reducible refine LeO.bind ?_ (fun _ => ?_))
      | exact ih0 _
      | exact LeO.none _
      | refine LeO.ite ?_ ?_
      | refine LeO.bind ?_ (fun _ => ?_)
theorem metrolabref01_bare.mono : ∀ a0 k, LeO (metrolabref01_bare.f k a0) (metrolabref01_bare.f (k + 1) a0) := by
  intro a0 k
  have ih0 := metrolabref01_bare.mono_l k
  unfold metrolabref01_bare.f
  repeat' first
      | (with_reducible exact ih0 _)
      | (with_reducible exact LeO.refl _)
      | (with_reducible exact LeO.none _)
      | (with_reducible refine LeO.ite ?_ ?_)
      | (with_reducible refine LeO.bind ?_ (fun _ => ?_))
      | exact ih0 _
      | exact LeO.none _
      | refine LeO.ite ?_ ?_
      | refine LeO.bind ?_ (fun _ => ?_)
set_option maxHeartbeats 8000000 in
set_option maxRecDepth 100000 in
theorem metrolabref01_bare.calls (k : Nat) (a0 : ByteArray) (r : ByteArray) (w : World) (h : metrolabref01_bare.f k a0 = some r) :
    Calls Tryz.prog 96 #[.string a0] w fun e w' => e = .returned (.string r) ∧ Drawn0 w w' := by
  have H : (metrolabref01_bare.l0 k a0) = some r := h
  clear h
  have H' := Aside0.mk H
  clear H
  go_enter Tryz.func96, Tryz.ntmps96
  go_wp2
  go_loopg [0] k (fun kq v0 w' => ∃ (x0_1 : ByteArray), v0 = .string x0_1 ∧ Aside0 (metrolabref01_bare.l0 kq x0_1 = some r) ∧ Aside0 (kq ≤ k) ∧ Drawn0 w w')
  case atStart => exact ⟨(a0), (by first | rfl | exact congrArg Value.bool (not_empty _) | exact congrArg Value.bool (is_empty _) | (simp; done) | (simp [*]; done)), H', ⟨Nat.le_refl _⟩, by repeat (first | exact Drawn0.refl _ | apply Drawn0.step)⟩
  case round =>
    clear H'
    obtain ⟨x0_1, rfl, HA, HK1, ⟨m1, rfl⟩⟩ := hrel
    cases gk with
    | zero => exact absurd HA.out (by simp [metrolabref01_bare.l0])
    | succ k1 =>
      have H := HA.out
      clear HA
      simp only [metrolabref01_bare.l0] at H
      by_cases c2 : (x0_1.size : Int) > 1
      · rw [if_pos c2] at H
        have c2b0 : decide (1 < (x0_1.size : Int)) = true := decide_eq_true c2
        have c2b1 : decide (1 < x0_1.size) = true := decide_eq_true (by omega)
        clear c2
        by_cases c3 : 0 < (x0_1.size : Int)
        · rw [if_pos c3] at H
          have c3b0 : decide (0 < (x0_1.size : Int)) = true := decide_eq_true c3
          have c3b1 : decide (0 < x0_1.size) = true := decide_eq_true (by omega)
          clear c3
          by_cases c5 : (bt x0_1 0) = 48
          · rw [if_pos c5] at H
            have c5b0 : ((bt x0_1 0) == 48) = true := beq_iff_eq.mpr c5
            have c5b1 : ((bt x0_1 0) != 48) = false := bne_eq_false_iff_eq.mpr c5
            clear c5
            by_cases c6 : 1 ≤ (x0_1.size : Int)
            · rw [if_pos c6] at H
              have c6b0 := eq_true c6
              have c6b1 : decide (1 ≤ (x0_1.size : Int)) = true := decide_eq_true c6
              clear c6
              have H' := Aside0.mk H
              clear H
              have p4 : 0 ≤ (0 : Int) := (by omega)
              have q4 : 0 < x0_1.size := (by have : (0 : Int) < (x0_1.size : Int) := of_decide_eq_true (by first | (with_reducible assumption) | assumption); omega)
              have hx4 : ∀ h : 0 < x0_1.size, ((x0_1[0]'h).toNat : Int) = bt x0_1 0 := bt_at x0_1 0
              clear p4
              have qi4 : (0 < (x0_1.size : Int)) = True := eq_true (of_decide_eq_true (by first | (with_reducible assumption) | assumption))
              replace q4 := eq_true q4
              go_wp2
              go_roundg k1
              case measure => have := HK1.out; omega
              case rel => exact ⟨(x0_1.extract 1 x0_1.size), (by first | rfl | exact congrArg Value.bool (not_empty _) | exact congrArg Value.bool (is_empty _) | (simp; done) | (simp [*]; done)), H', ⟨by have := HK1.out; omega⟩, by repeat (first | exact Drawn0.refl _ | apply Drawn0.step)⟩
            · rw [if_neg c6] at H
              exact absurd H (by simp)
          · rw [if_neg c5] at H
            have c5b0 : ((bt x0_1 0) == 48) = false := beq_eq_false_iff_ne.mpr c5
            have c5b1 : ((bt x0_1 0) != 48) = true := bne_iff_ne.mpr c5
            obtain rfl := Option.some.inj H
            have p4 : 0 ≤ (0 : Int) := (by omega)
            have q4 : 0 < x0_1.size := (by have : (0 : Int) < (x0_1.size : Int) := of_decide_eq_true (by first | (with_reducible assumption) | assumption); omega)
            have hx4 : ∀ h : 0 < x0_1.size, ((x0_1[0]'h).toNat : Int) = bt x0_1 0 := bt_at x0_1 0
            clear p4
            have qi4 : (0 < (x0_1.size : Int)) = True := eq_true (of_decide_eq_true (by first | (with_reducible assumption) | assumption))
            replace q4 := eq_true q4
            go_wp2
            go_ret
            exact ⟨by first | rfl | (simp; done) | (simp [*]; done), by repeat (first | exact Drawn0.refl _ | apply Drawn0.step)⟩
        · rw [if_neg c3] at H
          exact absurd H (by simp)
      · rw [if_neg c2] at H
        have c2b0 : decide (1 < (x0_1.size : Int)) = false := decide_eq_false c2
        have c2b1 : decide (1 < x0_1.size) = false := decide_eq_false (by omega)
        clear c2
        obtain rfl := Option.some.inj H
        go_wp2
        go_ret
        exact ⟨by first | rfl | (simp; done) | (simp [*]; done), by repeat (first | exact Drawn0.refl _ | apply Drawn0.step)⟩
def metrolabref01_column.j0 : Nat → Int → Option (Int × Int)
  | 0, _ => none
  | k + 1, x10 => if x10 > 9 then (some ((wrap64 ((wrap64 (48 + x10)) - 10)) % 256, 1)) else (if x10 < 0 then (some ((wrap64 ((wrap64 (48 + x10)) + 10)) % 256, 1)) else (some ((wrap64 (48 + x10)) % 256, 0)))
def metrolabref01_column.f (k : Nat) (a0 : Int) (a1 : Int) (a2 : Int) (a3 : Bool) : Option (Int × Int) := if a3 = true then (metrolabref01_column.j0 k (wrap64 ((((a0 - 48) % 256) + ((a1 - 48) % 256)) + a2))) else (metrolabref01_column.j0 k (wrap64 ((((a0 - 48) % 256) - ((a1 - 48) % 256)) - a2)))
theorem metrolabref01_column.mono_l : ∀ k, (∀ y0, LeO (metrolabref01_column.j0 k y0) (metrolabref01_column.j0 (k + 1) y0))
  | 0 => fun _ r h => by simp [metrolabref01_column.j0] at h
  | k + 1 => by
    have ih0 := metrolabref01_column.mono_l k
    · intro y0
      unfold metrolabref01_column.j0
      repeat' first
      | (with_reducible exact ih0 _)
      | (with_reducible exact LeO.refl _)
      | (with_reducible exact LeO.none _)
      | (with_reducible refine LeO.ite ?_ ?_)
      | (with_reducible refine LeO.bind ?_ (fun _ => ?_))
      | exact ih0 _
      | exact LeO.none _
      | refine LeO.ite ?_ ?_
      | refine LeO.bind ?_ (fun _ => ?_)
theorem metrolabref01_column.mono : ∀ a0 a1 a2 a3 k, LeO (metrolabref01_column.f k a0 a1 a2 a3) (metrolabref01_column.f (k + 1) a0 a1 a2 a3) := by
  intro a0 a1 a2 a3 k
  have ih0 := metrolabref01_column.mono_l k
  unfold metrolabref01_column.f
  repeat' first
      | (with_reducible exact ih0 _)
      | (with_reducible exact LeO.refl _)
      | (with_reducible exact LeO.none _)
      | (with_reducible refine LeO.ite ?_ ?_)
      | (with_reducible refine LeO.bind ?_ (fun _ => ?_))
      | exact ih0 _
      | exact LeO.none _
      | refine LeO.ite ?_ ?_
      | refine LeO.bind ?_ (fun _ => ?_)
set_option maxHeartbeats 8000000 in
set_option maxRecDepth 100000 in
theorem metrolabref01_column.calls (k : Nat) (a0 : Int) (a1 : Int) (a2 : Int) (a3 : Bool) (r1 : Int) (r2 : Int) (w : World) (h : metrolabref01_column.f k a0 a1 a2 a3 = some (r1, r2)) :
    Calls Tryz.prog 111 #[.int .u8 a0, .int .u8 a1, .int .i64 a2, .bool a3] w fun e w' => e = .returned (.tuple #[.int .u8 r1, .int .i64 r2]) ∧ Drawn0 w w' := by
  have H : (if a3 = true then (metrolabref01_column.j0 k (wrap64 ((((a0 - 48) % 256) + ((a1 - 48) % 256)) + a2))) else (metrolabref01_column.j0 k (wrap64 ((((a0 - 48) % 256) - ((a1 - 48) % 256)) - a2)))) = some (r1, r2) := h
  clear h
  have HC5 := Aside0.mk H
  clear H
  go_enter Tryz.func111, Tryz.ntmps111
  go_upto_if 20 with (fail)
  go_cut [10] (fun v10 wc => ∃ (kq : Nat) (x10_4 : Int), v10 = .int .i64 x10_4 ∧ Aside0 (metrolabref01_column.j0 kq x10_4 = some (r1, r2)) ∧ Aside0 (kq ≤ k) ∧ Drawn0 w wc)
  case first =>
    have H := HC5.out
    clear HC5
    by_cases c6 : a3 = true
    · subst c6
      have H1 : (metrolabref01_column.j0 k (wrap64 ((((a0 - 48) % 256) + ((a1 - 48) % 256)) + a2))) = some (r1, r2) := by rw [if_pos rfl] at H; exact H
      clear H
      have H := H1
      clear H1
      have H' := Aside0.mk H
      clear H
      go_wp2
      go_meet
      case rel => exact ⟨_, (wrap64 ((((a0 - 48) % 256) + ((a1 - 48) % 256)) + a2)), (by first | rfl | exact congrArg Value.bool (not_empty _) | exact congrArg Value.bool (is_empty _) | (simp; done) | (simp [*]; done)), H', ⟨by first | omega | exact Nat.le_refl _⟩, by repeat (first | exact Drawn0.refl _ | apply Drawn0.step)⟩
    · replace c6 := Bool.eq_false_iff.mpr c6
      subst c6
      have H1 : (metrolabref01_column.j0 k (wrap64 ((((a0 - 48) % 256) - ((a1 - 48) % 256)) - a2))) = some (r1, r2) := by rw [if_neg (show ¬ (false = true) by decide)] at H; exact H
      clear H
      have H := H1
      clear H1
      have H' := Aside0.mk H
      clear H
      go_wp2
      go_meet
      case rel => exact ⟨_, (wrap64 ((((a0 - 48) % 256) - ((a1 - 48) % 256)) - a2)), (by first | rfl | exact congrArg Value.bool (not_empty _) | exact congrArg Value.bool (is_empty _) | (simp; done) | (simp [*]; done)), H', ⟨by first | omega | exact Nat.le_refl _⟩, by repeat (first | exact Drawn0.refl _ | apply Drawn0.step)⟩
  case rest =>
    clear HC5
    try clear c1
    try clear p2
    try clear c6
    try clear p6
    obtain ⟨kq, x10_4, rfl, HA, HJ4, ⟨mc4, rfl⟩⟩ := hcut
    cases kq with
    | zero => exact absurd HA.out (by simp [metrolabref01_column.j0])
    | succ kj4 =>
      have H := HA.out
      clear HA
      simp only [metrolabref01_column.j0] at H
      by_cases c7 : x10_4 > 9
      · rw [if_pos c7] at H
        have c7b0 : decide (9 < x10_4) = true := decide_eq_true c7
        clear c7
        simp only [Option.some.injEq, Prod.mk.injEq] at H
        obtain ⟨rfl, rfl⟩ := H
        go_wp2
        go_ret2
        exact ⟨by first | rfl | (simp; done) | (simp [*]; done), by repeat (first | exact Drawn0.refl _ | apply Drawn0.step)⟩
      · rw [if_neg c7] at H
        have c7b0 : decide (9 < x10_4) = false := decide_eq_false c7
        clear c7
        by_cases c8 : x10_4 < 0
        · rw [if_pos c8] at H
          have c8b0 : decide (x10_4 < 0) = true := decide_eq_true c8
          clear c8
          simp only [Option.some.injEq, Prod.mk.injEq] at H
          obtain ⟨rfl, rfl⟩ := H
          go_wp2
          go_ret2
          exact ⟨by first | rfl | (simp; done) | (simp [*]; done), by repeat (first | exact Drawn0.refl _ | apply Drawn0.step)⟩
        · rw [if_neg c8] at H
          have c8b0 : decide (x10_4 < 0) = false := decide_eq_false c8
          clear c8
          simp only [Option.some.injEq, Prod.mk.injEq] at H
          obtain ⟨rfl, rfl⟩ := H
          go_wp2
          go_ret2
          exact ⟨by first | rfl | (simp; done) | (simp [*]; done), by repeat (first | exact Drawn0.refl _ | apply Drawn0.step)⟩
def metrolabref01_paper.l0 : Nat → ByteArray → ByteArray → Bool → List Int → Int → Int → Option (ByteArray)
  | 0, _, _, _, _, _, _ => none
  | k + 1, x0, x1, x2, x8, x9, x10 => if x10 ≥ 0 then (if 0 ≤ x10 then (if x10 < (x0.size : Int) then (if x10 < (x1.size : Int) then ((metrolabref01_column.f k (bt x0 x10) (bt x1 x10) x9 x2).bind fun bt126 => (if x10 < (x8.length : Int) then (metrolabref01_paper.l0 k x0 x1 x2 (x8.set (x10 : Int).toNat bt126.1) bt126.2 (wrap64 (x10 - 1))) else (none))) else (none)) else (none)) else (none)) else ((metrolabref01_bare.f k (strOfNums x8)).bind fun t129 => (some t129))
def metrolabref01_paper.f (k : Nat) (a0 : ByteArray) (a1 : ByteArray) (a2 : Bool) : Option (ByteArray) := (metrolabref01_wide.f a0 (wrap64 ((mx (a0.size : Int) (a1.size : Int)) + 1))).bind fun t121 => ((metrolabref01_wide.f a1 (wrap64 ((mx (a0.size : Int) (a1.size : Int)) + 1))).bind fun t122 => (if 0 ≤ (wrap64 ((mx (a0.size : Int) (a1.size : Int)) + 1)) then (if (wrap64 ((mx (a0.size : Int) (a1.size : Int)) + 1) : Int).toNat ≤ 281474976710656 then (metrolabref01_paper.l0 k t121 t122 a2 (List.replicate (wrap64 ((mx (a0.size : Int) (a1.size : Int)) + 1) : Int).toNat 0) 0 (wrap64 ((wrap64 ((mx (a0.size : Int) (a1.size : Int)) + 1)) - 1))) else (none)) else (none)))
theorem metrolabref01_paper.mono_l : ∀ k, (∀ y0 y1 y2 y3 y4 y5, LeO (metrolabref01_paper.l0 k y0 y1 y2 y3 y4 y5) (metrolabref01_paper.l0 (k + 1) y0 y1 y2 y3 y4 y5))
  | 0 => fun _ _ _ _ _ _ r h => by simp [metrolabref01_paper.l0] at h
  | k + 1 => by
    have ih0 := metrolabref01_paper.mono_l k
    · intro y0 y1 y2 y3 y4 y5
      unfold metrolabref01_paper.l0
      repeat' first
      | (with_reducible exact ih0 _ _ _ _ _ _)
      | (with_reducible exact metrolabref01_bare.mono _ _)
      | (with_reducible exact metrolabref01_column.mono _ _ _ _ _)
      | (with_reducible exact LeO.refl _)
      | (with_reducible exact LeO.none _)
      | (with_reducible refine LeO.ite ?_ ?_)
      | (with_reducible refine LeO.bind ?_ (fun _ => ?_))
      | exact ih0 _ _ _ _ _ _
      | exact metrolabref01_bare.mono _ _
      | exact metrolabref01_column.mono _ _ _ _ _
      | exact LeO.none _
      | refine LeO.ite ?_ ?_
      | refine LeO.bind ?_ (fun _ => ?_)
theorem metrolabref01_paper.mono : ∀ a0 a1 a2 k, LeO (metrolabref01_paper.f k a0 a1 a2) (metrolabref01_paper.f (k + 1) a0 a1 a2) := by
  intro a0 a1 a2 k
  have ih0 := metrolabref01_paper.mono_l k
  unfold metrolabref01_paper.f
  repeat' first
      | (with_reducible exact ih0 _ _ _ _ _ _)
      | (with_reducible exact metrolabref01_bare.mono _ _)
      | (with_reducible exact metrolabref01_column.mono _ _ _ _ _)
      | (with_reducible exact LeO.refl _)
      | (with_reducible exact LeO.none _)
      | (with_reducible refine LeO.ite ?_ ?_)
      | (with_reducible refine LeO.bind ?_ (fun _ => ?_))
      | exact ih0 _ _ _ _ _ _
      | exact metrolabref01_bare.mono _ _
      | exact metrolabref01_column.mono _ _ _ _ _
      | exact LeO.none _
      | refine LeO.ite ?_ ?_
      | refine LeO.bind ?_ (fun _ => ?_)
def metrolabref01_paper.T8 : Bool × List (List Nat × List Nat) := (true, [([], []), ([], []), ([], []), ([], []), ([2, 3], [2, 3]), ([], []), ([], []), ([5, 6], [5, 6]), ([], []), ([], []), ([4, 7, 8, 9], [4, 7, 8, 9]), ([10], [10]), ([11], [11]), ([11], [11]), ([0, 1, 0, 1, 2, 3, 4, 5, 6, 7, 8, 9, 10, 11, 12], [0, 1]), ([14, 12, 10, 0, 1, 2, 3, 4, 5, 6, 7, 8, 9, 10, 11, 12], [12, 14]), ([13, 15, 0, 1, 2, 3, 4, 5, 6, 7, 8, 9, 10, 11, 12, 13, 14, 15], [8, 13])])
def metrolabref01_paper.B8 : List Nat := [0, 0, 0, 0, 12, 0, 0, 96, 0, 0, 1020, 2044, 4092, 4092, 8191, 24575, 65535]
theorem metrolabref01_paper.tab8 : rtab .any (opsOf Tryz.f92 8) = metrolabref01_paper.T8 := by kernel_rfl
theorem metrolabref01_paper.bits8 : waitsOk metrolabref01_paper.T8.2 metrolabref01_paper.B8 = true := by kernel_rfl
set_option maxHeartbeats 8000000 in
set_option maxRecDepth 100000 in
theorem metrolabref01_paper.calls (k : Nat) (a0 : ByteArray) (a1 : ByteArray) (a2 : Bool) (r : ByteArray) (w : World) (h : metrolabref01_paper.f k a0 a1 a2 = some r) :
    Calls Tryz.prog 92 #[.string a0, .string a1, .bool a2] w fun e w' => e = .returned (.string r) ∧ Below w.heap.size w w' := by
  have HB := Aside0.mk (Below.refl w.heap.size w)
  have H : ((metrolabref01_wide.f a0 (wrap64 ((mx (a0.size : Int) (a1.size : Int)) + 1))).bind fun t121 => ((metrolabref01_wide.f a1 (wrap64 ((mx (a0.size : Int) (a1.size : Int)) + 1))).bind fun t122 => (if 0 ≤ (wrap64 ((mx (a0.size : Int) (a1.size : Int)) + 1)) then (if (wrap64 ((mx (a0.size : Int) (a1.size : Int)) + 1) : Int).toNat ≤ 281474976710656 then (metrolabref01_paper.l0 k t121 t122 a2 (List.replicate (wrap64 ((mx (a0.size : Int) (a1.size : Int)) + 1) : Int).toNat 0) 0 (wrap64 ((wrap64 ((mx (a0.size : Int) (a1.size : Int)) + 1)) - 1))) else (none)) else (none)))) = some r := h
  clear h
  obtain ⟨ji4, hji4⟩ : ∃ j_ : Int, (mx (a0.size : Int) (a1.size : Int)) = j_ := ⟨_, rfl⟩
  replace H : ((metrolabref01_wide.f a0 (wrap64 ((ji4) + 1))).bind fun t121 => ((metrolabref01_wide.f a1 (wrap64 ((ji4) + 1))).bind fun t122 => (if 0 ≤ (wrap64 ((ji4) + 1)) then (if (wrap64 ((ji4) + 1) : Int).toNat ≤ 281474976710656 then (metrolabref01_paper.l0 k t121 t122 a2 (List.replicate (wrap64 ((ji4) + 1) : Int).toNat 0) 0 (wrap64 ((wrap64 ((ji4) + 1)) - 1))) else (none)) else (none)))) = some r := by first | (rw [hji4] at H; exact H) | (simp only [hji4] at H ⊢; exact H)
  (try (have hji4l : 0 ≤ ji4 := by (rw [← hji4]; unfold mx; (repeat' split) <;> omega)))
  (try (have hji4m : 0 ≤ ji4 := by omega))
  have hji4_ : (if (a0.size : Int) < (a1.size : Int) then (a1.size : Int) else (a0.size : Int)) = ji4 := hji4
  rcases (Decidable.em ((a0.size : Int) < (a1.size : Int))) with hmx_ | hmx_
  all_goals (first | rw [if_pos hmx_] at hji4_ | rw [if_neg hmx_] at hji4_)
  all_goals
    replace H := Option.bind_eq_some_iff.mp H
    obtain ⟨t121, A50, H⟩ := H
    replace H : ((metrolabref01_wide.f a1 (wrap64 ((ji4) + 1))).bind fun t122 => (if 0 ≤ (wrap64 ((ji4) + 1)) then (if (wrap64 ((ji4) + 1) : Int).toNat ≤ 281474976710656 then (metrolabref01_paper.l0 k t121 t122 a2 (List.replicate (wrap64 ((ji4) + 1) : Int).toNat 0) 0 (wrap64 ((wrap64 ((ji4) + 1)) - 1))) else (none)) else (none))) = some r := H
    have A5 := Aside0.mk A50
    clear A50
    replace H := Option.bind_eq_some_iff.mp H
    obtain ⟨t122, A60, H⟩ := H
    replace H : (if 0 ≤ (wrap64 ((ji4) + 1)) then (if (wrap64 ((ji4) + 1) : Int).toNat ≤ 281474976710656 then (metrolabref01_paper.l0 k t121 t122 a2 (List.replicate (wrap64 ((ji4) + 1) : Int).toNat 0) 0 (wrap64 ((wrap64 ((ji4) + 1)) - 1))) else (none)) else (none)) = some r := H
    have A6 := Aside0.mk A60
    clear A60
    obtain ⟨ji7, hji7⟩ : ∃ j_ : Int, (wrap64 ((ji4) + 1)) = j_ := ⟨_, rfl⟩
    replace H : (if 0 ≤ (ji7) then (if (ji7 : Int).toNat ≤ 281474976710656 then (metrolabref01_paper.l0 k t121 t122 a2 (List.replicate (ji7 : Int).toNat 0) 0 (wrap64 ((ji7) - 1))) else (none)) else (none)) = some r := by first | (rw [hji7] at H; exact H) | (simp only [hji7] at H ⊢; exact H)
    (try rw [hji7] at A5)
    (try rw [hji7] at A6)
    have hji7w : (IntKind.i64.wrap ((ji4) + 1)) = ji7 := (i64_w _).trans hji7
    by_cases c8 : 0 ≤ (ji7)
    · rw [if_pos c8] at H
      have c8b0 := eq_true c8
      have c8b1 : decide (0 ≤ (ji7)) = true := decide_eq_true c8
      clear c8
      by_cases c9 : (ji7 : Int).toNat ≤ 281474976710656
      · rw [if_pos c9] at H
        have c9b0 := eq_true c9
        have c9b1 : decide ((ji7 : Int).toNat ≤ 281474976710656) = true := decide_eq_true c9
        clear c9
        obtain ⟨y123, hy123⟩ : ∃ y_ : List Int, y_ = (List.replicate (ji7 : Int).toNat 0) := ⟨_, rfl⟩
        replace H : (metrolabref01_paper.l0 k t121 t122 a2 y123 0 (wrap64 ((ji7) - 1))) = some r := by first | (rw [hy123]; with_reducible exact H) | (have H2_ := (Option.bind_some _ _).symm.trans H; rw [hy123]; with_reducible exact H2_) | (have H2_ := (Option.bind_some _ _).symm.trans H; with_reducible exact H2_) | with_reducible exact H | (rw [hy123]; exact H) | exact H
        have Ny123 := Aside0.mk hy123
        clear hy123
        have H' := Aside0.mk H
        clear H
        go_enter Tryz.func92, Tryz.ntmps92
        go_wp2_with (first | ((with_reducible refine gate_callee (f := 110) rfl ?_); refine goesL_ (some 19) rfl rfl Tryz.func110 (by kernel_rfl) rfl #[.string a0, .int .i64 ji7] rfl (by (try simp only [List.map_toArray, List.map_cons, List.map_nil]); first | done | (simp only [hji7]; rfl) | rfl | (simp only [List.length_drop, List.length_take]; rfl)) ?_; (with_reducible refine (metrolabref01_wide.calls a0 ji7 t121 _ A5.out).mono ?_); rintro e w10 ⟨rfl, hb⟩; refine ⟨_, rfl, ?_⟩; have n0_ := Aside0.mk (below_step (by repeat (first | (with_reducible first | exact HB.out | apply below_alloc | apply pw_below_drewN | apply below_drew1) | exact HB.out)) hb); clear HB; have HB := n0_; clear n0_; (try clear hb); (try clear hb2); (try clear hk); (try clear hi)) | ((with_reducible refine gate_callee (f := 110) rfl ?_); refine goesL_ (some 22) rfl rfl Tryz.func110 (by kernel_rfl) rfl #[.string a1, .int .i64 ji7] rfl (by (try simp only [List.map_toArray, List.map_cons, List.map_nil]); first | done | (simp only [hji7]; rfl) | rfl | (simp only [List.length_drop, List.length_take]; rfl)) ?_; (with_reducible refine (metrolabref01_wide.calls a1 ji7 t122 _ A6.out).mono ?_); rintro e w11 ⟨rfl, hb⟩; refine ⟨_, rfl, ?_⟩; have n0_ := Aside0.mk (below_step (by repeat (first | (with_reducible first | exact HB.out | apply below_alloc | apply pw_below_drewN | apply below_drew1) | exact HB.out)) hb); clear HB; have HB := n0_; clear n0_; (try clear hb); (try clear hb2); (try clear hk); (try clear hi)) | ((with_reducible refine gate_dst (N := 24) rfl ?_); refine Kd.R_make (Kd.int .u8) _ 5 rfl (N := 24) rfl 88 _ _ rfl ji7 rfl rfl Tryz.underlying88 (.int .u8 0) 1 info5 rfl (by decide) (by omega) 0 (ok := fun _ => True) (okp := fun _ => True) rfl (fun _ hk => hk) trivial (of_decide_eq_true (by first | (with_reducible assumption) | assumption)) (Nat.le_trans (Nat.mul_le_mul_right _ (of_decide_eq_true (by first | (with_reducible assumption) | assumption) : ji7.toNat ≤ 281474976710656)) (by omega)) (Below.refl _ _) (Nat.le_refl _) ?_; intro v124 w12 ho13 hb hg_ hnew_; clear hg_ hnew_; (first | rw [← Ny123.out] at ho13 | (simp only [Int.reduceToNat] at ho13; rw [← Ny123.out] at ho13)); have n0_ := Aside0.mk (Kd.R_lower ho13 (below_size (by repeat (first | (with_reducible first | exact HB.out | apply below_alloc | apply pw_below_drewN | apply below_drew1) | exact HB.out)))); have n1_ := Aside0.mk (below_step (by repeat (first | (with_reducible first | exact HB.out | apply below_alloc | apply pw_below_drewN | apply below_drew1) | exact HB.out)) hb); clear HB; have HO125 := n0_; have HB := n1_; clear n0_ n1_; clear hb ho13))
        go_loopg [9, 10] k (fun kq v9 v10 w' => ∃ (x8_1 : List Int) (x9_1 : Int) (x10_1 : Int), v9 = .int .i64 x9_1 ∧ v10 = .int .i64 x10_1 ∧ Aside0 (metrolabref01_paper.l0 kq t121 t122 a2 x8_1 x9_1 x10_1 = some r) ∧ Aside0 (kq ≤ k) ∧ Aside0 (Kd.R (Kd.int .u8) 5 w' w.heap.size (fun _ => True) v124 x8_1) ∧ Aside0 (Below w.heap.size w w'))
        case atStart => exact ⟨(y123), (0), (wrap64 ((ji7) - 1)), (by first | rfl | exact congrArg Value.bool (not_empty _) | exact congrArg Value.bool (is_empty _) | (simp; done) | (simp [*]; done)), (by first | rfl | (simp; done) | (simp only [← hji7] <;> (first | rfl | simp)) | (simp [*]; done)), H', ⟨Nat.le_refl _⟩, ⟨by (with_reducible repeat (first | apply Kd.R_alloc | apply Kd.R_drewN | apply Kd.R_drew)); exact HO125.out⟩, ⟨by repeat (first | (with_reducible first | exact HB.out | apply below_alloc | apply pw_below_drewN | apply below_drew1) | exact HB.out)⟩⟩
        case round =>
          clear H'
          try clear c1
          try clear p2
          try clear p6
          try clear c8
          try clear c8b0
          try clear c8b1
          try clear c9
          try clear c9b0
          try clear c9b1
          try clear c11
          obtain ⟨x8_1, x9_1, x10_1, rfl, rfl, HA, HK1, HO_8, HB⟩ := hrel
          cases gk with
          | zero => exact absurd HA.out (by simp [metrolabref01_paper.l0])
          | succ k1 =>
            have H := HA.out
            clear HA
            simp only [metrolabref01_paper.l0] at H
            by_cases c14 : x10_1 ≥ 0
            · rw [if_pos c14] at H
              have c14b0 : decide (0 ≤ x10_1) = true := decide_eq_true c14
              clear c14
              by_cases c15 : 0 ≤ x10_1
              · rw [if_pos c15] at H
                have c15b0 : decide (0 ≤ x10_1) = true := decide_eq_true c15
                clear c15
                by_cases c16 : x10_1 < (t121.size : Int)
                · rw [if_pos c16] at H
                  have c16b0 : decide (x10_1 < (t121.size : Int)) = true := decide_eq_true c16
                  clear c16
                  by_cases c18 : x10_1 < (t122.size : Int)
                  · rw [if_pos c18] at H
                    have c18b0 : decide (x10_1 < (t122.size : Int)) = true := decide_eq_true c18
                    clear c18
                    replace H := Option.bind_eq_some_iff.mp H
                    obtain ⟨⟨t126, t127⟩, A200, H⟩ := H
                    replace H : (if x10_1 < (x8_1.length : Int) then (metrolabref01_paper.l0 k1 t121 t122 a2 (x8_1.set (x10_1 : Int).toNat t126) t127 (wrap64 (x10_1 - 1))) else (none)) = some r := H
                    have A20 := Aside0.mk A200
                    clear A200
                    by_cases c21 : x10_1 < (x8_1.length : Int)
                    · rw [if_pos c21] at H
                      have c21b0 : decide (x10_1 < (x8_1.length : Int)) = true := decide_eq_true c21
                      clear c21
                      obtain ⟨y128, hy128⟩ : ∃ y_ : List Int, y_ = (x8_1.set (x10_1 : Int).toNat t126) := ⟨_, rfl⟩
                      replace H : (metrolabref01_paper.l0 k1 t121 t122 a2 y128 t127 (wrap64 (x10_1 - 1))) = some r := by first | (rw [hy128]; with_reducible exact H) | (have H2_ := (Option.bind_some _ _).symm.trans H; rw [hy128]; with_reducible exact H2_) | (have H2_ := (Option.bind_some _ _).symm.trans H; with_reducible exact H2_) | with_reducible exact H | (rw [hy128]; exact H) | exact H
                      have Ny128 := Aside0.mk hy128
                      clear hy128
                      have H' := Aside0.mk H
                      clear H
                      try go_wp2
                      have n0_ := Aside0.mk (Kd.R_drew HO_8.out)
                      have n1_ := Aside0.mk (below_drew1 HB.out)
                      clear HO_8
                      clear HB
                      have HO_8 := n0_
                      have HB := n1_
                      clear n0_ n1_
                      have p17 : 0 ≤ (x10_1 : Int) := of_decide_eq_true (by first | (with_reducible assumption) | assumption)
                      have q17 : x10_1 < (t121.size : Int) := of_decide_eq_true (by first | (with_reducible assumption) | assumption)
                      have hx17 := bt_at t121 x10_1
                      replace p17 := eq_true p17
                      replace q17 := eq_true q17
                      have p19 : 0 ≤ (x10_1 : Int) := of_decide_eq_true (by first | (with_reducible assumption) | assumption)
                      have q19 : x10_1 < (t122.size : Int) := of_decide_eq_true (by first | (with_reducible assumption) | assumption)
                      have hx19 := bt_at t122 x10_1
                      replace p19 := eq_true p19
                      replace q19 := eq_true q19
                      refine start_ (n := 17) (S := fun w' => True) (ds := [15]) #[false, false, false, false, false, false, false, false, false, false, false, false, false, false, false, false, false] (by kernel_rfl) rfl rfl trivial (fun hHeld => ?_); refine with_tabW metrolabref01_paper.tab8 metrolabref01_paper.bits8 (fun HT_ HW_ => ?_)
                      generalize wr.drew = w23 at HO_8 HB hHeld ⊢
                      refine pure_ (i := 0) (N := some 32) (v := ?_) (a' := ?_) #[true, false, false, false, false, false, false, false, false, false, false, false, false, false, false, false, false] rfl rfl (any_of HT_.out (by kernel_rfl)) (fun _ _ _ h => h) (Or.inl ⟨by rfl, ?_⟩) ?_ ?_
                      rotate_left
                      · intro w'
                        go_simp
                        with_reducible rfl
                      rotate_left
                      · simp only [Act.put, List.setIfInBounds_toArray, List.set_cons_zero, List.set_cons_succ, i64_w, i32_w]
                        rfl
                      refine pure_ (i := 1) (N := some 33) (v := ?_) (a' := ?_) #[true, true, false, false, false, false, false, false, false, false, false, false, false, false, false, false, false] rfl rfl (any_of HT_.out (by kernel_rfl)) (fun _ _ _ h => h) (Or.inl ⟨by rfl, ?_⟩) ?_ ?_
                      rotate_left
                      · intro w'
                        go_simp
                        with_reducible rfl
                      rotate_left
                      · simp only [Act.put, List.setIfInBounds_toArray, List.set_cons_zero, List.set_cons_succ, i64_w, i32_w]
                        rfl
                      refine pure_ (i := 2) (N := some 34) (v := ?_) (a' := ?_) #[true, true, true, false, false, false, false, false, false, false, false, false, false, false, false, false, false] rfl rfl (any_of HT_.out (by kernel_rfl)) (fun _ _ _ h => h) (Or.inl ⟨by rfl, ?_⟩) ?_ ?_
                      rotate_left
                      · intro w'
                        go_simp
                        with_reducible rfl
                      rotate_left
                      · simp only [Act.put, List.setIfInBounds_toArray, List.set_cons_zero, List.set_cons_succ, i64_w, i32_w]
                        rfl
                      refine pure_ (i := 3) (N := some 35) (v := ?_) (a' := ?_) #[true, true, true, true, false, false, false, false, false, false, false, false, false, false, false, false, false] rfl rfl (any_of HT_.out (by kernel_rfl)) (fun _ _ _ h => h) (Or.inl ⟨by rfl, ?_⟩) ?_ ?_
                      rotate_left
                      · intro w'
                        go_simp
                        with_reducible rfl
                      rotate_left
                      · simp only [Act.put, List.setIfInBounds_toArray, List.set_cons_zero, List.set_cons_succ, i64_w, i32_w]
                        rfl
                      refine pure_ (i := 5) (N := some 37) (v := ?_) (a' := ?_) #[true, true, true, true, false, true, false, false, false, false, false, false, false, false, false, false, false] rfl rfl (any_of HT_.out (by kernel_rfl)) (fun _ _ _ h => h) (Or.inl ⟨by rfl, ?_⟩) ?_ ?_
                      rotate_left
                      · intro w'
                        go_simp
                        with_reducible rfl
                      rotate_left
                      · simp only [Act.put, List.setIfInBounds_toArray, List.set_cons_zero, List.set_cons_succ, i64_w, i32_w]
                        rfl
                      refine pure_ (i := 6) (N := some 38) (v := ?_) (a' := ?_) #[true, true, true, true, false, true, true, false, false, false, false, false, false, false, false, false, false] rfl rfl (any_of HT_.out (by kernel_rfl)) (fun _ _ _ h => h) (Or.inl ⟨by rfl, ?_⟩) ?_ ?_
                      rotate_left
                      · intro w'
                        go_simp
                        with_reducible rfl
                      rotate_left
                      · simp only [Act.put, List.setIfInBounds_toArray, List.set_cons_zero, List.set_cons_succ, i64_w, i32_w]
                        rfl
                      refine pure_ (i := 8) (N := some 40) (v := ?_) (a' := ?_) #[true, true, true, true, false, true, true, false, true, false, false, false, false, false, false, false, false] rfl rfl (any_of HT_.out (by kernel_rfl)) (fun _ _ _ h => h) (Or.inl ⟨by rfl, ?_⟩) ?_ ?_
                      rotate_left
                      · intro w'
                        go_simp
                        with_reducible rfl
                      rotate_left
                      · simp only [Act.put, List.setIfInBounds_toArray, List.set_cons_zero, List.set_cons_succ, i64_w, i32_w]
                        rfl
                      refine pure_ (i := 9) (N := some 41) (v := ?_) (a' := ?_) #[true, true, true, true, false, true, true, false, true, true, false, false, false, false, false, false, false] rfl rfl (any_of HT_.out (by kernel_rfl)) (fun _ _ _ h => h) (Or.inl ⟨by rfl, ?_⟩) ?_ ?_
                      rotate_left
                      · intro w'
                        go_simp
                        with_reducible rfl
                      rotate_left
                      · simp only [Act.put, List.setIfInBounds_toArray, List.set_cons_zero, List.set_cons_succ, i64_w, i32_w]
                        rfl
                      refine take_ (i := 4) (N := some 36) (v := ?_) (a' := ?_) #[true, true, true, true, true, true, true, false, true, true, false, false, false, false, false, false, false] rfl rfl (take_ofW HT_.out HW_.out (by kernel_rfl)) (fun _ _ _ h => h) (Or.inl ⟨by rfl, ?_⟩) hHeld ?_ ?_
                      rotate_left
                      · intro w' _
                        go_simp
                        with_reducible rfl
                      rotate_left
                      · simp only [Act.put, List.setIfInBounds_toArray, List.set_cons_zero, List.set_cons_succ, i64_w, i32_w]
                        rfl
                      refine take_ (i := 7) (N := some 39) (v := ?_) (a' := ?_) #[true, true, true, true, true, true, true, true, true, true, false, false, false, false, false, false, false] rfl rfl (take_ofW HT_.out HW_.out (by kernel_rfl)) (fun _ _ _ h => h) (Or.inl ⟨by rfl, ?_⟩) hHeld ?_ ?_
                      rotate_left
                      · intro w' _
                        go_simp
                        with_reducible rfl
                      rotate_left
                      · simp only [Act.put, List.setIfInBounds_toArray, List.set_cons_zero, List.set_cons_succ, i64_w, i32_w]
                        rfl
                      refine one_ (i := 10) (N := some 42) #[true, true, true, true, true, true, true, true, true, true, true, false, false, false, false, false, false] rfl rfl (one_of HT_.out (by kernel_rfl)) (by decide) (fun K hK => ?_)
                      refine goes_ Tryz.func111 (by kernel_rfl) rfl #[.int .u8 (bt t121 x10_1), .int .u8 (bt t122 x10_1), .int .i64 x9_1, .bool a2] (by rfl) rfl rfl (by (try simp only [List.map_toArray, List.map_cons, List.map_nil]); first | done | rfl | (simp only [List.length_drop, List.length_take]; rfl)) ?_
                      with_reducible refine (metrolabref01_column.calls k1 (bt t121 x10_1) (bt t122 x10_1) x9_1 a2 t126 t127 _ A20.out).mono ?_
                      rintro e w' ⟨rfl, ⟨nd, rfl⟩⟩
                      refine ⟨_, rfl, ?_⟩
                      have p22 : 0 ≤ (x10_1 : Int) := of_decide_eq_true (by first | (with_reducible assumption) | assumption)
                      have q22 : (x10_1 : Int) < ((x8_1.length : Int) : Int) := of_decide_eq_true (by first | (with_reducible assumption) | assumption)
                      obtain ⟨go22, co22, eo22, gb22, gl22, cl22, HG22⟩ := Kd.R_form HO_8.out (by omega)
                      (first | cases eo22 | (injection eo22 with ea_ en_ ec_; (first | subst ea_ | (injection ea_ with ea_; subst ea_)); subst ec_; clear en_))
                      have GB22 := Aside0.mk gb22
                      have GG22 := Aside0.mk HG22
                      clear gb22 gl22 HG22
                      obtain ⟨hx22_0, hf22_0⟩ := Kd.R_celln 0 HO_8.out (x10_1 : Int) p22 q22
                      replace p22 := eq_true p22
                      replace q22 := eq_true q22
                      have HP24 := Kd.R_putn HO_8.out (x10_1 : Int) t126
                      rw [← Ny128.out] at HP24
                      have HQ24 := Aside0.mk HP24
                      clear HP24
                      refine hK.out _ _ trivial (fun hHeld => ?_)
                      clear hK K
                      refine norm_ (a' := ?_) ?_ ?_
                      rotate_left
                      · show Act.put _ (some 42) _ = _
                        simp only [Act.put, List.setIfInBounds_toArray, List.set_cons_zero, List.set_cons_succ, i64_w, i32_w]
                        rfl
                      refine pure_ (i := 11) (N := some 31) (v := ?_) (a' := ?_) #[true, true, true, true, true, true, true, true, true, true, true, true, false, false, false, false, false] rfl rfl (any_of HT_.out (by kernel_rfl)) (fun _ _ _ h => h) (Or.inl ⟨by rfl, ?_⟩) ?_ ?_
                      rotate_left
                      · intro w'
                        go_simp
                        with_reducible rfl
                      rotate_left
                      · simp only [Act.put, List.setIfInBounds_toArray, List.set_cons_zero, List.set_cons_succ, i64_w, i32_w]
                        rfl
                      refine pure_ (i := 12) (N := some 43) (v := ?_) (a' := ?_) #[true, true, true, true, true, true, true, true, true, true, true, true, true, false, false, false, false] rfl rfl (any_of HT_.out (by kernel_rfl)) (fun _ _ _ h => h) (Or.inl ⟨by rfl, ?_⟩) ?_ ?_
                      rotate_left
                      · intro w'
                        go_simp
                        with_reducible rfl
                      rotate_left
                      · simp only [Act.put, List.setIfInBounds_toArray, List.set_cons_zero, List.set_cons_succ, i64_w, i32_w]
                        rfl
                      refine pure_ (i := 13) (N := some 44) (v := ?_) (a' := ?_) #[true, true, true, true, true, true, true, true, true, true, true, true, true, true, false, false, false] rfl rfl (any_of HT_.out (by kernel_rfl)) (fun _ _ _ h => h) (Or.inl ⟨by rfl, ?_⟩) ?_ ?_
                      rotate_left
                      · intro w'
                        go_simp
                        with_reducible rfl
                      rotate_left
                      · simp only [Act.put, List.setIfInBounds_toArray, List.set_cons_zero, List.set_cons_succ, i64_w, i32_w]
                        rfl
                      refine pure_ (i := 14) (N := some 45) (v := ?_) (a' := ?_) #[true, true, true, true, true, true, true, true, true, true, true, true, true, true, true, false, false] rfl rfl (any_of HT_.out (by kernel_rfl)) (fun _ _ _ h => h) (Or.inl ⟨by rfl, ?_⟩) ?_ ?_
                      rotate_left
                      · intro w'
                        go_simp
                        with_reducible rfl
                      rotate_left
                      · simp only [Act.put, List.setIfInBounds_toArray, List.set_cons_zero, List.set_cons_succ, i64_w, i32_w]
                        rfl
                      refine last_ (i := 15) (N := none) #[true, true, true, true, true, true, true, true, true, true, true, true, true, true, true, true, false] rfl rfl (one_of HT_.out (by kernel_rfl)) (by decide) (fun K hK => ?_)
                      refine skip_ (w1 := ?_) (by rfl) rfl ?_ ?_
                      rotate_left
                      · go_simp
                        rfl
                      refine hK.out _ _ ?_
                      clear hK K
                      refine pure_ (i := 16) (N := some 9) (v := ?_) (a' := ?_) #[true, true, true, true, true, true, true, true, true, true, true, true, true, true, true, true, true] rfl rfl (any_of HT_.out (by kernel_rfl)) (fun _ _ _ h => h) (Or.inl ⟨by rfl, ?_⟩) ?_ ?_
                      rotate_left
                      · intro w'
                        go_simp
                        with_reducible rfl
                      rotate_left
                      · simp only [Act.put, List.setIfInBounds_toArray, List.set_cons_zero, List.set_cons_succ, i64_w, i32_w]
                        rfl
                      refine done_ (done_of HT_.out (by kernel_rfl)) ?_
                      try go_wp2
                      go_roundg k1
                      case measure => have := HK1.out; omega
                      case rel => exact ⟨(y128), (t127), (wrap64 (x10_1 - 1)), (by first | rfl | exact congrArg Value.bool (not_empty _) | exact congrArg Value.bool (is_empty _) | (simp; done) | (simp [*]; done)), (by first | rfl | exact congrArg Value.bool (not_empty _) | exact congrArg Value.bool (is_empty _) | (simp; done) | (simp [*]; done)), H', ⟨by have := HK1.out; omega⟩, ⟨by (with_reducible repeat (first | apply Kd.R_alloc | apply Kd.R_drewN | apply Kd.R_drew)); first | exact HQ24.out | (simp only [wrap_mod]; exact HQ24.out)⟩, ⟨by repeat (first | (with_reducible first | exact HB.out | apply below_alloc | apply pw_below_drewN | apply below_drew1 | refine below_set ?_ GB22.out) | exact HB.out)⟩⟩
                    · rw [if_neg c21] at H
                      exact absurd H (by simp)
                  · rw [if_neg c18] at H
                    exact absurd H (by simp)
                · rw [if_neg c16] at H
                  exact absurd H (by simp)
              · rw [if_neg c15] at H
                exact absurd H (by simp)
            · rw [if_neg c14] at H
              have c14b0 : decide (0 ≤ x10_1) = false := decide_eq_false c14
              clear c14
              replace H := Option.bind_eq_some_iff.mp H
              obtain ⟨t129, A250, H⟩ := H
              replace H : (some t129) = some r := H
              have A25 := Aside0.mk A250
              clear A250
              obtain rfl := Option.some.inj H
              have hcv26 := own_string (P := Tryz.prog) Tryz.underlying88 Tryz.underlying5 Tryz.underlying9 (Kd.own_of_R HO_8.out)
              go_wp2_with (first | ((with_reducible refine gate_callee (f := 96) rfl ?_); refine goesL_ (some 48) rfl rfl Tryz.func96 (by kernel_rfl) rfl #[.string (strOfNums x8_1)] rfl (by (try simp only [List.map_toArray, List.map_cons, List.map_nil]); first | done | rfl | (simp only [List.length_drop, List.length_take]; rfl)) ?_; (with_reducible refine (metrolabref01_bare.calls k1 (strOfNums x8_1) t129 _ A25.out).mono ?_); rintro e w' ⟨rfl, ⟨nd, rfl⟩⟩; refine ⟨_, rfl, ?_⟩))
              go_ret
              exact ⟨by first | rfl | (simp [errW_none, errW_some] <;> rfl) | (simp only [← hji4, ← hji7]; first | rfl | (simp [errW_none, errW_some] <;> rfl)) | (simp [*, errW_none, errW_some] <;> rfl), by repeat (first | (with_reducible first | exact HB.out | apply below_alloc | apply pw_below_drewN | apply below_drew1) | exact HB.out)⟩
      · rw [if_neg c9] at H
        exact absurd H (by simp)
    · rw [if_neg c8] at H
      exact absurd H (by simp)
def metrolabref01_less.f (a0 : ByteArray) (a1 : ByteArray) : Option (Bool) := if (a0.size : Int) < (a1.size : Int) then (some true) else (if (a0.size : Int) = (a1.size : Int) then (some (Op.bytesLess a0.toList a1.toList)) else (some false))
set_option maxHeartbeats 8000000 in
set_option maxRecDepth 100000 in
theorem metrolabref01_less.calls (a0 : ByteArray) (a1 : ByteArray) (r : Bool) (w : World) (h : metrolabref01_less.f a0 a1 = some r) :
    Calls Tryz.prog 93 #[.string a0, .string a1] w fun e w' => e = .returned (.bool r) ∧ Drawn0 w w' := by
  have H : (if (a0.size : Int) < (a1.size : Int) then (some true) else (if (a0.size : Int) = (a1.size : Int) then (some (Op.bytesLess a0.toList a1.toList)) else (some false))) = some r := h
  clear h
  by_cases c3 : (a0.size : Int) < (a1.size : Int)
  · rw [if_pos c3] at H
    have c3b0 : decide ((a0.size : Int) < (a1.size : Int)) = true := decide_eq_true c3
    have c3b1 : decide (a0.size < a1.size) = true := decide_eq_true (Int.ofNat_lt.mp c3)
    clear c3
    obtain rfl := Option.some.inj H
    go_enter Tryz.func93, Tryz.ntmps93
    go_wp2
    go_ret
    exact ⟨by first | rfl | (simp; done) | (simp [*]; done), by repeat (first | exact Drawn0.refl _ | apply Drawn0.step)⟩
  · rw [if_neg c3] at H
    have c3b0 : decide ((a0.size : Int) < (a1.size : Int)) = false := decide_eq_false c3
    have c3b1 : decide (a0.size < a1.size) = false := decide_eq_false (fun h => c3 (Int.ofNat_lt.mpr h))
    clear c3
    by_cases c4 : (a0.size : Int) = (a1.size : Int)
    · rw [if_pos c4] at H
      have c4b0 : ((a0.size : Int) == (a1.size : Int)) = true := beq_iff_eq.mpr c4
      have c4b1 : ((a0.size : Int) != (a1.size : Int)) = false := bne_eq_false_iff_eq.mpr c4
      have c4b2 : (a0.size == a1.size) = true := by first | simpa using c4 | (simp at c4 ⊢; omega)
      clear c4
      obtain rfl := Option.some.inj H
      go_enter Tryz.func93, Tryz.ntmps93
      go_wp2
      go_ret
      exact ⟨by first | rfl | (simp; done) | (simp [*]; done), by repeat (first | exact Drawn0.refl _ | apply Drawn0.step)⟩
    · rw [if_neg c4] at H
      have c4b0 : ((a0.size : Int) == (a1.size : Int)) = false := beq_eq_false_iff_ne.mpr c4
      have c4b1 : ((a0.size : Int) != (a1.size : Int)) = true := bne_iff_ne.mpr c4
      have c4b2 : (a0.size == a1.size) = false := by first | simpa using c4 | (simp at c4 ⊢; omega)
      obtain rfl := Option.some.inj H
      go_enter Tryz.func93, Tryz.ntmps93
      go_wp2
      go_ret
      exact ⟨by first | rfl | (simp; done) | (simp [*]; done), by repeat (first | exact Drawn0.refl _ | apply Drawn0.step)⟩
end Go.Proofs.YtpkfnclbcmnckaaGreatDoor.ZP
