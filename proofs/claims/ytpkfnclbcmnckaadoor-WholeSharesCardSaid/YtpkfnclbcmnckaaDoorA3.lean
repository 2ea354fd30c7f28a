/- The walk of awake: the examples of the chapter. -/
import Derived.Test.YtpkfnclbcmnckaaDoorZB1m
import Derived.Test.YtpkfnclbcmnckaaDoorA2
/- What the functions of whole answer, over whole numbers. -/
set_option linter.unusedVariables false
namespace Go.Proofs.YtpkfnclbcmnckaaDoor
open Go Go.RowKit Go.Proofs.YtpkfnclbcmnckaaDoor.Dec Go.Proofs.YtpkfnclbcmnckaaDoor.Mem Go.Proofs.YtpkfnclbcmnckaaDoor.Wid Go.Proofs.YtpkfnclbcmnckaaDoorW.PrintWords

def sgn (z : Int) : Int := if z = 0 then 0 else if z < 0 then -1 else 1
def cmpI (x y : Int) : Int := if x < y then -1 else if y < x then 1 else 0
theorem zero_list {s : ByteArray} (h : chk s = 0) : s.data.toList = [48] ↔ iv s = 0 := (ival_eq_zero (chk_zero h).1).symm
theorem head_neg {s : ByteArray} (h : chk s = 0) : s.data.toList.head? = some 45 ↔ iv s < 0 := by
  rw [← head_itoa (iv s)]
  unfold iv
  rw [itoa_ival (chk_zero h).1]
theorem ne_nil {s : ByteArray} (h : chk s = 0) : s.data.toList ≠ [] := by
  intro e
  have := (chk_zero h).1.1.1
  rw [e] at this
  exact this rfl
theorem size_pos {s : ByteArray} (h : chk s = 0) : 0 < s.size := by
  rw [size_list]; exact List.length_pos_iff.2 (ne_nil h)
theorem first_byte {s : ByteArray} (h : chk s = 0) : bt s 0 = 45 ↔ iv s < 0 := by
  have hb := bt_nat s 0
  rw [show bt s 0 = _ from hb, ← head_neg h]
  cases hl : s.data.toList with
  | nil => exact absurd hl (ne_nil h)
  | cons c t =>
    rw [List.getD_cons_zero, List.head?_cons]
    constructor
    · intro e
      have : c.toNat = 45 := by omega
      rw [u8_toNat (this.trans (show 45 = (45 : UInt8).toNat from rfl))]
    · intro e
      obtain rfl := Option.some.inj e
      rfl
theorem sign_is {s : ByteArray} (h : chk s = 0) : ZB.whole_sign.f s = some (sgn (iv s)) := by
  unfold ZB.whole_sign.f sgn
  rw [toL]
  by_cases h0 : iv s = 0
  · rw [if_pos ((zero_list h).2 h0), if_pos h0]
  · rw [if_neg (fun k => h0 ((zero_list h).1 k)), if_neg h0, if_pos (by have := size_pos h; omega)]
    by_cases h1 : iv s < 0
    · rw [if_pos ((first_byte h).2 h1), if_pos h1]
    · rw [if_neg (fun k => h1 ((first_byte h).1 k)), if_neg h1]
theorem list_of {s : ByteArray} (h : chk s = 0) : s.data.toList = Lib.itoa (iv s) := (itoa_ival (chk_zero h).1).symm
theorem opposite_is {s : ByteArray} (h : chk s = 0) : ZB.whole_opposite.f s = some (dec (-iv s)) := by
  unfold ZB.whole_opposite.f
  rw [sign_is h, Option.bind_some]
  have hsz := size_chk h
  have hl := list_of h
  unfold sgn
  by_cases h0 : iv s = 0
  · rw [if_pos h0, if_pos rfl]
    congr 1
    refine bytes_ext ?_
    rw [dec_list, hl, h0]; rfl
  · rw [if_neg h0]
    by_cases h1 : iv s < 0
    · rw [if_pos h1, if_neg (by decide), if_neg (by decide), if_pos (by have := size_pos h; omega)]
      congr 1
      refine bytes_ext ?_
      rw [dec_list, Lib.extract_to_end, hl]
      unfold Lib.itoa
      rw [if_pos h1, if_neg (by omega), List.drop_one, List.tail_cons]
      congr 1
      omega
    · rw [if_neg h1, if_neg (by decide), if_pos rfl, if_pos (by omega)]
      congr 1
      refine bytes_ext ?_
      rw [ByteArray.data_append, Array.toList_append, dec_list, hl]
      unfold Lib.itoa
      rw [if_neg h1, if_pos (by omega)]
      show [45] ++ _ = _
      rw [List.singleton_append]
      congr 2
      omega
theorem chk_neg {s : ByteArray} (h : chk s = 0) : chk (dec (-iv s)) = 0 := by
  have h2 : chk (dec (iv s)) = 0 := by rw [dec_iv (chk_zero h).1]; exact h
  rw [chk_dec] at h2 ⊢
  rwa [Int.natAbs_neg]

def two (a b : ByteArray) (z : Int) : ByteArray × Int := if errs [a, b] = 0 then lim z else (⟨#[]⟩, errs [a, b])
theorem all_is (a b : ByteArray) (ha : a.size ≤ 9223372036854775807) (hb : b.size ≤ 9223372036854775807) : whole_all.f [a, b] = some (errs [a, b]) := if_pos ⟨by simp, by simp [ha, hb]⟩
theorem total2 (a b : ByteArray) : total [a, b] = iv a + iv b := by simp [total]
theorem add_is (a b : ByteArray) (ha : a.size ≤ 9223372036854775807) (hb : b.size ≤ 9223372036854775807) : ZB.whole_Add.f a b = some (two a b (iv a + iv b)) := by
  unfold ZB.whole_Add.f two
  rw [all_is a b ha hb, Option.bind_some]
  by_cases h0 : errs [a, b] = 0
  · rw [if_pos h0, if_pos h0]
    obtain ⟨ca, cb⟩ := errs2 h0
    unfold whole_small.f
    by_cases hs : 9 < a.size ∨ 9 < b.size
    · rw [if_pos hs, Option.bind_some, if_neg (by decide)]
      have : whole_sum.f [a, b] = some (lim (total [a, b])) := if_pos ⟨by simp, by simp [ca, cb]⟩
      rw [this, Option.bind_some, total2]
    · rw [if_neg hs, if_pos ⟨ca, cb⟩, Option.bind_some, if_pos rfl]
      have sa := iv_small (chk_zero ca).1 (by omega)
      have sb := iv_small (chk_zero cb).1 (by omega)
      show (whole_result.f (wrap64 (iv a + iv b))).bind _ = _
      rw [IntWalk.wrap64_in _ (by omega)]
      unfold whole_result.f
      rw [if_pos (by omega), Option.bind_some, lim_small (n := 10) (by rw [show (10 : Nat) ^ 10 = 10000000000 from rfl]; omega) (by decide)]
  · rw [if_neg h0, if_neg h0]
theorem errs_cons0 {a : ByteArray} {l : List ByteArray} (h : chk a = 0) : errs (a :: l) = errs l := if_pos h
theorem errs_neg (a b : ByteArray) (h : errs [a, b] = 0) : errs [a, dec (-iv b)] = 0 := by
  obtain ⟨ca, cb⟩ := errs2 h
  rw [errs_cons0 ca, errs_cons0 (chk_neg cb)]
  rfl
theorem sub_is (a b : ByteArray) (ha : a.size ≤ 9223372036854775807) (hb : b.size ≤ 9223372036854775807) : ZB.whole_Sub.f a b = some (two a b (iv a - iv b)) := by
  unfold ZB.whole_Sub.f
  rw [all_is a b ha hb, Option.bind_some]
  unfold two
  by_cases h0 : errs [a, b] = 0
  · rw [if_pos h0, if_pos h0]
    obtain ⟨ca, cb⟩ := errs2 h0
    rw [opposite_is cb, Option.bind_some, add_is a _ ha (Nat.le_trans (size_chk (chk_neg cb)) (by decide)), Option.bind_some]
    unfold two
    rw [if_pos (errs_neg a b h0), iv_dec, Int.sub_eq_add_neg]
  · rw [if_neg h0, if_neg h0]
def quoS (a b : ByteArray) : ByteArray × Int := if errs [a, b] = 0 then (if iv b = 0 then (⟨#[]⟩, 10) else lim ((iv a).fdiv (iv b))) else (⟨#[]⟩, errs [a, b])
def remS (a b : ByteArray) : ByteArray × Int := if errs [a, b] = 0 then (if iv b = 0 then (⟨#[]⟩, 10) else (dec ((iv a).fmod (iv b)), 0)) else (⟨#[]⟩, errs [a, b])
theorem quo_abs (x y : Int) (hy : y ≠ 0) : (x.fdiv y).natAbs ≤ x.natAbs + 1 := by
  obtain ⟨p1, p2⟩ := parted_long x y hy
  have hd : x.natAbs / y.natAbs ≤ x.natAbs := Nat.div_le_self _ _
  generalize x.natAbs / y.natAbs = q at *
  by_cases h : 0 < x.natAbs % y.natAbs ∧ decide (x < 0) ≠ decide (y < 0)
  · rw [(p1 h).1]
    unfold sv
    rw [if_pos rfl]
    omega
  · rw [(p2 h).1]
    unfold sv
    split <;> omega
theorem dec_small {z : Int} (h : z.natAbs < B ^ 115) : (dec z).size ≤ 9223372036854775807 := by
  have h1 := mag_ge (dec z).data.toList
  have h2 : (mag (dec z).data.toList).length ≤ 9 * 115 := by
    rw [dec_list, mag_itoa, Lib.decDigits_length, nDigits_le_iff _ _ (by decide), ← B_pow 115]
    exact h
  rw [size_list]
  omega
theorem lt_115 {v : Nat} (h : v < B ^ 114) : v + 1 < B ^ 115 := by
  have h1 : B ^ 115 = B ^ 114 * B := by rw [← Nat.pow_succ]
  have h2 : B ^ 114 * 2 ≤ B ^ 114 * B := Nat.mul_le_mul_left _ (by decide)
  omega
theorem quo_is (a b : ByteArray) (ha : a.size ≤ 9223372036854775807) (hb : b.size ≤ 9223372036854775807) : ZB.whole_Quo.f a b = some (quoS a b) := by
  unfold ZB.whole_Quo.f whole_parted.f
  rw [if_pos ⟨ha, hb⟩, Option.bind_some]
  unfold partedS quoS
  by_cases h0 : errs [a, b] = 0
  · rw [if_pos h0, if_pos h0]
    obtain ⟨ca, cb⟩ := errs2 h0
    by_cases hz : iv b = 0
    · rw [if_pos hz, if_pos hz, if_neg (by decide)]
    · rw [if_neg hz, if_neg hz, if_pos rfl]
      have hq : (dec ((iv a).fdiv (iv b))).size ≤ 9223372036854775807 := dec_small (Nat.lt_of_le_of_lt (quo_abs _ _ hz) (lt_115 (iv_chk ca)))
      unfold whole_Check.f
      show (if (dec ((iv a).fdiv (iv b))).size ≤ 9223372036854775807 then some (chk (dec ((iv a).fdiv (iv b)))) else none).bind _ = _
      rw [if_pos hq, Option.bind_some]
      unfold lim
      rcases chk_dec_or ((iv a).fdiv (iv b)) with h | h
      · rw [if_pos h, if_pos h]
      · rw [h, if_neg (by decide), if_neg (by decide)]
  · rw [if_neg h0, if_neg h0, if_neg h0]
theorem rem_is (a b : ByteArray) (ha : a.size ≤ 9223372036854775807) (hb : b.size ≤ 9223372036854775807) : ZB.whole_Rem.f a b = some (remS a b) := by
  unfold ZB.whole_Rem.f whole_parted.f
  rw [if_pos ⟨ha, hb⟩, Option.bind_some]
  unfold partedS remS
  by_cases h0 : errs [a, b] = 0
  · rw [if_pos h0, if_pos h0]
    by_cases hz : iv b = 0
    · rw [if_pos hz, if_pos hz]
    · rw [if_neg hz, if_neg hz]
  · rw [if_neg h0, if_neg h0]
def totalS (l : List ByteArray) : ByteArray × Int := if 4096 < l.length then (⟨#[]⟩, 5) else if errs l = 0 then lim (total l) else (⟨#[]⟩, errs l)
theorem errs_all : ∀ {l : List ByteArray}, errs l = 0 → ∀ s ∈ l, chk s = 0
  | [], _, s, hs => absurd hs (by simp)
  | a :: l, h, s, hs => by
    by_cases ha : chk a = 0
    · rw [errs_cons0 ha] at h
      rcases List.mem_cons.1 hs with rfl | hs
      · exact ha
      · exact errs_all h s hs
    · unfold errs at h
      rw [if_neg ha] at h
      exact absurd h ha
theorem total_is (l : List ByteArray) (hl : ∀ s ∈ l, s.size ≤ 9223372036854775807) : ZB.whole_Total.f l = some (totalS l) := by
  unfold ZB.whole_Total.f totalS
  by_cases h4 : 4096 < l.length
  · rw [if_pos (by omega), if_pos h4]
  · rw [if_neg (by omega), if_neg h4]
    have e : whole_all.f l = some (errs l) := if_pos ⟨by omega, hl⟩
    rw [e, Option.bind_some]
    by_cases h0 : errs l = 0
    · have e2 : whole_sum.f l = some (lim (total l)) := if_pos ⟨by omega, errs_all h0⟩
      rw [if_pos h0, if_pos h0, e2, Option.bind_some]
    · rw [if_neg h0, if_neg h0]
def negS (a : ByteArray) : ByteArray × Int := if chk a = 0 then (dec (-iv a), 0) else (⟨#[]⟩, chk a)
theorem neg_is (a : ByteArray) (ha : a.size ≤ 9223372036854775807) : ZB.whole_Neg.f a = some (negS a) := by
  unfold ZB.whole_Neg.f whole_Check.f negS
  rw [if_pos ha, Option.bind_some]
  by_cases h : chk a = 0
  · rw [if_pos h, if_pos h, opposite_is h, Option.bind_some]
  · rw [if_neg h, if_neg h]
def signS (a : ByteArray) : Int × Int := if chk a = 0 then (sgn (iv a), 0) else (0, chk a)
theorem signS_is (a : ByteArray) (ha : a.size ≤ 9223372036854775807) : ZB.whole_Sign.f a = some (signS a) := by
  unfold ZB.whole_Sign.f whole_Check.f signS
  rw [if_pos ha, Option.bind_some]
  by_cases h : chk a = 0
  · rw [if_pos h, if_pos h, sign_is h, Option.bind_some]
  · rw [if_neg h, if_neg h]
end Go.Proofs.YtpkfnclbcmnckaaDoor
/- The walk of whole.Gcd. -/
set_option linter.unusedVariables false
namespace Go.Proofs.YtpkfnclbcmnckaaDoor
open Go Go.RowKit Go.Proofs.YtpkfnclbcmnckaaDoor.Dec Go.Proofs.YtpkfnclbcmnckaaDoor.Mem Go.Proofs.YtpkfnclbcmnckaaDoor.Wid Go.Proofs.YtpkfnclbcmnckaaDoorW.PrintWords

def gcdS (a b : ByteArray) : ByteArray × Int := if errs [a, b] = 0 then (dec ((iv a).gcd (iv b) : Nat), 0) else (⟨#[]⟩, errs [a, b])
def GcdP (a b : ByteArray) (w : World) (L : ByteArray × Int) : Prop :=
    Calls Tryd.prog 14 #[.string a, .string b] w fun e w' => e = .returned (.tuple #[.string L.1, .int .i64 L.2]) ∧ Below w.heap.size w w'
theorem W_one {v : Nat} (h : v < B) : (W v).getD 0 0 = (v : Int) := by
  rw [W_get _ 0 (by decide), show word v 0 = v by unfold word; rw [Nat.pow_zero, Nat.div_one, Nat.mod_eq_of_lt h]]
theorem lt_of_nw1 {v : Nat} (h : nw v ≤ 1) : v < B := by have := (nw_le_iff v 1).1 h; rwa [Nat.pow_one] at this

set_option maxRecDepth 100000 in
theorem gcd_err (a b : ByteArray) (w : World) (E : Int) (HALL : Hid (All2 a b E)) (h0 : E ≠ 0) : GcdP a b w (⟨#[]⟩, E) := by
  unfold GcdP
  have g : (E == 0) = false := beq_eq_false_iff_ne.2 h0
  clear h0
  go_enter Tryd.func14, Tryd.ntmps14
  go_wp2_with ((with_reducible refine gate_dst (N := 15) rfl ?_); refine Kd.R_lit Kd.string _ 22 ?hg (N := 15) ?hd (xs := ([a, b] : List ByteArray)) (inner := [.string a, .string b]) (ok := fun _ => True) (okp := fun _ => True) ?hr ?hp (fun _ hk => hk) trivial (Below.refl _ _) (Nat.le_refl _) (by simp) ?_; (case hd => rfl); (case hg => rfl); (case hr => first | (go_simp; done) | (go_simp; rfl)); (case hp => exact (Reps.one (show Kd.M Kd.string _ _ _ a [.string a] from rfl) (Reps.one (show Kd.M Kd.string _ _ _ b [.string b] from rfl) (Reps.none _ _)))); intro v1 w1 ho hb _ _; have HO := Hid.mk' ho; have HB1 := Hid.mk' hb; clear ho hb; obtain ⟨Ao, co, eo⟩ := Kd.R_slice HO.out; subst eo)
  refine (HALL.out Ao co w1 (Kd.R_reads' HO.out).2.2 (Kd.R_reads' HO.out).2.1).mono ?_
  rintro e w2 ⟨rfl, hb2⟩
  have HB2 := Hid.mk' (Below.trans HB1.out (hb2.mono HB1.out.size))
  clear hb2 HO HB1
  go_wp2_with fail
  go_ret2
  exact ⟨rfl, HB2.out⟩

set_option maxRecDepth 100000 in
set_option maxHeartbeats 2000000 in
theorem gcd_ok (a b : ByteArray) (w : World) (HALL : Hid (All2 a b 0)) (HEE : Hid (Env w))
    (lx ly : Bool) (vx vy G : Nat) (HRA : Hid (Rd a lx vx)) (HRB : Hid (Rd b ly vy)) (FX : Hid (vx < B ^ 114)) (FY : Hid (vy < B ^ 114)) (HG : Hid (Nat.gcd vx vy = G)) : GcdP a b w (dec (G : Int), 0) := by
  unfold GcdP
  go_enter Tryd.func14, Tryd.ntmps14
  go_wp2_with ((with_reducible refine gate_dst (N := 15) rfl ?_); refine Kd.R_lit Kd.string _ 22 ?hg (N := 15) ?hd (xs := ([a, b] : List ByteArray)) (inner := [.string a, .string b]) (ok := fun _ => True) (okp := fun _ => True) ?hr ?hp (fun _ hk => hk) trivial (Below.refl _ _) (Nat.le_refl _) (by simp) ?_; (case hd => rfl); (case hg => rfl); (case hr => first | (go_simp; done) | (go_simp; rfl)); (case hp => exact (Reps.one (show Kd.M Kd.string _ _ _ a [.string a] from rfl) (Reps.one (show Kd.M Kd.string _ _ _ b [.string b] from rfl) (Reps.none _ _)))); intro v1 w1 ho hb _ _; have HO := Hid.mk' ho; have HB1 := Hid.mk' hb; clear ho hb; obtain ⟨Ao, co, eo⟩ := Kd.R_slice HO.out; subst eo)
  refine (HALL.out Ao co w1 (Kd.R_reads' HO.out).2.2 (Kd.R_reads' HO.out).2.1).mono ?_
  rintro e w2 ⟨rfl, hb2⟩
  have HB2 := Hid.mk' (Below.trans HB1.out (hb2.mono HB1.out.size))
  clear hb2 HO HB1
  go_wp2_with fail
  refine (HRA.out w2).mono ?_
  rintro e w4 ⟨pa, rfl, hpa, hwa, hb4⟩
  have HB4 := Hid.mk' (Below.trans HB2.out (hb4.mono HB2.out.size))
  have HWA := Hid.mk' hwa
  have hga : w.heap.size ≤ pa := Nat.le_trans HB2.out.size hpa
  clear hb4 hwa HRA HB2 HALL hpa
  go_wp2_with fail
  refine (HRB.out w4).mono ?_
  rintro e w5 ⟨pb, rfl, hpb, hwb, hb5⟩
  have HWA2 := Hid.mk' (HWA.out.below hb5 HWA.out.size)
  have HB5 := Hid.mk' (Below.trans HB4.out (hb5.mono HB4.out.size))
  have HWB := Hid.mk' hwb
  have hgb : w.heap.size ≤ pb := Nat.le_trans HB4.out.size hpb
  clear hb5 hwb HRB HB4 HWA hpb
  go_wp2_with fail
  go_loopg [7, 8] vy (fun g s7 s8 wr => ∃ (p q : Nat) (l1 l2 : Bool) (v1 v2 : Nat), s7 = .pointer (some ⟨p, 0, none⟩) ∧ s8 = .pointer (some ⟨q, 0, none⟩) ∧ w.heap.size ≤ p ∧ w.heap.size ≤ q ∧ v2 ≤ g ∧ IsW wr p l1 v1 ∧ IsW wr q l2 v2 ∧ Hid (v1 < B ^ 114) ∧ Hid (v2 < B ^ 114) ∧ Hid (Nat.gcd v1 v2 = G) ∧ Below w.heap.size w wr)
  case atStart => exact ⟨pa, pb, lx, ly, vx, vy, rfl, rfl, hga, hgb, Nat.le_refl _, HWA2.out, HWB.out, FX.out, FY.out, HG.out, HB5.out⟩
  case round =>
    obtain ⟨p, q, l1, l2, v1, v2, rfl, rfl, hp, hq, hg, h1, h2, F1, F2, HG2, hB⟩ := hrel
    have H1 := Hid.mk' h1
    have H2 := Hid.mk' h2
    have HB := Hid.mk' hB
    have c1 := h1.cell1
    have c2 := h2.cell1
    clear h1 h2 hB HWA2 HWB HB5 FX FY HG hga hgb
    rcases Nat.eq_zero_or_pos v2 with h0 | h0
    · subst h0
      rw [nw_zero] at c2
      have c2' : wr.cell? ⟨q, 1, none⟩ = some (.int .i64 0) := c2
      have k1 := H1.out.cell0
      have k2 := H1.out.free 0
      have HS := Hid.mk' (H1.out.set0 false)
      have HB2 : Hid (Below w.heap.size w (wr.setCell ⟨p, 0, none⟩ (.bool false))) := HB.out.setCell (p := ⟨p, 0, none⟩) hp _
      have hG : G = v1 := by rw [← HG2.out, Nat.gcd_zero_right]
      subst hG
      clear c2 c1 HG2
      go_wp2_with fail
      refine (text_any p false G _ HS.out (fits_114 F1.out) (HEE.out.below HB2.out).1).mono ?_
      rintro e w9 ⟨rfl, hb9⟩
      have HB9 := Hid.mk' (Below.trans HB2.out (hb9.mono HB2.out.size))
      clear hb9
      go_wp2_with fail
      go_ret2
      exact ⟨rfl, HB9.out⟩
    · have hn2 : (0 : Int) < (nw v2 : Int) := by have := nw_pos.2 h0; omega
      have hd2 : decide ((0 : Int) < (nw v2 : Int)) = true := decide_eq_true hn2
      have h0 : Hid (0 < v2) := h0
      by_cases hs : nw v1 ≤ 1
      · have a1 : (nw v1 : Int) ≤ 1 := by omega
        have d1 : decide ((nw v1 : Int) ≤ 1) = true := decide_eq_true a1
        by_cases hs2 : nw v2 ≤ 1
        · have a2 : (nw v2 : Int) ≤ 1 := by omega
          have d2 : decide ((nw v2 : Int) ≤ 1) = true := decide_eq_true a2
          have m1 := H1.out.cellw 0 (by decide)
          have m2 := H2.out.cellw 0 (by decide)
          rw [W_one (lt_of_nw1 hs)] at m1
          rw [W_one (lt_of_nw1 hs2)] at m2
          have L1 : Hid (v1 < B) := lt_of_nw1 hs
          have L2 : Hid (v2 < B) := lt_of_nw1 hs2
          generalize ((nw v1 : Nat) : Int) = n1 at *
          generalize ((nw v2 : Nat) : Int) = n2 at *
          clear hs hs2
          go_wp2_with fail
          go_quiet (fail)
          have HB8 : Hid (Below w.heap.size w (wr.drewN nq)) := pwd_below_drewN HB.out nq
          generalize wr.drewN nq = W8 at HB8 ⊢
          clear H1 H2 HB c1 c2 m1 m2 a1 d1 a2 d2 hn2 hd2 F1 F2
          go_wp2_with fail
          go_loopg [9, 10] v2 (fun g s9 s10 wr => ∃ (m n : Nat), s9 = .int .i64 (m : Int) ∧ s10 = .int .i64 (n : Int) ∧ n ≤ g ∧ Hid (m < B) ∧ Hid (n < B) ∧ Hid (Nat.gcd m n = G) ∧ Below w.heap.size w wr)
          case atStart => exact ⟨v1, v2, rfl, rfl, Nat.le_refl _, L1.out, L2.out, HG2.out, HB8.out⟩
          case round =>
            obtain ⟨m, n, rfl, rfl, hng, M1, M2, HG3, hB⟩ := hrel
            have HB := Hid.mk' hB
            clear hB HB8 L1 L2 HG2
            rcases Nat.eq_zero_or_pos n with h3 | h3
            · subst h3
              have hG : G = m := by rw [← HG3.out, Nat.gcd_zero_right]
              subst hG
              have hOF : Hid (OfQ (G : Int)) := ofQ (by omega) (by have := M1.out; unfold B at this; omega)
              go_wp2_with fail
              refine (hOF.out _ (HEE.out.below HB.out)).mono ?_
              rintro e w9 ⟨rfl, hb9⟩
              have HB9 := Hid.mk' (Below.trans HB.out (hb9.mono HB.out.size))
              clear hb9
              go_wp2_with fail
              go_ret2
              exact ⟨rfl, HB9.out⟩
            · have e0 : ¬ ((n : Int) = 0) := by omega
              have e1 : ((n : Int) == 0) = false := beq_eq_false_iff_ne.2 e0
              have hlt : Hid (m % n < n) := Nat.mod_lt _ h3
              have HG4 : Hid (Nat.gcd n (m % n) = G) := by show _ = _; rw [← HG3.out, Nat.gcd_comm m n, Nat.gcd_rec n m, Nat.gcd_comm]
              have e2 : (m : Int).tmod (n : Int) = ((m % n : Nat) : Int) := tm m n
              generalize m % n = t at *
              go_wp2_with fail
              go_quiet (fail)
              have HB9 : Hid (Below w.heap.size w (wr.drewN nq)) := pwd_below_drewN HB.out nq
              go_wp2_with fail
              go_roundg t
              case measure => have := hlt.out; omega
              case rel => exact ⟨n, t, by go_num, by go_num, Nat.le_refl _, M2.out, Nat.lt_trans hlt.out M2.out, HG4.out, HB9.out⟩
        · have a2 : ¬ ((nw v2 : Int) ≤ 1) := by omega
          have d2 : decide ((nw v2 : Int) ≤ 1) = false := decide_eq_false a2
          generalize ((nw v1 : Nat) : Int) = n1 at *
          generalize ((nw v2 : Nat) : Int) = n2 at *
          clear hs hs2
          go_wp2_with fail
          refine (divided_any p q l1 l2 v1 v2 wr H1.out H2.out (fits_114 F1.out) (fits_B F2.out) h0.out).mono ?_
          rintro e w6 ⟨o, r, rfl, ho, hr, hor, hwo, hwr, hb6⟩
          have HB6 := Hid.mk' (Below.trans HB.out (hb6.mono HB.out.size))
          have H2' := Hid.mk' (H2.out.below hb6 H2.out.size)
          have HR := Hid.mk' hwr
          have hgr : w.heap.size ≤ r := Nat.le_trans HB.out.size hr
          have HG3 : Hid (Nat.gcd v2 (v1 % v2) = G) := by show _ = _; rw [← HG2.out, Nat.gcd_comm v1 v2, Nat.gcd_rec v2 v1, Nat.gcd_comm]
          have hlt : Hid (v1 % v2 < v2) := Nat.mod_lt _ h0.out
          clear hb6 hwo hwr ho hr
          go_wp2_with fail
          go_roundg (v1 % v2)
          case measure => have := hlt.out; omega
          case rel => exact ⟨q, r, _, _, v2, v1 % v2, rfl, rfl, hq, hgr, Nat.le_refl _, H2'.out, HR.out, F2.out, Nat.lt_of_le_of_lt (Nat.mod_le _ _) F1.out, HG3.out, HB6.out⟩
      · have a1 : ¬ ((nw v1 : Int) ≤ 1) := by omega
        have d1 : decide ((nw v1 : Int) ≤ 1) = false := decide_eq_false a1
        generalize ((nw v1 : Nat) : Int) = n1 at *
        generalize ((nw v2 : Nat) : Int) = n2 at *
        clear hs
        go_wp2_with fail
        refine (divided_any p q l1 l2 v1 v2 wr H1.out H2.out (fits_114 F1.out) (fits_B F2.out) h0.out).mono ?_
        rintro e w6 ⟨o, r, rfl, ho, hr, hor, hwo, hwr, hb6⟩
        have HB6 := Hid.mk' (Below.trans HB.out (hb6.mono HB.out.size))
        have H2' := Hid.mk' (H2.out.below hb6 H2.out.size)
        have HR := Hid.mk' hwr
        have hgr : w.heap.size ≤ r := Nat.le_trans HB.out.size hr
        have HG3 : Hid (Nat.gcd v2 (v1 % v2) = G) := by show _ = _; rw [← HG2.out, Nat.gcd_comm v1 v2, Nat.gcd_rec v2 v1, Nat.gcd_comm]
        have hlt : Hid (v1 % v2 < v2) := Nat.mod_lt _ h0.out
        clear hb6 hwo hwr ho hr
        go_wp2_with fail
        go_roundg (v1 % v2)
        case measure => have := hlt.out; omega
        case rel => exact ⟨q, r, _, _, v2, v1 % v2, rfl, rfl, hq, hgr, Nat.le_refl _, H2'.out, HR.out, F2.out, Nat.lt_of_le_of_lt (Nat.mod_le _ _) F1.out, HG3.out, HB6.out⟩

theorem gp {a b : ByteArray} {w : World} {L M : ByteArray × Int} (h : GcdP a b w L) (e : M = L) : GcdP a b w M := by rw [e]; exact h
theorem gcd_any (a b : ByteArray) (w : World) (ha : a.size ≤ 9223372036854775807) (hb : b.size ≤ 9223372036854775807) (HE : Env w) : GcdP a b w (gcdS a b) := by
  have hall := all2 a b ha hb
  by_cases h0 : errs [a, b] = 0
  · rw [h0] at hall
    obtain ⟨ca, cb⟩ := errs2 h0
    exact gp (gcd_ok a b w hall HE _ _ _ _ ((iv a).gcd (iv b)) (fun w => read_any a w (chk_zero ca).1 (size_chk ca)) (fun w => read_any b w (chk_zero cb).1 (size_chk cb)) (iv_chk ca) (iv_chk cb) rfl) (by unfold gcdS; rw [if_pos h0])
  · exact gp (gcd_err a b w _ hall h0) (by unfold gcdS; rw [if_neg h0])
def whole_Gcd.f (a b : ByteArray) : Option (ByteArray × Int) := if a.size ≤ 9223372036854775807 ∧ b.size ≤ 9223372036854775807 then some (gcdS a b) else none
theorem whole_Gcd.calls (a0 a1 : ByteArray) (r1 : ByteArray) (r2 : Int) (w : World) (h : whole_Gcd.f a0 a1 = some (r1, r2)) (HE : Env w) :
    Calls Tryd.prog 14 #[.string a0, .string a1] w fun e w' => e = .returned (.tuple #[.string r1, .int .i64 r2]) ∧ Below w.heap.size w w' := by
  unfold whole_Gcd.f at h
  split at h
  · rename_i hs
    exact gp (gcd_any a0 a1 w hs.1 hs.2 HE) (Option.some.inj h).symm
  · cases h
end Go.Proofs.YtpkfnclbcmnckaaDoor
/- Binomials, and the walk of whole.Binomial. -/
set_option linter.unusedVariables false
namespace Go.Proofs.YtpkfnclbcmnckaaDoor
open Go Go.RowKit Go.Proofs.YtpkfnclbcmnckaaDoor.Dec Go.Proofs.YtpkfnclbcmnckaaDoor.Mem Go.Proofs.YtpkfnclbcmnckaaDoor.Wid Go.Proofs.YtpkfnclbcmnckaaDoorW.PrintWords

def ch : Nat → Nat → Nat
  | _, 0 => 1
  | 0, _ + 1 => 0
  | n + 1, k + 1 => ch n k + ch n (k + 1)
theorem ch_zero (n : Nat) : ch n 0 = 1 := by cases n <;> rfl
theorem ch_succ (n k : Nat) : ch (n + 1) (k + 1) = ch n k + ch n (k + 1) := rfl
theorem ch_over : ∀ (n k : Nat), n < k → ch n k = 0
  | 0, 0, h => absurd h (by decide)
  | 0, k + 1, _ => rfl
  | n + 1, 0, h => absurd h (by omega)
  | n + 1, k + 1, h => by rw [ch_succ, ch_over n k (by omega), ch_over n (k + 1) (by omega)]
theorem ch_step : ∀ (n i : Nat), i ≤ n → ch n (i + 1) * (i + 1) = ch n i * (n - i)
  | 0, i, h => by
    obtain rfl : i = 0 := by omega
    rfl
  | n + 1, 0, _ => by
    have := ch_step n 0 (Nat.zero_le _)
    rw [ch_zero] at this
    rw [ch_succ, ch_zero, ch_zero]
    omega
  | n + 1, j + 1, h => by
    have h1 := ch_step n j (by omega)
    rcases Nat.lt_or_ge j n with hlt | hge
    · have h2 := ch_step n (j + 1) (by omega)
      rw [ch_succ n (j + 1), ch_succ n j, Nat.add_mul, h2, Nat.add_mul]
      have e1 : n + 1 - (j + 1) = n - j := by omega
      rw [e1, ← h1, ← Nat.mul_add, ← Nat.mul_add]
      congr 1
      omega
    · obtain rfl : j = n := by omega
      rw [ch_succ j (j + 1), ch_over j (j + 1 + 1) (by omega), ch_over j (j + 1) (by omega)]
      simp
theorem ch_sym : ∀ (n k : Nat), k ≤ n → ch n k = ch n (n - k)
  | 0, k, h => by
    obtain rfl : k = 0 := by omega
    rfl
  | n + 1, 0, _ => by
    have := ch_sym n n (Nat.le_refl _)
    rw [Nat.sub_self, ch_zero] at this
    rw [ch_zero, Nat.sub_zero, ch_succ, ch_over n (n + 1) (by omega), this]
  | n + 1, k + 1, h => by
    rcases Nat.lt_or_ge k n with hlt | hge
    · obtain ⟨m, hm⟩ : ∃ m, n - k = m + 1 := ⟨n - k - 1, by omega⟩
      have h1 := ch_sym n k (by omega)
      have h2 := ch_sym n (k + 1) (by omega)
      rw [show n + 1 - (k + 1) = m + 1 by omega, ch_succ, ch_succ, h1, h2, hm, show n - (k + 1) = m by omega]
      omega
    · obtain rfl : k = n := by omega
      have := ch_sym k k (Nat.le_refl _)
      rw [Nat.sub_self, ch_zero] at this
      rw [Nat.sub_self, ch_zero, ch_succ, this, ch_over k (k + 1) (by omega)]
theorem ch_pos : ∀ (n k : Nat), k ≤ n → 0 < ch n k
  | n, 0, _ => by rw [ch_zero]; decide
  | 0, k + 1, h => absurd h (by omega)
  | n + 1, k + 1, h => by rw [ch_succ]; have := ch_pos n k (by omega); omega
theorem ch_le_next {n i : Nat} (h : 2 * i + 1 ≤ n) : ch n i ≤ ch n (i + 1) := by
  have h1 := ch_step n i (by omega)
  have h2 : ch n i * (i + 1) ≤ ch n i * (n - i) := Nat.mul_le_mul_left _ (by omega)
  rw [← h1] at h2
  exact Nat.le_of_mul_le_mul_right h2 (by omega)
theorem ch_mono {n i : Nat} : ∀ (d : Nat), 2 * (i + d) ≤ n → ch n i ≤ ch n (i + d)
  | 0, _ => Nat.le_refl _
  | d + 1, h => Nat.le_trans (ch_mono d (by omega)) (ch_le_next (by omega))
theorem ch_div {n i : Nat} (h : i ≤ n) : ch n i * (n - i) / (i + 1) = ch n (i + 1) := by
  rw [← ch_step n i h, Nat.mul_div_cancel _ (by omega)]

def binS (n k : Int) : ByteArray × Int :=
  if n < 0 ∨ 4096 < n then (⟨#[]⟩, 2) else if k < 0 ∨ n < k then (⟨#[48]⟩, 0) else lim (ch n.toNat k.toNat : Nat)
def BinP (n k : Int) (w : World) (L : ByteArray × Int) : Prop :=
    Calls Tryd.prog 9 #[.int .i64 n, .int .i64 k] w fun e w' => e = .returned (.tuple #[.string L.1, .int .i64 L.2]) ∧ Below w.heap.size w w'
set_option maxRecDepth 100000 in
theorem bin_neg (n k : Int) (w : World) (h : n < 0) : BinP n k w (⟨#[]⟩, 2) := by
  unfold BinP
  have d : decide (n < 0) = true := decide_eq_true h
  go_enter Tryd.func9, Tryd.ntmps9
  go_wp2_with fail
  go_ret2
  exact ⟨rfl, Below.refl _ _⟩
set_option maxRecDepth 100000 in
theorem bin_big (n k : Int) (w : World) (h : ¬ n < 0) (h2 : 4096 < n) : BinP n k w (⟨#[]⟩, 2) := by
  unfold BinP
  have d : decide (n < 0) = false := decide_eq_false h
  have d2 : decide (4096 < n) = true := decide_eq_true h2
  go_enter Tryd.func9, Tryd.ntmps9
  go_wp2_with fail
  go_ret2
  exact ⟨rfl, Below.refl _ _⟩
set_option maxRecDepth 100000 in
theorem bin_k0 (n k : Int) (w : World) (h : ¬ n < 0) (h2 : ¬ 4096 < n) (h3 : k < 0) : BinP n k w (⟨#[48]⟩, 0) := by
  unfold BinP
  have d : decide (n < 0) = false := decide_eq_false h
  have d2 : decide (4096 < n) = false := decide_eq_false h2
  have d3 : decide (k < 0) = true := decide_eq_true h3
  go_enter Tryd.func9, Tryd.ntmps9
  go_wp2_with fail
  go_ret2
  exact ⟨rfl, Below.refl _ _⟩
set_option maxRecDepth 100000 in
theorem bin_kn (n k : Int) (w : World) (h : ¬ n < 0) (h2 : ¬ 4096 < n) (h3 : ¬ k < 0) (h4 : n < k) : BinP n k w (⟨#[48]⟩, 0) := by
  unfold BinP
  have d : decide (n < 0) = false := decide_eq_false h
  have d2 : decide (4096 < n) = false := decide_eq_false h2
  have d3 : decide (k < 0) = false := decide_eq_false h3
  have d4 : decide (n < k) = true := decide_eq_true h4
  go_enter Tryd.func9, Tryd.ntmps9
  go_wp2_with fail
  go_ret2
  exact ⟨rfl, Below.refl _ _⟩
theorem dec_of {s : ByteArray} {z : Int} (hc : chk s = 0) (hv : iv s = z) : dec z = s := by rw [← hv]; exact dec_iv (chk_zero hc).1
theorem rd_dec {z : Nat} (h : z ≤ 4096) : Rd (dec (z : Int)) false z := by
  intro w
  have hs : (dec (z : Int)).size ≤ 2000 := by
    have h1 := mag_ge (dec (z : Int)).data.toList
    rw [size_list]
    have h2 : (mag (dec (z : Int)).data.toList).length ≤ 100 := by
      rw [dec_list, mag_itoa, abs_nat, Lib.decDigits_length, nDigits_le_iff _ _ (by decide)]
      exact Nat.lt_of_lt_of_le (show z < 10 ^ 4 by omega) (Nat.pow_le_pow_right (by decide) (by decide))
    omega
  have := read_any (dec (z : Int)) w (canon_dec _) hs
  rw [iv_dec, abs_nat, lt_nat] at this
  exact this
theorem rd_one : Rd ⟨#[49]⟩ false 1 := by
  have h := rd_dec (z := 1) (by decide)
  have e : dec ((1 : Nat) : Int) = ⟨#[49]⟩ := dec_of (by decide) (by decide)
  rw [e] at h
  exact h
end Go.Proofs.YtpkfnclbcmnckaaDoor
/- The walk of whole.Binomial: its loop. -/
set_option linter.unusedVariables false
namespace Go.Proofs.YtpkfnclbcmnckaaDoor
open Go Go.RowKit Go.Proofs.YtpkfnclbcmnckaaDoor.Dec Go.Proofs.YtpkfnclbcmnckaaDoor.Mem Go.Proofs.YtpkfnclbcmnckaaDoor.Wid Go.Proofs.YtpkfnclbcmnckaaDoorW.PrintWords

theorem fits_4096 {v z : Nat} (hv : v < B ^ 114) (hz : z ≤ 4096) : Fits (v * z) := by
  refine sum_fits (i := 4096) (by decide) ?_
  rw [Nat.mul_comm]
  exact Nat.mul_le_mul hz (Nat.le_of_lt hv)
theorem small_114 {z : Nat} (hz : z ≤ 4096) : z < B ^ 114 := Nat.lt_of_le_of_lt hz (Nat.lt_of_lt_of_le (show 4096 < B ^ 1 by decide) (Nat.pow_le_pow_right B_pos (by decide)))
theorem chk_dec_big {z m : Nat} (hm : 1024 ≤ m) (h : 10 ^ m ≤ z) : chk (dec (z : Int)) = 11 := by
  rw [chk_of_canon (canon_dec _), dec_list, mag_itoa, abs_nat, Lib.decDigits_length, if_pos]
  rcases Nat.lt_or_ge 1024 (Lib.nDigits z) with h1 | h1
  · exact h1
  · have := (nDigits_le_iff z m (by omega)).1 (by omega)
    omega
theorem lim_big {z : Nat} (h : B ^ 114 ≤ z) : lim (z : Int) = (⟨#[]⟩, 11) := by
  have hc : chk (dec (z : Int)) = 11 := chk_dec_big (m := 9 * 114) (by decide) (by rw [← B_pow 114]; exact h)
  unfold lim
  rw [hc, if_neg (by decide)]

set_option maxRecDepth 100000 in
set_option maxHeartbeats 2000000 in
theorem bin_main (n k m : Nat) (w : World) (hn : n ≤ 4096) (hk : k ≤ n) (hm : min (k : Int) ((n : Int) - (k : Int)) = (m : Int)) (hm2 : 2 * m ≤ n) (HC : Hid (ch n m = ch n k)) (HEE : Hid (Env w)) : BinP (n : Int) (k : Int) w (lim (ch n k : Nat)) := by
  unfold BinP
  have d : decide ((n : Int) < 0) = false := decide_eq_false (by omega)
  have d2 : decide (4096 < (n : Int)) = false := decide_eq_false (by omega)
  have d3 : decide ((k : Int) < 0) = false := decide_eq_false (by omega)
  have d4 : decide ((n : Int) < (k : Int)) = false := decide_eq_false (by omega)
  have hnk : (0 : Int) ≤ (n : Int) - (k : Int) := by omega
  go_enter Tryd.func9, Tryd.ntmps9
  go_wp2_with fail
  refine (rd_one w).mono ?_
  rintro e w1 ⟨p1, rfl, hp1, hw1, hb1⟩
  have HB1 := Hid.mk' hb1
  have HW1 := Hid.mk' hw1
  clear hb1 hw1
  go_wp2_with fail
  clear d d2 d3 d4
  go_loopg [6, 27] m (fun g s6 s27 wr => ∃ (p i : Nat), s6 = .pointer (some ⟨p, 0, none⟩) ∧ s27 = .int .i64 (i : Int) ∧ i ≤ m ∧ m - i ≤ g ∧ w.heap.size ≤ p ∧ IsW wr p false (ch n i) ∧ Hid (ch n i < B ^ 114) ∧ Below w.heap.size w wr)
  case atStart => exact ⟨p1, 0, rfl, rfl, Nat.zero_le _, Nat.le_refl _, hp1, by rw [ch_zero]; exact HW1.out, by show _ < _; rw [ch_zero]; exact small_114 (by decide), HB1.out⟩
  case round =>
    obtain ⟨p, i, rfl, rfl, hi, hg, hp, hw, HF, hB⟩ := hrel
    have HB := Hid.mk' hB
    have HW := Hid.mk' hw
    clear hB hw HB1 HW1 hp1
    rcases Nat.lt_or_ge i m with hlt | hge
    · have g1 : (i : Int) < (m : Int) := by omega
      have e1 : (n : Int) - (i : Int) = ((n - i : Nat) : Int) := by omega
      have hOF1 : Hid (OfQ ((n - i : Nat) : Int)) := ofQ (by omega) (by omega)
      have hRD1 : Hid (Rd (dec ((n - i : Nat) : Int)) false (n - i)) := rd_dec (by omega)
      have hOF2 : Hid (OfQ ((i + 1 : Nat) : Int)) := ofQ (by omega) (by omega)
      have hRD2 : Hid (Rd (dec ((i + 1 : Nat) : Int)) false (i + 1)) := rd_dec (by omega)
      have hz1 : Hid (n - i ≤ 4096) := by show _ ≤ _; omega
      have hz2 : Hid (i + 1 ≤ 4096) := by show _ ≤ _; omega
      have hdv : Hid (ch n i * (n - i) / (i + 1) = ch n (i + 1)) := ch_div (by omega)
      have hmn := Hid.mk' (ch_mono (n := n) (i := i + 1) (m - (i + 1)) (by omega))
      have h2i : Hid (i + 1 + (m - (i + 1)) = m) := by show _ = _; omega
      generalize n - i = z at *
      go_wp2_with fail
      refine (hOF1.out _ (HEE.out.below HB.out)).mono ?_
      rintro e w2 ⟨rfl, hb2⟩
      have HB2 := Hid.mk' (Below.trans HB.out (hb2.mono HB.out.size))
      have HW2 := Hid.mk' (HW.out.below hb2 HW.out.size)
      clear hb2 HW HB
      go_wp2_with fail
      refine (hRD1.out w2).mono ?_
      rintro e w3 ⟨p3, rfl, hp3, hw3, hb3⟩
      have HB3 := Hid.mk' (Below.trans HB2.out (hb3.mono HB2.out.size))
      have HW3 := Hid.mk' (HW2.out.below hb3 HW2.out.size)
      have HZ3 := Hid.mk' hw3
      clear hb3 hw3 HB2 HW2 hp3
      go_wp2_with fail
      refine (times_any p p3 _ _ _ _ w3 HW3.out HZ3.out (fits_114 HF.out) (fits_114 (small_114 hz1.out)) (fits_4096 HF.out hz1.out)).mono ?_
      rintro e w4 ⟨p4, rfl, hp4, hw4, hb4⟩
      have HB4 := Hid.mk' (Below.trans HB3.out (hb4.mono HB3.out.size))
      have HW4 : Hid (IsW w4 p4 false (ch n i * z)) := hw4
      clear hb4 hw4 HB3 HW3 HZ3 hp4
      go_wp2_with fail
      refine (hOF2.out _ (HEE.out.below HB4.out)).mono ?_
      rintro e w5 ⟨rfl, hb5⟩
      have HB5 := Hid.mk' (Below.trans HB4.out (hb5.mono HB4.out.size))
      have HW5 := Hid.mk' (HW4.out.below hb5 HW4.out.size)
      clear hb5 HW4 HB4
      go_wp2_with fail
      refine (hRD2.out w5).mono ?_
      rintro e w6 ⟨p6, rfl, hp6, hw6, hb6⟩
      have HB6 := Hid.mk' (Below.trans HB5.out (hb6.mono HB5.out.size))
      have HW6 := Hid.mk' (HW5.out.below hb6 HW5.out.size)
      have HZ6 := Hid.mk' hw6
      clear hb6 hw6 HB5 HW5 hp6
      go_wp2_with fail
      refine (divided_any p4 p6 _ _ _ _ w6 HW6.out HZ6.out (fits_4096 HF.out hz1.out) (fits_B (small_114 hz2.out)) (Nat.succ_pos _)).mono ?_
      rintro e w7 ⟨q, r, rfl, hq, hr, hqr, hwq, hwr, hb7⟩
      rw [hdv.out] at hwq
      have HB7 := Hid.mk' (Below.trans HB6.out (hb7.mono HB6.out.size))
      have HQ := Hid.mk' hwq
      have hgq : w.heap.size ≤ q := Nat.le_trans HB6.out.size hq
      clear hb7 hwq hwr hq hr hqr HB6 HW6 HZ6
      have c1 := HQ.out.cell1
      rcases Nat.lt_or_ge 114 (nw (ch n (i + 1))) with hov | hfit
      · have h115 : Hid (B ^ 114 ≤ ch n (i + 1)) := by
          have := le_of_nw (v := ch n (i + 1)) (n := 114) (by omega)
          exact this
        have g9 : decide (1033 < (nw (ch n (i + 1)) : Int) * 9) = true := decide_eq_true (by omega)
        have hw9 : IntKind.i64.wrap ((nw (ch n (i + 1)) : Int) * 9) = (nw (ch n (i + 1)) : Int) * 9 := IntWalk.i64_in _ ⟨by omega, by have := nw_le_of_fits (fits_le (fits_4096 HF.out hz1.out) (show ch n (i + 1) ≤ ch n i * z from by rw [← hdv.out]; exact Nat.div_le_self _ _)); omega⟩
        have HL : Hid (lim (ch n k : Nat) = (⟨#[]⟩, 11)) := by
          show _ = _
          rw [← HC.out]
          refine lim_big (Nat.le_trans h115.out ?_)
          have := hmn.out
          rwa [h2i.out] at this
        generalize ((nw (ch n (i + 1)) : Nat) : Int) = N at *
        go_wp2_with fail
        go_ret2
        rw [HL.out]
        exact ⟨rfl, HB7.out⟩
      · have h114 : Hid (ch n (i + 1) < B ^ 114) := (nw_le_iff _ _).1 hfit
        have g9 : decide (1033 < (nw (ch n (i + 1)) : Int) * 9) = false := decide_eq_false (by omega)
        have hw9 : IntKind.i64.wrap ((nw (ch n (i + 1)) : Int) * 9) = (nw (ch n (i + 1)) : Int) * 9 := IntWalk.i64_in _ ⟨by omega, by omega⟩
        generalize ((nw (ch n (i + 1)) : Nat) : Int) = N at *
        clear hfit
        go_wp2_with fail
        go_roundg (m - (i + 1))
        case measure => omega
        case rel => exact ⟨q, i + 1, rfl, by go_num, hlt, Nat.le_refl _, hgq, HQ.out, h114.out, HB7.out⟩
    · have g1 : ¬ ((i : Int) < (m : Int)) := by omega
      obtain rfl : i = m := by omega
      go_wp2_with fail
      refine (limited_any p false _ wr HW.out (fits_114 HF.out) (HEE.out.below HB.out)).mono ?_
      rintro e w2 ⟨rfl, hb2⟩
      have HB2 := Hid.mk' (Below.trans HB.out (hb2.mono HB.out.size))
      clear hb2
      rw [show sv false (ch n i) = ((ch n i : Nat) : Int) from rfl, HC.out]
      go_wp2_with fail
      go_ret2
      exact ⟨rfl, HB2.out⟩
theorem bp {n k : Int} {w : World} {L M : ByteArray × Int} (h : BinP n k w L) (e : M = L) : BinP n k w M := by rw [e]; exact h
theorem bin_any (n k : Int) (w : World) (HE : Env w) : BinP n k w (binS n k) := by
  by_cases h1 : n < 0
  · exact bp (bin_neg n k w h1) (if_pos (.inl h1))
  · by_cases h2 : 4096 < n
    · exact bp (bin_big n k w h1 h2) (if_pos (.inr h2))
    · have e1 : ¬ (n < 0 ∨ 4096 < n) := by omega
      by_cases h3 : k < 0
      · exact bp (bin_k0 n k w h1 h2 h3) (by unfold binS; rw [if_neg e1, if_pos (.inl h3)])
      · by_cases h4 : n < k
        · exact bp (bin_kn n k w h1 h2 h3 h4) (by unfold binS; rw [if_neg e1, if_pos (.inr h4)])
        · have e2 : ¬ (k < 0 ∨ n < k) := by omega
          obtain ⟨n, rfl⟩ : ∃ m : Nat, n = (m : Int) := ⟨n.toNat, by omega⟩
          obtain ⟨k, rfl⟩ : ∃ m : Nat, k = (m : Int) := ⟨k.toNat, by omega⟩
          refine bp ?_ (show binS n k = lim (ch n k : Nat) from by unfold binS; rw [if_neg e1, if_neg e2, Int.toNat_natCast, Int.toNat_natCast])
          by_cases h5 : k ≤ n - k
          · exact bin_main n k k w (by omega) (by omega) (by omega) (by omega) rfl HE
          · exact bin_main n k (n - k) w (by omega) (by omega) (by omega) (by omega) (ch_sym n k (by omega)).symm HE
def whole_Binomial.f (n k : Int) : Option (ByteArray × Int) := some (binS n k)
theorem whole_Binomial.calls (a0 a1 : Int) (r1 : ByteArray) (r2 : Int) (w : World) (h : whole_Binomial.f a0 a1 = some (r1, r2)) (HE : Env w) :
    Calls Tryd.prog 9 #[.int .i64 a0, .int .i64 a1] w fun e w' => e = .returned (.tuple #[.string r1, .int .i64 r2]) ∧ Below w.heap.size w w' :=
  bp (bin_any a0 a1 w HE) (Option.some.inj h).symm
end Go.Proofs.YtpkfnclbcmnckaaDoor
/- What Pow and Compare answer; and all of whole in the form that the next print takes. -/
set_option linter.unusedVariables false
namespace Go.Proofs.YtpkfnclbcmnckaaDoor
open Go Go.RowKit Go.Proofs.YtpkfnclbcmnckaaDoor.Dec Go.Proofs.YtpkfnclbcmnckaaDoor.Mem Go.Proofs.YtpkfnclbcmnckaaDoor.Wid Go.Proofs.YtpkfnclbcmnckaaDoorW.PrintWords

theorem chk_mono {x y : Int} (h : x.natAbs ≤ y.natAbs) (hx : chk (dec x) = 11) : chk (dec y) = 11 := by
  rw [chk_dec] at hx ⊢
  generalize (10 : Nat) ^ 1024 = t at *
  by_cases h1 : t ≤ x.natAbs
  · rw [if_pos (Nat.le_trans h1 h)]
  · rw [if_neg h1] at hx
    exact absurd hx (by decide)
theorem lim_over {z : Int} (h : chk (dec z) = 11) : lim z = (⟨#[]⟩, 11) := by unfold lim; rw [h, if_neg (by decide)]
theorem lim_fit {z : Int} (h : chk (dec z) = 0) : lim z = (dec z, 0) := if_pos h
theorem pow_over {x : Int} {i n : Nat} (h : i ≤ n) (hi : chk (dec (x ^ i)) = 11) : chk (dec (x ^ n)) = 11 := by
  refine chk_mono ?_ hi
  rw [Int.natAbs_pow, Int.natAbs_pow]
  rcases Nat.eq_zero_or_pos x.natAbs with h0 | h0
  · rcases Nat.eq_zero_or_pos i with h1 | h1
    · subst h1
      have : chk (dec (x ^ 0)) = 0 := by rw [Int.pow_zero]; exact ten_pow_lt (n := 1) (by decide) (by decide)
      rw [this] at hi
      exact absurd hi (by decide)
    · rw [h0, Nat.zero_pow h1]
      exact Nat.zero_le _
  · exact Nat.pow_le_pow_right h0 h
def powS (a : ByteArray) (n : Int) : ByteArray × Int := if chk a = 0 then (if n < 0 ∨ 4096 < n then (⟨#[]⟩, 2) else lim (iv a ^ n.toNat)) else (⟨#[]⟩, chk a)
theorem pow_loop (a : ByteArray) (ha : chk a = 0) (n : Nat) (hn : n ≤ 4096) : ∀ (d i : Nat), n - i = d → i ≤ n → chk (dec (iv a ^ i)) = 0 →
    Ev (fun k => ZB.whole_Pow.l0 k a (dec (iv a ^ i)) (n : Int) (i : Int)) (lim (iv a ^ n))
  | 0, i, hd, hi, hc => by
    obtain rfl : i = n := by omega
    refine Ev.after 1 fun k => ?_
    simp only [ZB.whole_Pow.l0]
    rw [if_neg (by omega), lim_fit hc]
  | d + 1, i, hd, hi, hc => by
    have hm : whole_Mul.f (dec (iv a ^ i)) a = some (lim (iv a ^ (i + 1))) := by
      have h1 : (dec (iv a ^ i)).size ≤ 9223372036854775807 := Nat.le_trans (size_chk hc) (by decide)
      have h2 : a.size ≤ 9223372036854775807 := Nat.le_trans (size_chk ha) (by decide)
      have h3 : errs [dec (iv a ^ i), a] = 0 := by rw [errs_cons0 hc, errs_cons0 ha]; rfl
      unfold whole_Mul.f
      rw [if_pos ⟨h1, h2⟩, if_pos h3, iv_dec, Int.pow_succ]
    rcases chk_dec_or (iv a ^ (i + 1)) with h | h
    · refine Ev.step (f := fun k => ZB.whole_Pow.l0 k a (dec (iv a ^ (i + 1))) (n : Int) ((i + 1 : Nat) : Int)) (fun k => ?_) (pow_loop a ha n hn d (i + 1) (by omega) (by omega) h)
      simp only [ZB.whole_Pow.l0]
      rw [if_pos (by omega), hm, Option.bind_some, lim_fit h, if_pos rfl, IntWalk.wrap64_in _ (by omega)]
      rfl
    · refine Ev.after 1 fun k => ?_
      simp only [ZB.whole_Pow.l0]
      rw [if_pos (by omega), hm, Option.bind_some, lim_over h, if_neg (by decide), lim_over (pow_over (by omega) h)]
theorem pow_is (a : ByteArray) (n : Int) (ha : a.size ≤ 9223372036854775807) : Ev (fun k => ZB.whole_Pow.f k a n) (powS a n) := by
  unfold ZB.whole_Pow.f whole_Check.f powS
  rw [if_pos ha]
  simp only [Option.bind_some]
  by_cases hc : chk a = 0
  · simp only [hc, if_true]
    by_cases h1 : n < 0
    · simp only [h1, if_true, true_or]
      exact Ev.after 1 fun k => rfl
    · simp only [h1, if_false, false_or]
      by_cases h2 : 4096 < n
      · rw [if_pos h2, decide_eq_true (show n > 4096 from h2)]
        exact Ev.after 1 fun k => rfl
      · rw [if_neg h2, decide_eq_false (show ¬ n > 4096 from h2)]
        obtain ⟨m, rfl⟩ : ∃ m : Nat, n = (m : Int) := ⟨n.toNat, by omega⟩
        rw [Int.toNat_natCast]
        have e1 : (⟨#[49]⟩ : ByteArray) = dec (iv a ^ 0) := by rw [Int.pow_zero]; exact (dec_of (by decide) (by decide)).symm
        refine Ev.step (f := fun k => ZB.whole_Pow.l0 k a (dec (iv a ^ 0)) (m : Int) ((0 : Nat) : Int)) (fun k => ?_) (pow_loop a hc m (by omega) m 0 (by omega) (by omega) (by rw [Int.pow_zero]; exact ten_pow_lt (n := 1) (by decide) (by decide)))
        simp only [ZB.whole_Pow.j0]
        rw [if_neg (by decide), e1]
        rfl
  · simp only [hc, if_false]
    exact Ev.now _

theorem cmp_digits : ∀ (l m : List UInt8), l.length = m.length → (∀ c ∈ l, isDig c = true) → (∀ c ∈ m, isDig c = true) → Lib.compareBytes l m = cmpI (val l) (val m)
  | [], [], _, _, _ => rfl
  | [], _ :: _, h, _, _ => absurd h (by simp)
  | _ :: _, [], h, _, _ => absurd h (by simp)
  | c :: l, d :: m, h, hl, hm => by
    have hlen : l.length = m.length := by simpa using h
    have ih := cmp_digits l m hlen (fun x hx => hl x (by simp [hx])) (fun x hx => hm x (by simp [hx]))
    have v1 := val_lt l (fun x hx => hl x (by simp [hx]))
    have v2 := val_lt m (fun x hx => hm x (by simp [hx]))
    have c1 := (isDig_iff c).1 (hl c (by simp))
    have d1 := (isDig_iff d).1 (hm d (by simp))
    rw [val_cons, val_cons, ← hlen]
    rw [← hlen] at v2
    generalize 10 ^ l.length = t at *
    unfold Lib.compareBytes
    by_cases h1 : c < d
    · have h1' : c.toNat < d.toNat := UInt8.lt_iff_toNat_lt.1 h1
      have h2 : (c.toNat - 48 + 1) * t ≤ (d.toNat - 48) * t := Nat.mul_le_mul_right _ (by omega)
      rw [Nat.add_mul] at h2
      rw [if_pos h1]
      unfold cmpI
      rw [if_pos (by omega)]
    · rw [if_neg h1]
      by_cases h2 : d < c
      · have h2' : d.toNat < c.toNat := UInt8.lt_iff_toNat_lt.1 h2
        have h3 : (d.toNat - 48 + 1) * t ≤ (c.toNat - 48) * t := Nat.mul_le_mul_right _ (by omega)
        rw [Nat.add_mul] at h3
        rw [if_pos h2]
        unfold cmpI
        rw [if_neg (by omega), if_pos (by omega)]
      · have e : c = d := u8_toNat (by
          have a1 : ¬ c.toNat < d.toNat := fun k => h1 (UInt8.lt_iff_toNat_lt.2 k)
          have a2 : ¬ d.toNat < c.toNat := fun k => h2 (UInt8.lt_iff_toNat_lt.2 k)
          omega)
        subst e
        rw [if_neg h2, ih]
        unfold cmpI
        generalize (c.toNat - 48) * t = q
        by_cases a1 : val l < val m
        · rw [if_pos (by omega), if_pos (by omega)]
        · rw [if_neg (by omega), if_neg (c := ((q + val l : Nat) : Int) < _) (by omega)]
          by_cases a2 : val m < val l
          · rw [if_pos (by omega), if_pos (by omega)]
          · rw [if_neg (by omega), if_neg (by omega)]
theorem len_val {l m : List UInt8} (hl : canonN l) (hm : canonN m) (h : l.length < m.length) : val l < val m := by
  have h1 := val_lt l hl.2.1
  have h2 := List.length_pos_iff.2 hl.1
  have h3 : m.length = Lib.nDigits (val m) := by rw [← Lib.decDigits_length, canonN_eq m hm]
  have h4 := nDigits_le_iff (val m) (m.length - 1) (by omega)
  have h5 : ¬ val m < 10 ^ (m.length - 1) := fun k => by have := h4.2 k; omega
  have h6 : 10 ^ l.length ≤ 10 ^ (m.length - 1) := Nat.pow_le_pow_right (by decide) (by omega)
  omega
theorem order_is {a b : ByteArray} (ca : chk a = 0) (cb : chk b = 0) : ZB.whole_order.f (magS a) (magS b) = some (cmpI ((iv a).natAbs : Int) ((iv b).natAbs : Int)) := by
  unfold ZB.whole_order.f strings_Compare.f
  rw [magS_size, magS_size, magS_list, magS_list]
  have e1 : (iv a).natAbs = val (mag a.data.toList) := ival_abs _
  have e2 : (iv b).natAbs = val (mag b.data.toList) := ival_abs _
  rw [e1, e2]
  have h1 := (chk_zero ca).1.1
  have h2 := (chk_zero cb).1.1
  generalize mag a.data.toList = l at *
  generalize mag b.data.toList = m at *
  by_cases hl : l.length = m.length
  · rw [if_pos (by omega), Option.bind_some, cmp_digits l m hl h1.2.1 h2.2.1]
  · rw [if_neg (by omega)]
    unfold cmpI
    by_cases hlt : l.length < m.length
    · have := len_val h1 h2 hlt
      rw [if_pos (by omega), if_pos (by omega)]
    · have := len_val h2 h1 (by omega)
      rw [if_neg (by omega), if_neg (by omega), if_pos (by omega)]
def cmpS (a b : ByteArray) : Int × Int := if errs [a, b] = 0 then (cmpI (iv a) (iv b), 0) else (0, errs [a, b])
theorem cmp_sgn (x y : Int) : (if sgn x < sgn y then -1 else if sgn x > sgn y then 1 else sgn x * cmpI (x.natAbs : Int) (y.natAbs : Int)) = cmpI x y := by
  have hx : (x = 0 ∧ sgn x = 0) ∨ (x < 0 ∧ sgn x = -1) ∨ (0 < x ∧ sgn x = 1) := by unfold sgn; split <;> (try split) <;> omega
  have hy : (y = 0 ∧ sgn y = 0) ∨ (y < 0 ∧ sgn y = -1) ∨ (0 < y ∧ sgn y = 1) := by unfold sgn; split <;> (try split) <;> omega
  rcases hx with ⟨h1, e1⟩ | ⟨h1, e1⟩ | ⟨h1, e1⟩ <;> rcases hy with ⟨h2, e2⟩ | ⟨h2, e2⟩ | ⟨h2, e2⟩ <;> rw [e1, e2] <;> unfold cmpI <;> repeat' split <;> omega
theorem cmp_range (x y : Int) : cmpI x y = -1 ∨ cmpI x y = 0 ∨ cmpI x y = 1 := by unfold cmpI; split <;> (try split) <;> simp
theorem sgn_range (x : Int) : sgn x = -1 ∨ sgn x = 0 ∨ sgn x = 1 := by unfold sgn; split <;> (try split) <;> simp
theorem compare_is (a b : ByteArray) (ha : a.size ≤ 9223372036854775807) (hb : b.size ≤ 9223372036854775807) : ZB.whole_Compare.f a b = some (cmpS a b) := by
  unfold ZB.whole_Compare.f cmpS
  rw [all_is a b ha hb, Option.bind_some]
  by_cases h0 : errs [a, b] = 0
  · rw [if_pos h0, if_pos h0]
    obtain ⟨ca, cb⟩ := errs2 h0
    have t1 : strings_TrimPrefix.f a ⟨#[45]⟩ = some (magS a) := if_pos rfl
    have t2 : strings_TrimPrefix.f b ⟨#[45]⟩ = some (magS b) := if_pos rfl
    rw [sign_is ca, sign_is cb, t1, t2]
    simp only [Option.bind_some]
    rw [order_is ca cb]
    simp only [Option.bind_some]
    rw [← cmp_sgn (iv a) (iv b)]
    have hw : wrap64 (sgn (iv a) * cmpI ((iv a).natAbs : Int) ((iv b).natAbs : Int)) = sgn (iv a) * cmpI ((iv a).natAbs : Int) ((iv b).natAbs : Int) := by
      rcases sgn_range (iv a) with h | h | h <;> rcases cmp_range ((iv a).natAbs : Int) ((iv b).natAbs : Int) with k | k | k <;> rw [h, k] <;> exact IntWalk.wrap64_in _ (by decide)
    rw [hw]
    by_cases h1 : sgn (iv a) < sgn (iv b)
    · rw [if_pos h1, if_pos h1]
    · rw [if_neg h1, if_neg h1]
      by_cases h2 : sgn (iv a) > sgn (iv b)
      · rw [if_pos h2, if_pos h2]
      · rw [if_neg h2, if_neg h2]
  · rw [if_neg h0, if_neg h0]

theorem wrap_mod (x : Int) : wrap64 (x % 256) = x % 256 := by unfold wrap64; omega
/-! ### in the print's form -/
def okS (a : ByteArray) : Prop := a.size ≤ 9223372036854775807
instance (a : ByteArray) : Decidable (okS a) := by unfold okS; exact inferInstance
def whole_Add.f (a b : ByteArray) : Option (ByteArray × Int) := if okS a ∧ okS b then some (two a b (iv a + iv b)) else none
theorem whole_Add.calls (a0 a1 : ByteArray) (r1 : ByteArray) (r2 : Int) (w : World) (h : whole_Add.f a0 a1 = some (r1, r2)) (HE : Env w) :
    Calls Tryd.prog 12 #[.string a0, .string a1] w fun e w' => e = .returned (.tuple #[.string r1, .int .i64 r2]) ∧ Below w.heap.size w w' := by
  unfold whole_Add.f at h
  split at h
  · rename_i hs
    exact ZB.whole_Add.calls a0 a1 r1 r2 w ((add_is a0 a1 hs.1 hs.2).trans h) HE
  · cases h
def whole_Sub.f (a b : ByteArray) : Option (ByteArray × Int) := if okS a ∧ okS b then some (two a b (iv a - iv b)) else none
theorem whole_Sub.calls (a0 a1 : ByteArray) (r1 : ByteArray) (r2 : Int) (w : World) (h : whole_Sub.f a0 a1 = some (r1, r2)) (HE : Env w) :
    Calls Tryd.prog 19 #[.string a0, .string a1] w fun e w' => e = .returned (.tuple #[.string r1, .int .i64 r2]) ∧ Below w.heap.size w w' := by
  unfold whole_Sub.f at h
  split at h
  · rename_i hs
    exact ZB.whole_Sub.calls a0 a1 r1 r2 w ((sub_is a0 a1 hs.1 hs.2).trans h) HE
  · cases h
def whole_Quo.f (a b : ByteArray) : Option (ByteArray × Int) := if okS a ∧ okS b then some (quoS a b) else none
theorem whole_Quo.calls (a0 a1 : ByteArray) (r1 : ByteArray) (r2 : Int) (w : World) (h : whole_Quo.f a0 a1 = some (r1, r2)) (HE : Env w) :
    Calls Tryd.prog 18 #[.string a0, .string a1] w fun e w' => e = .returned (.tuple #[.string r1, .int .i64 r2]) ∧ Below w.heap.size w w' := by
  unfold whole_Quo.f at h
  split at h
  · rename_i hs
    exact ZB.whole_Quo.calls a0 a1 r1 r2 w ((quo_is a0 a1 hs.1 hs.2).trans h) HE
  · cases h
def whole_Rem.f (a b : ByteArray) : Option (ByteArray × Int) := if okS a ∧ okS b then some (remS a b) else none
theorem whole_Rem.calls (a0 a1 : ByteArray) (r1 : ByteArray) (r2 : Int) (w : World) (h : whole_Rem.f a0 a1 = some (r1, r2)) (HE : Env w) :
    Calls Tryd.prog 15 #[.string a0, .string a1] w fun e w' => e = .returned (.tuple #[.string r1, .int .i64 r2]) ∧ Below w.heap.size w w' := by
  unfold whole_Rem.f at h
  split at h
  · rename_i hs
    exact ZB.whole_Rem.calls a0 a1 r1 r2 w ((rem_is a0 a1 hs.1 hs.2).trans h) HE
  · cases h
def whole_Neg.f (a : ByteArray) : Option (ByteArray × Int) := if okS a then some (negS a) else none
theorem whole_Neg.calls (a0 : ByteArray) (r1 : ByteArray) (r2 : Int) (w : World) (h : whole_Neg.f a0 = some (r1, r2)) :
    Calls Tryd.prog 17 #[.string a0] w fun e w' => e = .returned (.tuple #[.string r1, .int .i64 r2]) ∧ Below w.heap.size w w' := by
  unfold whole_Neg.f at h
  split at h
  · rename_i hs
    exact ZB.whole_Neg.calls a0 r1 r2 w ((neg_is a0 hs).trans h)
  · cases h
def whole_Sign.f (a : ByteArray) : Option (Int × Int) := if okS a then some (signS a) else none
theorem whole_Sign.calls (a0 : ByteArray) (r1 : Int) (r2 : Int) (w : World) (h : whole_Sign.f a0 = some (r1, r2)) :
    Calls Tryd.prog 16 #[.string a0] w fun e w' => e = .returned (.tuple #[.int .i64 r1, .int .i64 r2]) ∧ Below w.heap.size w w' := by
  unfold whole_Sign.f at h
  split at h
  · rename_i hs
    exact ZB.whole_Sign.calls a0 r1 r2 w ((signS_is a0 hs).trans h)
  · cases h
def whole_Compare.f (a b : ByteArray) : Option (Int × Int) := if okS a ∧ okS b then some (cmpS a b) else none
theorem whole_Compare.calls (a0 a1 : ByteArray) (r1 : Int) (r2 : Int) (w : World) (h : whole_Compare.f a0 a1 = some (r1, r2)) :
    Calls Tryd.prog 20 #[.string a0, .string a1] w fun e w' => e = .returned (.tuple #[.int .i64 r1, .int .i64 r2]) ∧ Below w.heap.size w w' := by
  unfold whole_Compare.f at h
  split at h
  · rename_i hs
    exact ZB.whole_Compare.calls a0 a1 r1 r2 w ((compare_is a0 a1 hs.1 hs.2).trans h)
  · cases h
def whole_Pow.f (a : ByteArray) (n : Int) : Option (ByteArray × Int) := if okS a then some (powS a n) else none
theorem whole_Pow.calls (a0 : ByteArray) (a1 : Int) (r1 : ByteArray) (r2 : Int) (w : World) (h : whole_Pow.f a0 a1 = some (r1, r2)) (HE : Env w) :
    Calls Tryd.prog 11 #[.string a0, .int .i64 a1] w fun e w' => e = .returned (.tuple #[.string r1, .int .i64 r2]) ∧ Below w.heap.size w w' := by
  unfold whole_Pow.f at h
  split at h
  · rename_i hs
    obtain ⟨k, hk⟩ := (pow_is a0 a1 hs).rounds
    exact ZB.whole_Pow.calls k a0 a1 r1 r2 w (hk.trans h) HE
  · cases h
def whole_Total.f (l : List ByteArray) : Option (ByteArray × Int) := if ∀ s ∈ l, okS s then some (totalS l) else none
theorem whole_Total.calls (A0 : Option Addr) (c0 : Nat) (l0 : List ByteArray) (r1 : ByteArray) (r2 : Int) (w : World) (hr0 : Kd.C Kd.string w A0 l0.length l0) (hc0 : l0.length ≤ c0) (h : whole_Total.f l0 = some (r1, r2)) (HE : Env w) :
    Calls Tryd.prog 10 #[.slice A0 l0.length c0] w fun e w' => e = .returned (.tuple #[.string r1, .int .i64 r2]) ∧ Below w.heap.size w w' := by
  unfold whole_Total.f at h
  split at h
  · rename_i hs
    exact ZB.whole_Total.calls A0 c0 l0 r1 r2 w hr0 hc0 ((total_is l0 hs).trans h) HE
  · cases h
end Go.Proofs.YtpkfnclbcmnckaaDoor
set_option linter.unusedVariables false
namespace Go.Proofs.YtpkfnclbcmnckaaDoor
open Go Go.RowKit Go.Proofs.YtpkfnclbcmnckaaDoor.Dec Go.Proofs.YtpkfnclbcmnckaaDoor.Mem Go.Proofs.YtpkfnclbcmnckaaDoor.Wid Go.Proofs.YtpkfnclbcmnckaaDoorW.PrintWords

theorem ok_chk {a : ByteArray} (h : chk a = 0) : okS a := Nat.le_trans (size_chk h) (by decide)
theorem errs_ok {a b : ByteArray} (ha : chk a = 0) (hb : chk b = 0) : errs [a, b] = 0 := by rw [errs_cons0 ha, errs_cons0 hb]; rfl
theorem lim_iv {r : ByteArray} (h : chk r = 0) : lim (iv r) = (r, 0) := by
  have e := dec_iv (chk_zero h).1
  rw [lim_fit (by rw [e]; exact h), e]
theorem quo_at {a b r : ByteArray} (ha : chk a = 0) (hb : chk b = 0) (hz : iv b ≠ 0) (hr : chk r = 0) (h : (iv a).fdiv (iv b) = iv r) : whole_Quo.f a b = some (r, 0) := by
  unfold whole_Quo.f quoS
  rw [if_pos ⟨ok_chk ha, ok_chk hb⟩, if_pos (errs_ok ha hb), if_neg hz, h, lim_iv hr]
theorem rem_at {a b r : ByteArray} (ha : chk a = 0) (hb : chk b = 0) (hz : iv b ≠ 0) (hr : chk r = 0) (h : (iv a).fmod (iv b) = iv r) : whole_Rem.f a b = some (r, 0) := by
  unfold whole_Rem.f remS
  rw [if_pos ⟨ok_chk ha, ok_chk hb⟩, if_pos (errs_ok ha hb), if_neg hz, h, dec_iv (chk_zero hr).1]
theorem gcd_at {a b r : ByteArray} (ha : chk a = 0) (hb : chk b = 0) (hr : chk r = 0) (h : (((iv a).gcd (iv b) : Nat) : Int) = iv r) : whole_Gcd.f a b = some (r, 0) := by
  unfold whole_Gcd.f gcdS
  rw [if_pos ⟨ok_chk ha, ok_chk hb⟩, if_pos (errs_ok ha hb), h, dec_iv (chk_zero hr).1]
theorem pow_at {a r : ByteArray} {n : Nat} (ha : chk a = 0) (hn : n ≤ 4096) (hr : chk r = 0) (h : iv a ^ n = iv r) : whole_Pow.f a (n : Int) = some (r, 0) := by
  unfold whole_Pow.f powS
  rw [if_pos (ok_chk ha), if_pos ha, if_neg (by omega), Int.toNat_natCast, h, lim_iv hr]
theorem bin_at {n k : Nat} {r : ByteArray} (hn : n ≤ 4096) (hk : k ≤ n) (hr : chk r = 0) (h : ((ch n k : Nat) : Int) = iv r) : whole_Binomial.f (n : Int) (k : Int) = some (r, 0) := by
  unfold whole_Binomial.f binS
  rw [if_neg (by omega), if_neg (by omega), Int.toNat_natCast, Int.toNat_natCast, h, lim_iv hr]
def Ret2 (f : Nat) (args : Array Value) (r : ByteArray) : Prop := ∀ w : World, Env w → Calls Tryd.prog f args w fun e w' => e = .returned (.tuple #[.string r, .int .i64 0]) ∧ Below w.heap.size w w'
def RetC (s : ByteArray) : Prop := ∀ w : World, Calls Tryd.prog 22 #[.string s] w fun e w' => e = .returned (.int .i64 3) ∧ Below w.heap.size w w'
theorem retC {s : ByteArray} (hs : okS s) (h : chk s = 3) : RetC s := fun w => by have := check_any s hs w; rwa [h] at this
theorem q0 : Ret2 18 #[.string (⟨#[45, 49, 55]⟩ : ByteArray), .string (⟨#[53]⟩ : ByteArray)] (⟨#[45, 52]⟩ : ByteArray) := fun w HE => whole_Quo.calls _ _ _ _ w (quo_at (by decide) (by decide) (by decide) (by decide) (by decide)) HE
theorem r0 : Ret2 15 #[.string (⟨#[45, 49, 55]⟩ : ByteArray), .string (⟨#[53]⟩ : ByteArray)] (⟨#[51]⟩ : ByteArray) := fun w HE => whole_Rem.calls _ _ _ _ w (rem_at (by decide) (by decide) (by decide) (by decide) (by decide)) HE
theorem q1 : Ret2 18 #[.string (⟨#[49, 55]⟩ : ByteArray), .string (⟨#[45, 53]⟩ : ByteArray)] (⟨#[45, 52]⟩ : ByteArray) := fun w HE => whole_Quo.calls _ _ _ _ w (quo_at (by decide) (by decide) (by decide) (by decide) (by decide)) HE
theorem r1 : Ret2 15 #[.string (⟨#[49, 55]⟩ : ByteArray), .string (⟨#[45, 53]⟩ : ByteArray)] (⟨#[45, 51]⟩ : ByteArray) := fun w HE => whole_Rem.calls _ _ _ _ w (rem_at (by decide) (by decide) (by decide) (by decide) (by decide)) HE
theorem g0 : Ret2 14 #[.string (⟨#[45, 56, 52]⟩ : ByteArray), .string (⟨#[51, 54]⟩ : ByteArray)] (⟨#[49, 50]⟩ : ByteArray) := fun w HE => whole_Gcd.calls _ _ _ _ w (gcd_at (by decide) (by decide) (by decide) (by decide)) HE
theorem p0 : Ret2 11 #[.string (⟨#[50]⟩ : ByteArray), .int .i64 70] (⟨#[49, 49, 56, 48, 53, 57, 49, 54, 50, 48, 55, 49, 55, 52, 49, 49, 51, 48, 51, 52, 50, 52]⟩ : ByteArray) := fun w HE => whole_Pow.calls _ _ _ _ w (pow_at (n := 70) (by decide) (by decide) (by decide) (by decide)) HE
theorem b0 : Ret2 9 #[.int .i64 10, .int .i64 3] (⟨#[49, 50, 48]⟩ : ByteArray) := fun w HE => whole_Binomial.calls _ _ _ _ w (bin_at (n := 10) (k := 3) (by decide) (by decide) (by decide) (by decide)) HE
theorem c0 : RetC (⟨#[48, 53]⟩ : ByteArray) := retC (by decide) (by decide)
theorem c1 : RetC (⟨#[45, 48]⟩ : ByteArray) := retC (by decide) (by decide)
theorem c2 : RetC (⟨#[43, 55]⟩ : ByteArray) := retC (by decide) (by decide)
theorem c3 : RetC (⟨#[]⟩ : ByteArray) := retC (by decide) (by decide)

set_option maxRecDepth 100000 in
set_option maxHeartbeats 2000000 in
theorem awake_any (w : World) (HE : Env w) :
    Calls Tryd.prog 8 #[] w fun e w' => e = .returned (.bool true) ∧ Below w.heap.size w w' := by
  have HEE := Hid.mk' HE
  clear HE
  have c0 : (w.alloc (.cells #[.string ⟨#[45, 49, 55]⟩, .string ⟨#[53]⟩, .string ⟨#[45, 52]⟩, .string ⟨#[51]⟩, .string ⟨#[49, 55]⟩, .string ⟨#[45, 53]⟩, .string ⟨#[45, 52]⟩, .string ⟨#[45, 51]⟩] 40)).cell? ⟨w.heap.size, 0, none⟩ = some (.string ⟨#[45, 49, 55]⟩) := by simp [World.cell?, World.alloc, -World.alloc_eq]
  have c1 : (w.alloc (.cells #[.string ⟨#[45, 49, 55]⟩, .string ⟨#[53]⟩, .string ⟨#[45, 52]⟩, .string ⟨#[51]⟩, .string ⟨#[49, 55]⟩, .string ⟨#[45, 53]⟩, .string ⟨#[45, 52]⟩, .string ⟨#[45, 51]⟩] 40)).cell? ⟨w.heap.size, 1, none⟩ = some (.string ⟨#[53]⟩) := by simp [World.cell?, World.alloc, -World.alloc_eq]
  have c2 : (w.alloc (.cells #[.string ⟨#[45, 49, 55]⟩, .string ⟨#[53]⟩, .string ⟨#[45, 52]⟩, .string ⟨#[51]⟩, .string ⟨#[49, 55]⟩, .string ⟨#[45, 53]⟩, .string ⟨#[45, 52]⟩, .string ⟨#[45, 51]⟩] 40)).cell? ⟨w.heap.size, 2, none⟩ = some (.string ⟨#[45, 52]⟩) := by simp [World.cell?, World.alloc, -World.alloc_eq]
  have c3 : (w.alloc (.cells #[.string ⟨#[45, 49, 55]⟩, .string ⟨#[53]⟩, .string ⟨#[45, 52]⟩, .string ⟨#[51]⟩, .string ⟨#[49, 55]⟩, .string ⟨#[45, 53]⟩, .string ⟨#[45, 52]⟩, .string ⟨#[45, 51]⟩] 40)).cell? ⟨w.heap.size, 3, none⟩ = some (.string ⟨#[51]⟩) := by simp [World.cell?, World.alloc, -World.alloc_eq]
  have c4 : (w.alloc (.cells #[.string ⟨#[45, 49, 55]⟩, .string ⟨#[53]⟩, .string ⟨#[45, 52]⟩, .string ⟨#[51]⟩, .string ⟨#[49, 55]⟩, .string ⟨#[45, 53]⟩, .string ⟨#[45, 52]⟩, .string ⟨#[45, 51]⟩] 40)).cell? ⟨w.heap.size, 4, none⟩ = some (.string ⟨#[49, 55]⟩) := by simp [World.cell?, World.alloc, -World.alloc_eq]
  have c5 : (w.alloc (.cells #[.string ⟨#[45, 49, 55]⟩, .string ⟨#[53]⟩, .string ⟨#[45, 52]⟩, .string ⟨#[51]⟩, .string ⟨#[49, 55]⟩, .string ⟨#[45, 53]⟩, .string ⟨#[45, 52]⟩, .string ⟨#[45, 51]⟩] 40)).cell? ⟨w.heap.size, 5, none⟩ = some (.string ⟨#[45, 53]⟩) := by simp [World.cell?, World.alloc, -World.alloc_eq]
  have c6 : (w.alloc (.cells #[.string ⟨#[45, 49, 55]⟩, .string ⟨#[53]⟩, .string ⟨#[45, 52]⟩, .string ⟨#[51]⟩, .string ⟨#[49, 55]⟩, .string ⟨#[45, 53]⟩, .string ⟨#[45, 52]⟩, .string ⟨#[45, 51]⟩] 40)).cell? ⟨w.heap.size, 6, none⟩ = some (.string ⟨#[45, 52]⟩) := by simp [World.cell?, World.alloc, -World.alloc_eq]
  have c7 : (w.alloc (.cells #[.string ⟨#[45, 49, 55]⟩, .string ⟨#[53]⟩, .string ⟨#[45, 52]⟩, .string ⟨#[51]⟩, .string ⟨#[49, 55]⟩, .string ⟨#[45, 53]⟩, .string ⟨#[45, 52]⟩, .string ⟨#[45, 51]⟩] 40)).cell? ⟨w.heap.size, 7, none⟩ = some (.string ⟨#[45, 51]⟩) := by simp [World.cell?, World.alloc, -World.alloc_eq]
  have HB1 : Hid (Below w.heap.size w (w.alloc (.cells #[.string ⟨#[45, 49, 55]⟩, .string ⟨#[53]⟩, .string ⟨#[45, 52]⟩, .string ⟨#[51]⟩, .string ⟨#[49, 55]⟩, .string ⟨#[45, 53]⟩, .string ⟨#[45, 52]⟩, .string ⟨#[45, 51]⟩] 40))) := (Below.refl _ _).alloc (Nat.le_refl _) _
  have HS1 : Hid ((w.alloc (.cells #[.string ⟨#[45, 49, 55]⟩, .string ⟨#[53]⟩, .string ⟨#[45, 52]⟩, .string ⟨#[51]⟩, .string ⟨#[49, 55]⟩, .string ⟨#[45, 53]⟩, .string ⟨#[45, 52]⟩, .string ⟨#[45, 51]⟩] 40)).heap.size = w.heap.size + 1) := by show _ = _; simp
  go_enter Tryd.func8, Tryd.ntmps8
  go_wp2_with fail
  generalize (w.alloc (.cells #[.string ⟨#[45, 49, 55]⟩, .string ⟨#[53]⟩, .string ⟨#[45, 52]⟩, .string ⟨#[51]⟩, .string ⟨#[49, 55]⟩, .string ⟨#[45, 53]⟩, .string ⟨#[45, 52]⟩, .string ⟨#[45, 51]⟩] 40)) = W1 at c0 c1 c2 c3 c4 c5 c6 c7 HB1 HS1 ⊢
  go_loopg [19] 2 (fun g s19 wr => ∃ (i : Nat), s19 = .int .i64 (i : Int) ∧ i ≤ 2 ∧ 2 - i ≤ g ∧ Below W1.heap.size W1 wr)
  case atStart => exact ⟨0, rfl, by omega, by omega, Below.refl _ _⟩
  case round =>
    obtain ⟨i, rfl, hi, hg, hB⟩ := hrel
    have HB := Hid.mk' hB
    clear hB
    have hlt : w.heap.size < W1.heap.size := by have := HS1.out; omega
    have k0 := (HB.out.cell (p := ⟨w.heap.size, 0, none⟩) hlt).trans c0
    have k1 := (HB.out.cell (p := ⟨w.heap.size, 1, none⟩) hlt).trans c1
    have k2 := (HB.out.cell (p := ⟨w.heap.size, 2, none⟩) hlt).trans c2
    have k3 := (HB.out.cell (p := ⟨w.heap.size, 3, none⟩) hlt).trans c3
    have k4 := (HB.out.cell (p := ⟨w.heap.size, 4, none⟩) hlt).trans c4
    have k5 := (HB.out.cell (p := ⟨w.heap.size, 5, none⟩) hlt).trans c5
    have k6 := (HB.out.cell (p := ⟨w.heap.size, 6, none⟩) hlt).trans c6
    have k7 := (HB.out.cell (p := ⟨w.heap.size, 7, none⟩) hlt).trans c7
    clear c0 c1 c2 c3 c4 c5 c6 c7 hlt
    have HB2 := Hid.mk' (Below.trans HB1.out (HB.out.mono HB1.out.size))
    obtain rfl | rfl | rfl : i = 0 ∨ i = 1 ∨ i = 2 := by omega
    · have HX : Hid (Below w.heap.size w (wr.alloc (.cells #[.string ⟨#[45, 49, 55]⟩, .string ⟨#[53]⟩, .string ⟨#[45, 52]⟩, .string ⟨#[51]⟩] 40))) := HB2.out.alloc HB2.out.size _
      have hxs : wr.heap.size < (wr.alloc (.cells #[.string ⟨#[45, 49, 55]⟩, .string ⟨#[53]⟩, .string ⟨#[45, 52]⟩, .string ⟨#[51]⟩] 40)).heap.size := by simp
      have x0 : (wr.alloc (.cells #[.string ⟨#[45, 49, 55]⟩, .string ⟨#[53]⟩, .string ⟨#[45, 52]⟩, .string ⟨#[51]⟩] 40)).cell? ⟨wr.heap.size, 0, none⟩ = some (.string ⟨#[45, 49, 55]⟩) := by simp [World.cell?, World.alloc, -World.alloc_eq]
      have x1 : (wr.alloc (.cells #[.string ⟨#[45, 49, 55]⟩, .string ⟨#[53]⟩, .string ⟨#[45, 52]⟩, .string ⟨#[51]⟩] 40)).cell? ⟨wr.heap.size, 1, none⟩ = some (.string ⟨#[53]⟩) := by simp [World.cell?, World.alloc, -World.alloc_eq]
      have x2 : (wr.alloc (.cells #[.string ⟨#[45, 49, 55]⟩, .string ⟨#[53]⟩, .string ⟨#[45, 52]⟩, .string ⟨#[51]⟩] 40)).cell? ⟨wr.heap.size, 2, none⟩ = some (.string ⟨#[45, 52]⟩) := by simp [World.cell?, World.alloc, -World.alloc_eq]
      have x3 : (wr.alloc (.cells #[.string ⟨#[45, 49, 55]⟩, .string ⟨#[53]⟩, .string ⟨#[45, 52]⟩, .string ⟨#[51]⟩] 40)).cell? ⟨wr.heap.size, 3, none⟩ = some (.string ⟨#[51]⟩) := by simp [World.cell?, World.alloc, -World.alloc_eq]
      have HXB : Hid (Below W1.heap.size W1 (wr.alloc (.cells #[.string ⟨#[45, 49, 55]⟩, .string ⟨#[53]⟩, .string ⟨#[45, 52]⟩, .string ⟨#[51]⟩] 40))) := HB.out.alloc HB.out.size _
      go_wp2_with fail
      generalize (wr.alloc (.cells #[.string ⟨#[45, 49, 55]⟩, .string ⟨#[53]⟩, .string ⟨#[45, 52]⟩, .string ⟨#[51]⟩] 40)) = X at x0 x1 x2 x3 HX HXB hxs ⊢
      refine (q0 X (HEE.out.below HX.out)).mono ?_
      rintro e w3 ⟨rfl, hb3⟩
      have y0 := (hb3.cell (p := ⟨wr.heap.size, 0, none⟩) hxs).trans x0
      have y1 := (hb3.cell (p := ⟨wr.heap.size, 1, none⟩) hxs).trans x1
      have y2 := (hb3.cell (p := ⟨wr.heap.size, 2, none⟩) hxs).trans x2
      have y3 := (hb3.cell (p := ⟨wr.heap.size, 3, none⟩) hxs).trans x3
      have hys : wr.heap.size < w3.heap.size := Nat.lt_of_lt_of_le hxs hb3.size
      have H3 := Hid.mk' (Below.trans HX.out (hb3.mono HX.out.size))
      have H3B := Hid.mk' (Below.trans HXB.out (hb3.mono HXB.out.size))
      clear hb3 x0 x1 x2 x3 hxs HX HXB
      go_wp2_with fail
      refine (r0 w3 (HEE.out.below H3.out)).mono ?_
      rintro e w4 ⟨rfl, hb4⟩
      have z0 := (hb4.cell (p := ⟨wr.heap.size, 0, none⟩) hys).trans y0
      have z1 := (hb4.cell (p := ⟨wr.heap.size, 1, none⟩) hys).trans y1
      have z2 := (hb4.cell (p := ⟨wr.heap.size, 2, none⟩) hys).trans y2
      have z3 := (hb4.cell (p := ⟨wr.heap.size, 3, none⟩) hys).trans y3
      have H4B := Hid.mk' (Below.trans H3B.out (hb4.mono H3B.out.size))
      clear hb4 y0 y1 y2 y3 hys H3 H3B k0 k1 k2 k3 k4 k5 k6 k7
      go_wp2_with fail
      go_roundg (2 - (0 + 1))
      case measure => omega
      case rel => exact ⟨0 + 1, by go_num, by omega, by omega, H4B.out⟩
    · have HX : Hid (Below w.heap.size w (wr.alloc (.cells #[.string ⟨#[49, 55]⟩, .string ⟨#[45, 53]⟩, .string ⟨#[45, 52]⟩, .string ⟨#[45, 51]⟩] 40))) := HB2.out.alloc HB2.out.size _
      have hxs : wr.heap.size < (wr.alloc (.cells #[.string ⟨#[49, 55]⟩, .string ⟨#[45, 53]⟩, .string ⟨#[45, 52]⟩, .string ⟨#[45, 51]⟩] 40)).heap.size := by simp
      have x0 : (wr.alloc (.cells #[.string ⟨#[49, 55]⟩, .string ⟨#[45, 53]⟩, .string ⟨#[45, 52]⟩, .string ⟨#[45, 51]⟩] 40)).cell? ⟨wr.heap.size, 0, none⟩ = some (.string ⟨#[49, 55]⟩) := by simp [World.cell?, World.alloc, -World.alloc_eq]
      have x1 : (wr.alloc (.cells #[.string ⟨#[49, 55]⟩, .string ⟨#[45, 53]⟩, .string ⟨#[45, 52]⟩, .string ⟨#[45, 51]⟩] 40)).cell? ⟨wr.heap.size, 1, none⟩ = some (.string ⟨#[45, 53]⟩) := by simp [World.cell?, World.alloc, -World.alloc_eq]
      have x2 : (wr.alloc (.cells #[.string ⟨#[49, 55]⟩, .string ⟨#[45, 53]⟩, .string ⟨#[45, 52]⟩, .string ⟨#[45, 51]⟩] 40)).cell? ⟨wr.heap.size, 2, none⟩ = some (.string ⟨#[45, 52]⟩) := by simp [World.cell?, World.alloc, -World.alloc_eq]
      have x3 : (wr.alloc (.cells #[.string ⟨#[49, 55]⟩, .string ⟨#[45, 53]⟩, .string ⟨#[45, 52]⟩, .string ⟨#[45, 51]⟩] 40)).cell? ⟨wr.heap.size, 3, none⟩ = some (.string ⟨#[45, 51]⟩) := by simp [World.cell?, World.alloc, -World.alloc_eq]
      have HXB : Hid (Below W1.heap.size W1 (wr.alloc (.cells #[.string ⟨#[49, 55]⟩, .string ⟨#[45, 53]⟩, .string ⟨#[45, 52]⟩, .string ⟨#[45, 51]⟩] 40))) := HB.out.alloc HB.out.size _
      go_wp2_with fail
      generalize (wr.alloc (.cells #[.string ⟨#[49, 55]⟩, .string ⟨#[45, 53]⟩, .string ⟨#[45, 52]⟩, .string ⟨#[45, 51]⟩] 40)) = X at x0 x1 x2 x3 HX HXB hxs ⊢
      refine (q1 X (HEE.out.below HX.out)).mono ?_
      rintro e w3 ⟨rfl, hb3⟩
      have y0 := (hb3.cell (p := ⟨wr.heap.size, 0, none⟩) hxs).trans x0
      have y1 := (hb3.cell (p := ⟨wr.heap.size, 1, none⟩) hxs).trans x1
      have y2 := (hb3.cell (p := ⟨wr.heap.size, 2, none⟩) hxs).trans x2
      have y3 := (hb3.cell (p := ⟨wr.heap.size, 3, none⟩) hxs).trans x3
      have hys : wr.heap.size < w3.heap.size := Nat.lt_of_lt_of_le hxs hb3.size
      have H3 := Hid.mk' (Below.trans HX.out (hb3.mono HX.out.size))
      have H3B := Hid.mk' (Below.trans HXB.out (hb3.mono HXB.out.size))
      clear hb3 x0 x1 x2 x3 hxs HX HXB
      go_wp2_with fail
      refine (r1 w3 (HEE.out.below H3.out)).mono ?_
      rintro e w4 ⟨rfl, hb4⟩
      have z0 := (hb4.cell (p := ⟨wr.heap.size, 0, none⟩) hys).trans y0
      have z1 := (hb4.cell (p := ⟨wr.heap.size, 1, none⟩) hys).trans y1
      have z2 := (hb4.cell (p := ⟨wr.heap.size, 2, none⟩) hys).trans y2
      have z3 := (hb4.cell (p := ⟨wr.heap.size, 3, none⟩) hys).trans y3
      have H4B := Hid.mk' (Below.trans H3B.out (hb4.mono H3B.out.size))
      clear hb4 y0 y1 y2 y3 hys H3 H3B k0 k1 k2 k3 k4 k5 k6 k7
      go_wp2_with fail
      go_roundg (2 - (1 + 1))
      case measure => omega
      case rel => exact ⟨1 + 1, by go_num, by omega, by omega, H4B.out⟩
    · clear k0 k1 k2 k3 k4 k5 k6 k7 HB1 HB hg hi
      go_wp2_with fail
      refine (g0 wr (HEE.out.below HB2.out)).mono ?_
      rintro e w3 ⟨rfl, hb3⟩
      have H3 := Hid.mk' (Below.trans HB2.out (hb3.mono HB2.out.size))
      clear hb3 HB2
      go_wp2_with fail
      refine (b0 w3 (HEE.out.below H3.out)).mono ?_
      rintro e w4 ⟨rfl, hb4⟩
      have H4 := Hid.mk' (Below.trans H3.out (hb4.mono H3.out.size))
      clear hb4 H3
      go_wp2_with fail
      refine (p0 w4 (HEE.out.below H4.out)).mono ?_
      rintro e w5 ⟨rfl, hb5⟩
      have H5 := Hid.mk' (Below.trans H4.out (hb5.mono H4.out.size))
      clear hb5 H4
      have d0 : (w5.alloc (.cells #[.string ⟨#[48, 53]⟩, .string ⟨#[45, 48]⟩, .string ⟨#[43, 55]⟩, .string ⟨#[]⟩] 22)).cell? ⟨w5.heap.size, 0, none⟩ = some (.string ⟨#[48, 53]⟩) := by simp [World.cell?, World.alloc, -World.alloc_eq]
      have d1 : (w5.alloc (.cells #[.string ⟨#[48, 53]⟩, .string ⟨#[45, 48]⟩, .string ⟨#[43, 55]⟩, .string ⟨#[]⟩] 22)).cell? ⟨w5.heap.size, 1, none⟩ = some (.string ⟨#[45, 48]⟩) := by simp [World.cell?, World.alloc, -World.alloc_eq]
      have d2 : (w5.alloc (.cells #[.string ⟨#[48, 53]⟩, .string ⟨#[45, 48]⟩, .string ⟨#[43, 55]⟩, .string ⟨#[]⟩] 22)).cell? ⟨w5.heap.size, 2, none⟩ = some (.string ⟨#[43, 55]⟩) := by simp [World.cell?, World.alloc, -World.alloc_eq]
      have d3 : (w5.alloc (.cells #[.string ⟨#[48, 53]⟩, .string ⟨#[45, 48]⟩, .string ⟨#[43, 55]⟩, .string ⟨#[]⟩] 22)).cell? ⟨w5.heap.size, 3, none⟩ = some (.string ⟨#[]⟩) := by simp [World.cell?, World.alloc, -World.alloc_eq]
      have H6 : Hid (Below w.heap.size w (w5.alloc (.cells #[.string ⟨#[48, 53]⟩, .string ⟨#[45, 48]⟩, .string ⟨#[43, 55]⟩, .string ⟨#[]⟩] 22))) := H5.out.alloc H5.out.size _
      have h6s : w5.heap.size < (w5.alloc (.cells #[.string ⟨#[48, 53]⟩, .string ⟨#[45, 48]⟩, .string ⟨#[43, 55]⟩, .string ⟨#[]⟩] 22)).heap.size := by simp
      go_wp2_with fail
      generalize (w5.alloc (.cells #[.string ⟨#[48, 53]⟩, .string ⟨#[45, 48]⟩, .string ⟨#[43, 55]⟩, .string ⟨#[]⟩] 22)) = W6 at d0 d1 d2 d3 H6 h6s ⊢
      go_loopg [90] 4 (fun g s wr => ∃ (i : Nat), s = .int .i64 (i : Int) ∧ i ≤ 4 ∧ 4 - i ≤ g ∧ Below W6.heap.size W6 wr)
      case atStart => exact ⟨0, rfl, by omega, by omega, Below.refl _ _⟩
      case round =>
        obtain ⟨j, rfl, hj, hg, hB⟩ := hrel
        have HB := Hid.mk' hB
        clear hB
        have k0 := (HB.out.cell (p := ⟨w5.heap.size, 0, none⟩) h6s).trans d0
        have k1 := (HB.out.cell (p := ⟨w5.heap.size, 1, none⟩) h6s).trans d1
        have k2 := (HB.out.cell (p := ⟨w5.heap.size, 2, none⟩) h6s).trans d2
        have k3 := (HB.out.cell (p := ⟨w5.heap.size, 3, none⟩) h6s).trans d3
        clear d0 d1 d2 d3 h6s
        obtain rfl | rfl | rfl | rfl | rfl : j = 0 ∨ j = 1 ∨ j = 2 ∨ j = 3 ∨ j = 4 := by omega
        · go_wp2_with fail
          refine (c0 _).mono ?_
          rintro e w7 ⟨rfl, hb7⟩
          have H7 := Hid.mk' (Below.trans HB.out (hb7.mono HB.out.size))
          clear hb7
          go_wp2_with fail
          go_roundg (4 - (0 + 1))
          case measure => omega
          case rel => exact ⟨0 + 1, by go_num, by omega, by omega, H7.out⟩
        · go_wp2_with fail
          refine (c1 _).mono ?_
          rintro e w7 ⟨rfl, hb7⟩
          have H7 := Hid.mk' (Below.trans HB.out (hb7.mono HB.out.size))
          clear hb7
          go_wp2_with fail
          go_roundg (4 - (1 + 1))
          case measure => omega
          case rel => exact ⟨1 + 1, by go_num, by omega, by omega, H7.out⟩
        · go_wp2_with fail
          refine (c2 _).mono ?_
          rintro e w7 ⟨rfl, hb7⟩
          have H7 := Hid.mk' (Below.trans HB.out (hb7.mono HB.out.size))
          clear hb7
          go_wp2_with fail
          go_roundg (4 - (2 + 1))
          case measure => omega
          case rel => exact ⟨2 + 1, by go_num, by omega, by omega, H7.out⟩
        · go_wp2_with fail
          refine (c3 _).mono ?_
          rintro e w7 ⟨rfl, hb7⟩
          have H7 := Hid.mk' (Below.trans HB.out (hb7.mono HB.out.size))
          clear hb7
          go_wp2_with fail
          go_roundg (4 - (3 + 1))
          case measure => omega
          case rel => exact ⟨3 + 1, by go_num, by omega, by omega, H7.out⟩
        · go_wp2_with fail
          go_ret
          exact ⟨rfl, Below.trans H6.out (HB.out.mono H6.out.size)⟩
def awake.f : Option Bool := some true
theorem awake.calls (r : Bool) (w : World) (h : awake.f = some r) (HE : Env w) :
    Calls Tryd.prog 8 #[] w fun e w' => e = .returned (.bool r) ∧ Below w.heap.size w w' := by
  cases h
  exact awake_any w HE
end Go.Proofs.YtpkfnclbcmnckaaDoor
