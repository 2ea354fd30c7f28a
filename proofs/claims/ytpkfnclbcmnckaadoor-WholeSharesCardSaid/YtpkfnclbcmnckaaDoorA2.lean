/- The inner functions of whole, as the second print takes them. -/
import Derived.Test.YtpkfnclbcmnckaaDoorZC1m
import Derived.Deep.RegionHeld3
/- Plain laws of what the first print tells: Check, all, Of, result, sign, opposite, order, Compare. -/
set_option linter.unusedVariables false
namespace Go.Proofs.YtpkfnclbcmnckaaDoor
open Go Go.RowKit Go.Proofs.YtpkfnclbcmnckaaDoor.Dec Go.Proofs.YtpkfnclbcmnckaaDoor.Mem Go.Proofs.YtpkfnclbcmnckaaDoorW.PrintWords

theorem toL (s : ByteArray) : s.toList = s.data.toList := ByteArray.toList_eq s
theorem bt_nat (s : ByteArray) (i : Nat) : bt s (i : Int) = ((s.data.toList.getD i 0).toNat : Int) := by
  unfold bt
  rw [Int.toNat_natCast]
  by_cases h : i < s.size
  · rw [dif_pos h]
    have h2 : i < s.data.toList.length := by rw [← size_list]; exact h
    rw [List.getD_eq_getElem?_getD, List.getElem?_eq_getElem h2, Option.getD_some]
    rfl
  · rw [dif_neg h]
    have h2 : s.data.toList.length ≤ i := by rw [← size_list]; omega
    rw [List.getD_eq_getElem?_getD, List.getElem?_eq_none h2]
    rfl
theorem Ev.pos {α : Type} {c : Prop} [Decidable c] {f g : Nat → Option α} {r : α} (hc : c) (h : Ev f r) : Ev (fun n => if c then f n else g n) r :=
  Ev.congr (fun n => if_pos hc) h
theorem Ev.neg {α : Type} {c : Prop} [Decidable c] {f g : Nat → Option α} {r : α} (hc : ¬ c) (h : Ev g r) : Ev (fun n => if c then f n else g n) r :=
  Ev.congr (fun n => if_neg hc) h
/-- After a given number of rounds. -/
theorem Ev.after {α : Type} {g : Nat → Option α} {r : α} (K : Nat) (h : ∀ m, g (m + K) = some r) : Ev g r :=
  ⟨K, fun k hk => by rw [← h (k - K), Nat.sub_add_cancel hk]⟩

theorem magS_list (s : ByteArray) : (magS s).data.toList = mag s.data.toList := rfl
theorem magS_size (s : ByteArray) : (magS s).size = (mag s.data.toList).length := size_list _
theorem magS_le (s : ByteArray) : (magS s).size ≤ s.size := by rw [magS_size, size_list]; exact mag_le _

theorem ev_check (s : ByteArray) (hs : s.size ≤ 9223372036854775807) : Ev (fun k => ZC.whole_Check.f k s) (chk s) := by
  have e1 : strings_TrimPrefix.f s ⟨#[45]⟩ = some (magS s) := if_pos rfl
  have e2 : strings_Trim.f (magS s) ⟨#[48, 49, 50, 51, 52, 53, 54, 55, 56, 57]⟩ = some ⟨(Lib.trimS (mag s.data.toList) digs.data.toList).toArray⟩ := if_pos ⟨rfl, Nat.le_trans (magS_le s) hs⟩
  refine Ev.after 2 fun k => ?_
  unfold ZC.whole_Check.f
  rw [e1, Option.bind_some, toL, magS_list, e2, Option.bind_some, toL]
  simp only [ZC.whole_Check.j0, ZC.whole_Check.j1]
  have hb := bt_nat (magS s) 0
  rw [magS_list] at hb
  rw [show bt (magS s) 0 = _ from hb, magS_size, toL]
  have ht := trimS_digs (mag s.data.toList)
  unfold chk
  simp only
  generalize mag s.data.toList = d at *
  by_cases h0 : d = []
  · rw [if_pos h0, if_pos trivial, if_pos (.inl h0)]
  · rw [if_neg h0]
    by_cases h1 : d.all isDig = true
    · rw [ht.2 h1, if_neg (by simp), if_neg (c := d = [] ∨ d.all isDig = false) (by rintro (h | h); exact h0 h; rw [h1] at h; cases h)]
      obtain ⟨c, t, rfl⟩ : ∃ c t, d = c :: t := by cases d with | nil => exact absurd rfl h0 | cons c t => exact ⟨c, t, rfl⟩
      rw [if_pos (by simp), List.getD_cons_zero, List.head?_cons]
      have h5 : (((c :: t : List UInt8).length : Int) > 1024) ↔ 1024 < (c :: t : List UInt8).length := by omega
      by_cases h2 : c = 48
      · subst h2
        rw [if_pos (show (((48 : UInt8).toNat : Nat) : Int) = 48 by decide)]
        by_cases h3 : s.data.toList = [48]
        · have g1 : (s.data.toList != [48]) = false := by simp [h3]
          have g2 : ¬ (some (48 : UInt8) = some 48 ∧ s.data.toList ≠ [48]) := fun h => h.2 h3
          rw [g1, if_neg (by simp), if_neg g2]
          by_cases h4 : 1024 < (48 :: t : List UInt8).length
          · rw [if_pos (h5.2 h4), if_pos h4]
          · rw [if_neg (fun h => h4 (h5.1 h)), if_neg h4]
        · have g1 : (s.data.toList != [48]) = true := by simp [h3]
          have g2 : some (48 : UInt8) = some 48 ∧ s.data.toList ≠ [48] := ⟨rfl, h3⟩
          rw [g1, if_pos rfl, if_pos g2]
      · have h2' : ¬ ((c.toNat : Int) = 48) := fun h => h2 (u8_toNat (show c.toNat = 48 by omega))
        have g2 : ¬ (some c = some 48 ∧ s.data.toList ≠ [48]) := fun h => h2 (Option.some.inj h.1)
        rw [if_neg h2', if_neg (by decide), if_neg g2]
        by_cases h4 : 1024 < (c :: t : List UInt8).length
        · rw [if_pos (h5.2 h4), if_pos h4]
        · rw [if_neg (fun h => h4 (h5.1 h)), if_neg h4]
    · have h1' : d.all isDig = false := by simpa using h1
      have g1 : (Lib.trimS d digs.data.toList != []) = true := by
        have : Lib.trimS d digs.data.toList ≠ [] := fun h => h1 (ht.1 h)
        simpa using this
      have g2 : d = [] ∨ d.all isDig = false := .inr h1'
      rw [g1, if_pos rfl, if_pos g2]

/-- The first error of some texts. -/
def errs : List ByteArray → Int
  | [] => 0
  | a :: l => if chk a = 0 then errs l else chk a
theorem ev_all_from (l : List ByteArray) (hl : l.length ≤ 9223372036854775806) (hs : ∀ s ∈ l, s.size ≤ 9223372036854775807) : ∀ (d i : Nat), l.length - i = d → i ≤ l.length →
    Ev (fun k => ZC.whole_all.l0 k l (l.length : Int) (i : Int)) (errs (l.drop i))
  | 0, i, hd, hi => by
    have : i = l.length := by omega
    subst this
    rw [List.drop_length]
    refine Ev.after 1 fun k => ?_
    simp only [ZC.whole_all.l0]
    rw [if_neg (by omega)]
    rfl
  | d + 1, i, hd, hi => by
    have hlt : i < l.length := by omega
    have hg : rdOf ByteArray.empty l (i : Int) = l[i] := by
      unfold rdOf
      rw [Int.toNat_natCast, List.getD_eq_getElem?_getD, List.getElem?_eq_getElem hlt, Option.getD_some]
    rw [List.drop_eq_getElem_cons hlt]
    refine Ev.step (f := fun k => (ZC.whole_Check.f k l[i]).bind fun t => if t = 0 then ZC.whole_all.l0 k l (l.length : Int) ((i + 1 : Nat) : Int) else some t) (fun k => ?_) ?_
    · simp only [ZC.whole_all.l0]
      rw [if_pos (by omega), if_pos (by omega), if_pos (by omega), hg, IntWalk.wrap64_in _ (by omega)]
      rfl
    · refine Ev.bind (ev_check _ (hs _ (List.getElem_mem hlt))) ?_
      unfold errs
      by_cases h : chk l[i] = 0
      · rw [if_pos h]
        exact Ev.pos h (ev_all_from l hl hs d (i + 1) (by omega) hlt)
      · rw [if_neg h]
        exact Ev.neg h (Ev.now _)
theorem ev_all (l : List ByteArray) (hl : l.length ≤ 9223372036854775806) (hs : ∀ s ∈ l, s.size ≤ 9223372036854775807) : Ev (fun k => ZC.whole_all.f k l) (errs l) := by
  have := ev_all_from l hl hs l.length 0 (by omega) (by omega)
  exact this
end Go.Proofs.YtpkfnclbcmnckaaDoor
/- The walks of whole.small and (*whole.wide).limited. -/
set_option linter.unusedVariables false
namespace Go.Proofs.YtpkfnclbcmnckaaDoor
open Go Go.RowKit Go.Proofs.YtpkfnclbcmnckaaDoor.Dec Go.Proofs.YtpkfnclbcmnckaaDoor.Mem Go.Proofs.YtpkfnclbcmnckaaDoor.Wid Go.Proofs.YtpkfnclbcmnckaaDoorW.PrintWords

theorem check_any (s : ByteArray) (hs : s.size ≤ 9223372036854775807) (w : World) :
    Calls Tryd.prog 22 #[.string s] w fun e w' => e = .returned (.int .i64 (chk s)) ∧ Below w.heap.size w w' := by
  obtain ⟨k, h⟩ := (ev_check s hs).rounds
  exact ZC.whole_Check.calls k s _ w h
theorem atoi_canon {s : ByteArray} (hc : canon s.data.toList) (hl : (mag s.data.toList).length ≤ 18) : Lib.atoiAll s.data.toList = .ok (iv s) := by
  unfold iv ival
  have hc1 := hc.1
  by_cases h : s.data.toList.head? = some 45
  · rw [if_pos h]
    have e : s.data.toList = 45 :: mag s.data.toList := by
      unfold mag
      rw [if_pos h]
      cases hl2 : s.data.toList with
      | nil => rw [hl2] at h; cases h
      | cons c t => rw [hl2] at h; obtain rfl : c = 45 := Option.some.inj h; rfl
    rw [e, show mag (45 :: mag s.data.toList) = mag s.data.toList from rfl]
    exact atoiAll_neg _ hc1.1 hc1.2.1 hl
  · rw [if_neg h]
    have e : s.data.toList = mag s.data.toList := by unfold mag; rw [if_neg h]
    rw [← e] at hc1 hl ⊢
    exact atoiAll_digits _ hc1.1 hc1.2.1 hl

set_option maxRecDepth 100000 in
theorem small_long (a b : ByteArray) (w : World) (h : 9 < a.size ∨ 9 < b.size) :
    Calls Tryd.prog 30 #[.string a, .string b] w fun e w' => e = .returned (.tuple #[.int .i64 0, .int .i64 0, .bool false]) ∧ Below w.heap.size w w' := by
  by_cases h1 : 9 < a.size
  · have g : decide ((9 : Int) < (a.size : Int)) = true := decide_eq_true (by omega)
    clear h h1
    go_enter Tryd.func30, Tryd.ntmps30
    go_wp2_with fail
    go_ret3
    exact ⟨rfl, Below.refl _ _⟩
  · have g : decide ((9 : Int) < (a.size : Int)) = false := decide_eq_false (by omega)
    have g2 : decide ((9 : Int) < (b.size : Int)) = true := decide_eq_true (by omega)
    clear h h1
    go_enter Tryd.func30, Tryd.ntmps30
    go_wp2_with fail
    go_ret3
    exact ⟨rfl, Below.refl _ _⟩
set_option maxRecDepth 100000 in
theorem small_short (a b : ByteArray) (w : World) (ha : canon a.data.toList) (hb : canon b.data.toList) (h1 : a.size ≤ 9) (h2 : b.size ≤ 9) :
    Calls Tryd.prog 30 #[.string a, .string b] w fun e w' => e = .returned (.tuple #[.int .i64 (iv a), .int .i64 (iv b), .bool true]) ∧ Below w.heap.size w w' := by
  have g1 : decide ((9 : Int) < (a.size : Int)) = false := decide_eq_false (by omega)
  have g2 : decide ((9 : Int) < (b.size : Int)) = false := decide_eq_false (by omega)
  have la : (mag a.data.toList).length ≤ 18 := by have := mag_le a.data.toList; rw [size_list] at h1; omega
  have lb : (mag b.data.toList).length ≤ 18 := by have := mag_le b.data.toList; rw [size_list] at h2; omega
  have HA := Hid.mk' (atoi_canon ha la)
  have HBB := Hid.mk' (atoi_canon hb lb)
  have s1 : a.size ≤ 9223372036854775806 := by omega
  have s2 : b.size ≤ 9223372036854775806 := by omega
  clear ha hb h1 h2 la lb
  go_enter Tryd.func30, Tryd.ntmps30
  go_wp2_with fail
  refine (atoi_ok a _ s1 HA.out w).mono ?_
  rintro e w1 ⟨rfl, hb1⟩
  have HB1 := Hid.mk' hb1
  clear hb1
  go_wp2_with fail
  refine (atoi_ok b _ s2 HBB.out w1).mono ?_
  rintro e w2 ⟨rfl, hb2⟩
  have HB2 := Hid.mk' (Below.trans HB1.out (hb2.mono HB1.out.size))
  clear hb2
  go_wp2_with fail
  go_ret3
  exact ⟨rfl, HB2.out⟩

/-- A result, or that it is too long. -/
def lim (z : Int) : ByteArray × Int := if chk (dec z) = 0 then (dec z, 0) else (⟨#[]⟩, 11)
theorem dec_size (l : Bool) (v : Nat) (fv : Fits v) : (dec (sv l v)).size ≤ 2089 := by
  have h := mag_ge (dec (sv l v)).data.toList
  rw [size_list]
  have h2 : (mag (dec (sv l v)).data.toList).length ≤ 2088 := by
    rw [dec_list, mag_itoa, show (sv l v).natAbs = v by unfold sv; cases l <;> simp]
    have := digits_le fv 0
    rwa [Nat.pow_zero, Nat.div_one] at this
  omega
theorem chk_dec_or (z : Int) : chk (dec z) = 0 ∨ chk (dec z) = 11 := by rw [chk_dec]; split <;> simp

set_option maxRecDepth 100000 in
theorem limited_any (b : Nat) (l : Bool) (v : Nat) (w : World) (hx : IsW w b l v) (fv : Fits v) (HE : Env w) :
    Calls Tryd.prog 27 #[.pointer (some ⟨b, 0, none⟩)] w fun e w' => e = .returned (.tuple #[.string (lim (sv l v)).1, .int .i64 (lim (sv l v)).2]) ∧ Below w.heap.size w w' := by
  have HX := Hid.mk' hx
  have HT := Hid.mk' HE
  have hs : (dec (sv l v)).size ≤ 9223372036854775807 := Nat.le_trans (dec_size l v fv) (by decide)
  have HF := Hid.mk' fv
  clear hx HE fv
  have hc := chk_dec_or (sv l v)
  have hl : lim (sv l v) = if chk (dec (sv l v)) = 0 then (dec (sv l v), 0) else (⟨#[]⟩, 11) := rfl
  have HTX : Hid (∀ w, IsW w b l v → Tab w → Calls Tryd.prog 32 #[.pointer (some ⟨b, 0, none⟩)] w fun e w' => e = .returned (.string (dec (sv l v))) ∧ Below w.heap.size w w') := fun w h1 h2 => text_any b l v w h1 HF.out h2
  have HC : Hid (∀ w, Calls Tryd.prog 22 #[.string (dec (sv l v))] w fun e w' => e = .returned (.int .i64 (chk (dec (sv l v)))) ∧ Below w.heap.size w w') := fun w => check_any _ hs w
  generalize lim (sv l v) = L at *
  generalize dec (sv l v) = d at *
  generalize chk d = c at *
  go_enter Tryd.func27, Tryd.ntmps27
  go_wp2_with fail
  refine (HTX.out w HX.out HT.out.1).mono ?_
  rintro e w1 ⟨rfl, hb1⟩
  have HB1 := Hid.mk' hb1
  clear hb1
  go_wp2_with fail
  refine (HC.out w1).mono ?_
  rintro e w2 ⟨rfl, hb2⟩
  have HB2 := Hid.mk' (Below.trans HB1.out (hb2.mono HB1.out.size))
  clear hb2
  rcases hc with rfl | rfl
  · rw [if_pos rfl] at hl
    subst hl
    go_wp2_with fail
    go_ret2
    exact ⟨rfl, HB2.out⟩
  · rw [if_neg (by decide)] at hl
    subst hl
    go_wp2_with fail
    go_ret2
    exact ⟨rfl, HB2.out⟩
end Go.Proofs.YtpkfnclbcmnckaaDoor
/- The walk of whole.Mul. -/
set_option linter.unusedVariables false
namespace Go.Proofs.YtpkfnclbcmnckaaDoor
open Go Go.RowKit Go.Proofs.YtpkfnclbcmnckaaDoor.Dec Go.Proofs.YtpkfnclbcmnckaaDoor.Mem Go.Proofs.YtpkfnclbcmnckaaDoor.Wid Go.Proofs.YtpkfnclbcmnckaaDoorW.PrintWords

theorem all_any (A : Option Addr) (c : Nat) (l : List ByteArray) (w : World) (hr : Kd.C Kd.string w A l.length l) (hc : l.length ≤ c) (hl : l.length ≤ 9223372036854775806) (hs : ∀ s ∈ l, s.size ≤ 9223372036854775807) :
    Calls Tryd.prog 28 #[.slice A l.length c] w fun e w' => e = .returned (.int .i64 (errs l)) ∧ Below w.heap.size w w' := by
  obtain ⟨k, h⟩ := (ev_all l hl hs).rounds
  exact ZC.whole_all.calls k A c l _ w hr hc h
theorem result_any (z : Int) (h0 : -9223372036854775808 ≤ z) (h1 : z ≤ 9223372036854775807) (w : World) (HE : Env w) :
    Calls Tryd.prog 31 #[.int .i64 z] w fun e w' => e = .returned (.tuple #[.string (dec z), .int .i64 0]) ∧ Below w.heap.size w w' := by
  refine ZC.whole_result.calls z _ _ w ?_ HE
  unfold ZC.whole_result.f ZC.whole_Of.f strconv_Itoa.f
  rw [if_pos ⟨h0, h1⟩]
  rfl
theorem of_any (z : Int) (h0 : -9223372036854775808 ≤ z) (h1 : z ≤ 9223372036854775807) (w : World) (HE : Env w) :
    Calls Tryd.prog 25 #[.int .i64 z] w fun e w' => e = .returned (.string (dec z)) ∧ Below w.heap.size w w' := by
  refine ZC.whole_Of.calls z _ w ?_ HE
  unfold ZC.whole_Of.f strconv_Itoa.f
  rw [if_pos ⟨h0, h1⟩]
  rfl
theorem errs2 {a b : ByteArray} (h : errs [a, b] = 0) : chk a = 0 ∧ chk b = 0 := by
  simp only [errs] at h
  by_cases h1 : chk a = 0
  · rw [if_pos h1] at h
    by_cases h2 : chk b = 0
    · exact ⟨h1, h2⟩
    · rw [if_neg h2] at h; exact absurd h h2
  · rw [if_neg h1] at h; exact absurd h h1
theorem iv_lt {s : ByteArray} (h : canon s.data.toList) {n : Nat} (hn : s.size ≤ n) : (iv s).natAbs < 10 ^ n :=
  ival_lt h n (Nat.le_trans (mag_le _) (by rw [← size_list]; exact hn))
theorem iv_small {s : ByteArray} (h : canon s.data.toList) (hn : s.size ≤ 9) : -1000000000 < iv s ∧ iv s < 1000000000 := by
  have := iv_lt h hn
  rw [show (10 : Nat) ^ 9 = 1000000000 from rfl] at this
  omega
theorem iv_chk {s : ByteArray} (h : chk s = 0) : (iv s).natAbs < B ^ 114 := by
  have h1 := ival_lt (chk_zero h).1 1026 (by have := (chk_zero h).2; omega)
  rw [B_pow 114, show 9 * 114 = 1026 from rfl]
  exact h1
theorem size_chk {s : ByteArray} (h : chk s = 0) : s.size ≤ 2000 := by
  have := (chk_zero h).2
  have := mag_ge s.data.toList
  rw [size_list]; omega
theorem fits_114 {v : Nat} (h : v < B ^ 114) : Fits v := Nat.lt_of_lt_of_le h (Nat.pow_le_pow_right B_pos (by decide))
theorem fits_mul {v u : Nat} (h : v < B ^ 114) (k : u < B ^ 114) : Fits (v * u) := by
  have h1 : v * u < B ^ 114 * B ^ 114 := Nat.mul_lt_mul'' h k
  rw [← Nat.pow_add] at h1
  exact Nat.lt_of_lt_of_le h1 (Nat.pow_le_pow_right B_pos (by decide))
theorem sv_mul (x y : Int) : sv (decide (x < 0) != decide (y < 0)) (x.natAbs * y.natAbs) = x * y := by
  have hx : (x.natAbs : Int) = if x < 0 then -x else x := by split <;> omega
  have hy : (y.natAbs : Int) = if y < 0 then -y else y := by split <;> omega
  unfold sv
  by_cases h1 : x < 0 <;> by_cases h2 : y < 0
  · rw [if_pos h1] at hx; rw [if_pos h2] at hy
    rw [decide_eq_true h1, decide_eq_true h2, Int.natCast_mul, hx, hy]; simp [Int.neg_mul, Int.mul_neg]
  · rw [if_pos h1] at hx; rw [if_neg h2] at hy
    rw [decide_eq_true h1, decide_eq_false h2, Int.natCast_mul, hx, hy]; simp [Int.neg_mul]
  · rw [if_neg h1] at hx; rw [if_pos h2] at hy
    rw [decide_eq_false h1, decide_eq_true h2, Int.natCast_mul, hx, hy]; simp [Int.mul_neg]
  · rw [if_neg h1] at hx; rw [if_neg h2] at hy
    rw [decide_eq_false h1, decide_eq_false h2, Int.natCast_mul, hx, hy]; simp
theorem ten_pow_lt {z : Int} {n : Nat} (h : z.natAbs < 10 ^ n) (hn : n ≤ 1024) : chk (dec z) = 0 := by
  rw [chk_dec, if_neg]
  have := Nat.pow_le_pow_right (show 0 < 10 by decide) hn
  omega
theorem lim_small {z : Int} {n : Nat} (h : z.natAbs < 10 ^ n) (hn : n ≤ 1024) : lim z = (dec z, 0) := if_pos (ten_pow_lt h hn)

def whole_Mul.f (a b : ByteArray) : Option (ByteArray × Int) :=
  if a.size ≤ 9223372036854775807 ∧ b.size ≤ 9223372036854775807 then some (if errs [a, b] = 0 then lim (iv a * iv b) else (⟨#[]⟩, errs [a, b])) else none

theorem mul_small {x y : Int} (hx : -1000000000 < x ∧ x < 1000000000) (hy : -1000000000 < y ∧ y < 1000000000) : (x * y).natAbs < 10 ^ 18 := by
  rw [Int.natAbs_mul]
  have h1 : x.natAbs < 1000000000 := by omega
  have h2 : y.natAbs < 1000000000 := by omega
  exact Nat.lt_of_lt_of_le (Nat.mul_lt_mul'' h1 h2) (by decide)

set_option maxRecDepth 100000 in
set_option maxHeartbeats 1000000 in
theorem mul_any (a b : ByteArray) (w : World) (ha : a.size ≤ 9223372036854775807) (hb : b.size ≤ 9223372036854775807) (HE : Env w) (L : ByteArray × Int) (hL : L = if errs [a, b] = 0 then lim (iv a * iv b) else (⟨#[]⟩, errs [a, b])) :
    Calls Tryd.prog 13 #[.string a, .string b] w fun e w' => e = .returned (.tuple #[.string L.1, .int .i64 L.2]) ∧ Below w.heap.size w w' := by
  have HS : Hid (∀ s ∈ [a, b], s.size ≤ 9223372036854775807) := by
    show ∀ s ∈ [a, b], s.size ≤ 9223372036854775807
    simp [ha, hb]
  have HEE := Hid.mk' HE
  have HL := Hid.mk' hL
  have He : Hid (errs [a, b] = 0 → chk a = 0 ∧ chk b = 0) := errs2
  obtain ⟨E, hE⟩ : ∃ E, errs [a, b] = E := ⟨_, rfl⟩
  rw [hE] at He
  have HEQ := Hid.mk' hE
  clear ha hb HE hL hE
  go_enter Tryd.func13, Tryd.ntmps13
  go_wp2_with ((with_reducible refine gate_dst (N := 12) rfl ?_); refine Kd.R_lit Kd.string _ 22 ?hg (N := 12) ?hd (xs := ([a, b] : List ByteArray)) (inner := [.string a, .string b]) (ok := fun _ => True) (okp := fun _ => True) ?hr ?hp (fun _ hk => hk) trivial (Below.refl _ _) (Nat.le_refl _) (by simp) ?_; (case hd => rfl); (case hg => rfl); (case hr => first | (go_simp; done) | (go_simp; rfl)); (case hp => exact (Reps.one (show Kd.M Kd.string _ _ _ a [.string a] from rfl) (Reps.one (show Kd.M Kd.string _ _ _ b [.string b] from rfl) (Reps.none _ _)))); intro v1 w1 ho hb _ _; have HO := Hid.mk' ho; have HB1 := Hid.mk' hb; clear ho hb; obtain ⟨Ao, co, eo⟩ := Kd.R_slice HO.out; subst eo)
  refine (all_any Ao co [a, b] w1 (Kd.R_reads' HO.out).2.2 (Kd.R_reads' HO.out).2.1 (by simp) HS.out).mono ?_
  rintro e w2 ⟨rfl, hb2⟩
  rw [HEQ.out]
  have HB2 := Hid.mk' (Below.trans HB1.out (hb2.mono HB1.out.size))
  clear hb2 HO HB1
  by_cases h0 : E = 0
  · subst h0
    obtain ⟨ca, cb⟩ := He.out rfl
    have CA := Hid.mk' ca
    have CB := Hid.mk' cb
    have HL2 : Hid (L = lim (iv a * iv b)) := by show _ = _; rw [HL.out, if_pos HEQ.out]
    clear ca cb He HS HL
    go_wp2_with fail
    by_cases hs : a.size ≤ 9 ∧ b.size ≤ 9
    · have sa := iv_small (chk_zero CA.out).1 hs.1
      have sb := iv_small (chk_zero CB.out).1 hs.2
      refine (small_short a b w2 (chk_zero CA.out).1 (chk_zero CB.out).1 hs.1 hs.2).mono ?_
      rintro e w3 ⟨rfl, hb3⟩
      have HB3 := Hid.mk' (Below.trans HB2.out (hb3.mono HB2.out.size))
      have hp := mul_small sa sb
      have HL3 : Hid (L = (dec (iv a * iv b), 0)) := by show _ = _; rw [HL2.out]; exact lim_small hp (by decide)
      have hw : IntKind.i64.wrap (iv a * iv b) = iv a * iv b := IntWalk.i64_in _ (by rw [show (10 : Nat) ^ 18 = 1000000000000000000 from rfl] at hp; omega)
      have hq : -9223372036854775808 ≤ iv a * iv b ∧ iv a * iv b ≤ 9223372036854775807 := by rw [show (10 : Nat) ^ 18 = 1000000000000000000 from rfl] at hp; omega
      clear hb3 hs sa sb hp CA CB HL2
      generalize iv a = x at *
      generalize iv b = y at *
      go_wp2_with fail
      try rw [hw]
      refine (result_any (x * y) hq.1 hq.2 w3 (HEE.out.below HB3.out)).mono ?_
      rintro e w4 ⟨rfl, hb4⟩
      have HB4 := Hid.mk' (Below.trans HB3.out (hb4.mono HB3.out.size))
      clear hb4
      go_wp2_with fail
      go_ret2
      obtain rfl := HL3.out
      exact ⟨rfl, HB4.out⟩
    · refine (small_long a b w2 (by omega)).mono ?_
      rintro e w3 ⟨rfl, hb3⟩
      have HB3 := Hid.mk' (Below.trans HB2.out (hb3.mono HB2.out.size))
      clear hb3 hs
      go_wp2_with fail
      refine (read_any a w3 (chk_zero CA.out).1 (size_chk CA.out)).mono ?_
      rintro e w4 ⟨pa, rfl, hpa, hwa, hb4⟩
      have HB4 := Hid.mk' (Below.trans HB3.out (hb4.mono HB3.out.size))
      have HWA := Hid.mk' hwa
      clear hb4 hwa
      go_wp2_with fail
      refine (read_any b w4 (chk_zero CB.out).1 (size_chk CB.out)).mono ?_
      rintro e w5 ⟨pb, rfl, hpb, hwb, hb5⟩
      have HB5 := Hid.mk' (Below.trans HB4.out (hb5.mono HB4.out.size))
      have HWA2 := Hid.mk' (HWA.out.below hb5 HWA.out.size)
      have HWB := Hid.mk' hwb
      clear hb5 hwb
      go_wp2_with fail
      refine (times_any pa pb _ _ _ _ w5 HWA2.out HWB.out (fits_114 (iv_chk CA.out)) (fits_114 (iv_chk CB.out)) (fits_mul (iv_chk CA.out) (iv_chk CB.out))).mono ?_
      rintro e w6 ⟨po, rfl, hpo, hwo, hb6⟩
      have HB6 := Hid.mk' (Below.trans HB5.out (hb6.mono HB5.out.size))
      have HWO := Hid.mk' hwo
      clear hb6 hwo
      go_wp2_with fail
      refine (limited_any po _ _ w6 HWO.out (fits_mul (iv_chk CA.out) (iv_chk CB.out)) (HEE.out.below HB6.out)).mono ?_
      rintro e w7 ⟨rfl, hb7⟩
      rw [sv_mul]
      have HB7 := Hid.mk' (Below.trans HB6.out (hb7.mono HB6.out.size))
      clear hb7
      go_wp2_with fail
      go_ret2
      obtain rfl := HL2.out
      exact ⟨rfl, HB7.out⟩
  · have HL2 : Hid (L = (⟨#[]⟩, E)) := by show _ = _; rw [HL.out, HEQ.out, if_neg h0]
    have g : (E == 0) = false := beq_eq_false_iff_ne.2 h0
    clear He HL HEQ h0
    go_wp2_with fail
    go_ret2
    obtain rfl := HL2.out
    exact ⟨rfl, HB2.out⟩

theorem whole_Mul.calls (a0 a1 : ByteArray) (r1 : ByteArray) (r2 : Int) (w : World) (h : whole_Mul.f a0 a1 = some (r1, r2)) (HE : Env w) :
    Calls Tryd.prog 13 #[.string a0, .string a1] w fun e w' => e = .returned (.tuple #[.string r1, .int .i64 r2]) ∧ Below w.heap.size w w' := by
  unfold whole_Mul.f at h
  split at h
  · rename_i hs
    exact mul_any a0 a1 w hs.1 hs.2 HE (r1, r2) (Option.some.inj h).symm
  · cases h
end Go.Proofs.YtpkfnclbcmnckaaDoor
/- The walk of whole.sum. -/
set_option linter.unusedVariables false
namespace Go.Proofs.YtpkfnclbcmnckaaDoor
open Go Go.RowKit Go.Proofs.YtpkfnclbcmnckaaDoor.Dec Go.Proofs.YtpkfnclbcmnckaaDoor.Mem Go.Proofs.YtpkfnclbcmnckaaDoor.Wid Go.Proofs.YtpkfnclbcmnckaaDoorW.PrintWords

def total : List ByteArray → Int
  | [] => 0
  | a :: l => iv a + total l
theorem total_append (l m : List ByteArray) : total (l ++ m) = total l + total m := by
  induction l with
  | nil => simp [total]
  | cons a l ih => simp only [List.cons_append, total, ih]; omega
theorem total_succ (l : List ByteArray) (i : Nat) (h : i < l.length) : total (l.take (i + 1)) = total (l.take i) + iv l[i] := by
  rw [List.take_succ_eq_append_getElem h, total_append]
  simp [total]
theorem sv_iv (z : Int) : sv (decide (z < 0)) z.natAbs = z := by
  unfold sv
  by_cases h : z < 0
  · rw [decide_eq_true h, if_pos rfl]; omega
  · rw [decide_eq_false h, if_neg (by decide)]; omega
theorem sum_room {i v u : Nat} (hi : i < 4096) (hv : v ≤ i * B ^ 114) (hu : u < B ^ 114) : v + u ≤ (i + 1) * B ^ 114 := by
  rw [Nat.add_mul, Nat.one_mul]; omega
theorem sum_fits {i v : Nat} (hi : i ≤ 4096) (hv : v ≤ i * B ^ 114) : Fits v := by
  have h1 : i * B ^ 114 ≤ 4096 * B ^ 114 := Nat.mul_le_mul_right _ hi
  have h2 : 4096 * B ^ 114 < B * B ^ 114 := Nat.mul_lt_mul_of_pos_right (by decide) (Nat.pow_pos B_pos)
  have h3 : B * B ^ 114 = B ^ 115 := by rw [Nat.mul_comm, ← Nat.pow_succ]
  have h4 : B ^ 115 ≤ B ^ 232 := Nat.pow_le_pow_right B_pos (by decide)
  unfold Fits
  omega
theorem alloc_zero (w : World) : IsW (w.alloc (.cells Tryd.zeroCells52 52)) w.heap.size false 0 := by
  show IsX _ _ _ _ _
  rw [zero_plain, nw_zero, W_zero]
  exact isX_alloc_new w false 0 _ List.length_replicate

set_option maxRecDepth 100000 in
set_option maxHeartbeats 1000000 in
theorem sum_any (A : Option Addr) (c : Nat) (l : List ByteArray) (w : World) (hr : Kd.C Kd.string w A l.length l) (hc : l.length ≤ c) (hl : l.length ≤ 4096) (hs : ∀ s ∈ l, chk s = 0) (HE : Env w) :
    Calls Tryd.prog 29 #[.slice A l.length c] w fun e w' => e = .returned (.tuple #[.string (lim (total l)).1, .int .i64 (lim (total l)).2]) ∧ Below w.heap.size w w' := by
  have HR := Hid.mk' hr
  have HS := Hid.mk' hs
  have HEE := Hid.mk' HE
  have HA := Hid.mk' (alloc_zero w)
  have HB0 : Hid (Below w.heap.size w (w.alloc (.cells Tryd.zeroCells52 52))) := (Below.refl _ _).alloc (Nat.le_refl _) _
  clear hr hs HE
  go_enter Tryd.func29, Tryd.ntmps29
  go_wp2_with fail
  obtain ⟨o, ho⟩ : ∃ o, w.heap.size = o := ⟨_, rfl⟩
  generalize hW0 : w.alloc (.cells Tryd.zeroCells52 52) = W0 at HB0 HA ⊢
  clear hW0
  have HO := Hid.mk' ho
  rw [ho] at HB0 HA ⊢
  clear ho
  go_loopg [11] (l.length) (fun g s11 wr => ∃ (i : Nat) (lx : Bool) (vx : Nat), s11 = .int .i64 (i : Int) ∧ i ≤ l.length ∧ l.length - i ≤ g ∧ IsW wr o lx vx ∧ Hid (sv lx vx = total (l.take i)) ∧ Hid (vx ≤ i * B ^ 114) ∧ Below o w wr)
  case atStart => exact ⟨0, false, 0, rfl, by omega, by omega, HA.out, (by show _ = _; rfl), (by show _ ≤ _; omega), HB0.out⟩
  case round =>
    obtain ⟨i, lx, vx, rfl, hi, hg, hx, HV, HM, hB⟩ := hrel
    have HX := Hid.mk' hx
    have HB := Hid.mk' hB
    clear hx hB HA HB0
    rcases Nat.lt_or_ge i l.length with hlt | hge
    · have g1 : (i : Int) < (l.length : Int) := by omega
      have g0 : (0 : Int) ≤ (i : Int) := by omega
      obtain ⟨ad, e1, hxa⟩ := Kd.at_string HR.out (i : Int) g0 g1
      cases e1
      have hg2 : rdOf ByteArray.empty l (i : Int) = l[i] := by
        unfold rdOf
        rw [Int.toNat_natCast, List.getD_eq_getElem?_getD, List.getElem?_eq_getElem hlt, Option.getD_some]
      rw [hg2, Int.toNat_natCast] at hxa
      clear hg2
      have hca : chk l[i] = 0 := HS.out _ (List.getElem_mem hlt)
      have htot := Hid.mk' (total_succ l i hlt)
      generalize l[i] = s at *
      have hxb := hxa
      replace hxa := (HB.out.cell (by rw [← HO.out]; exact World.block_lt_of_cell? w _ hxb)).trans hxa
      have HCA := Hid.mk' hca
      have h46 : i < 4096 := by omega
      clear hca hxb
      have g0' := eq_true g0
      have g1' := eq_true g1
      clear g0 g1
      go_wp2_with fail
      refine (read_any s wr (chk_zero HCA.out).1 (size_chk HCA.out)).mono ?_
      rintro e w1 ⟨p, rfl, hp, hw1, hb1⟩
      have HX1 := Hid.mk' (HX.out.below hb1 HX.out.size)
      have HB1 := Hid.mk' (Below.trans HB.out (hb1.mono (Nat.le_trans (Nat.le_of_eq HO.out.symm) (by have := HB.out.size; have := HO.out; omega))))
      have HP := Hid.mk' hw1
      have hop : o ≠ p := by have := HX.out.size; omega
      clear hb1 hw1
      go_wp2_with fail
      refine (plus_any o p hop _ _ _ _ w1 HX1.out HP.out (sum_fits (i := i) (by omega) HM.out) (fits_114 (iv_chk HCA.out)) (sum_fits (i := i + 1) (by omega) (sum_room h46 HM.out (iv_chk HCA.out)))).mono ?_
      rintro e w2 ⟨rfl, ⟨l2, v2, hw2, hs2, hv2⟩, hgr⟩
      have HB2 := Hid.mk' (Below.trans HB1.out (grown_below (Nat.le_refl o) hgr (Nat.le_of_lt HX1.out.size)))
      have HW2 := Hid.mk' hw2
      have HT2 : Hid (sv l2 v2 = total (l.take (i + 1))) := by show _ = _; rw [hs2, HV.out, sv_iv, htot.out]
      have HV2 : Hid (v2 ≤ (i + 1) * B ^ 114) := Nat.le_trans hv2 (sum_room h46 HM.out (iv_chk HCA.out))
      clear hw2 hs2 hv2 hgr
      go_wp2_with fail
      go_roundg (l.length - (i + 1))
      case measure => omega
      case rel => exact ⟨i + 1, l2, v2, by go_num, by omega, by omega, HW2.out, HT2, HV2, HB2.out⟩
    · have g1 : ¬ ((i : Int) < (l.length : Int)) := by omega
      have hi2 : i = l.length := by omega
      subst hi2
      have HT2 : Hid (sv lx vx = total l) := by show _ = _; rw [HV.out, List.take_length]
      clear HV
      go_wp2_with fail
      refine (limited_any o lx vx wr HX.out (sum_fits hl HM.out) (HEE.out.below (by rw [HO.out]; exact HB.out))).mono ?_
      rintro e w1 ⟨rfl, hb1⟩
      have HB1 := Hid.mk' (Below.trans HB.out (hb1.mono (by have := HB.out.size; have := HO.out; omega)))
      rw [HT2.out]
      clear hb1
      go_wp2_with fail
      go_ret2
      exact ⟨rfl, by rw [HO.out]; exact HB1.out⟩

def whole_sum.f (l : List ByteArray) : Option (ByteArray × Int) := if l.length ≤ 4096 ∧ ∀ s ∈ l, chk s = 0 then some (lim (total l)) else none
theorem whole_sum.calls (A0 : Option Addr) (c0 : Nat) (l0 : List ByteArray) (r1 : ByteArray) (r2 : Int) (w : World) (hr0 : Kd.C Kd.string w A0 l0.length l0) (hc0 : l0.length ≤ c0) (h : whole_sum.f l0 = some (r1, r2)) (HE : Env w) :
    Calls Tryd.prog 29 #[.slice A0 l0.length c0] w fun e w' => e = .returned (.tuple #[.string r1, .int .i64 r2]) ∧ Below w.heap.size w w' := by
  unfold whole_sum.f at h
  split at h
  · rename_i hs
    have := sum_any A0 c0 l0 w hr0 hc0 hs.1 hs.2 HE
    rw [Option.some.inj h] at this
    exact this
  · cases h
end Go.Proofs.YtpkfnclbcmnckaaDoor
/- Division rounded down, out of magnitudes. No program here. -/
set_option linter.unusedVariables false
namespace Go.Proofs.YtpkfnclbcmnckaaDoor
open Go Go.Proofs.YtpkfnclbcmnckaaDoor.Dec Go.Proofs.YtpkfnclbcmnckaaDoor.Mem Go.Proofs.YtpkfnclbcmnckaaDoor.Wid

theorem int_cases (x : Int) : (∃ m : Nat, x = (m : Int)) ∨ ∃ m : Nat, x = -(m : Int) ∧ 0 < m := by
  by_cases h : 0 ≤ x
  · exact .inl ⟨x.toNat, by omega⟩
  · exact .inr ⟨(-x).toNat, by omega, by omega⟩
theorem abs_nat (m : Nat) : (m : Int).natAbs = m := by omega
theorem abs_neg (m : Nat) : (-(m : Int)).natAbs = m := by omega
theorem lt_nat (m : Nat) : decide ((m : Int) < 0) = false := decide_eq_false (by omega)
theorem lt_neg {m : Nat} (h : 0 < m) : decide (-(m : Int) < 0) = true := decide_eq_true (by omega)

/-- The two cases, told of magnitudes. -/
theorem parted_long (x y : Int) (hy : y ≠ 0) :
    (0 < x.natAbs % y.natAbs ∧ decide (x < 0) ≠ decide (y < 0) → x.fdiv y = sv true (x.natAbs / y.natAbs) + -1 ∧ x.fmod y = sv (decide (x < 0)) (x.natAbs % y.natAbs) + y) ∧
    (¬ (0 < x.natAbs % y.natAbs ∧ decide (x < 0) ≠ decide (y < 0)) → x.fdiv y = sv (decide (x < 0) != decide (y < 0)) (x.natAbs / y.natAbs) ∧ x.fmod y = sv (decide (x < 0)) (x.natAbs % y.natAbs)) := by
  rcases int_cases x with ⟨m, rfl⟩ | ⟨m, rfl, hm⟩ <;> rcases int_cases y with ⟨n, rfl⟩ | ⟨n, rfl, hn⟩
  · rw [abs_nat, abs_nat, lt_nat, lt_nat]
    have hn : 0 < n := by omega
    have h1 := Nat.div_add_mod m n
    have h2 := Nat.mod_lt m hn
    generalize m / n = q at *
    generalize m % n = r at *
    have e : ((n * q : Nat) : Int) = (n : Int) * (q : Int) := Int.natCast_mul _ _
    refine ⟨fun h => absurd rfl h.2, fun _ => (Int.fdiv_fmod_unique (by omega)).2 ⟨?_, ?_, ?_⟩⟩
    · simp only [sv]; simp; omega
    · simp only [sv]; simp
    · simp only [sv]; simp; omega
  · rw [abs_nat, abs_neg, lt_nat, lt_neg hn]
    have h1 := Nat.div_add_mod m n
    have h2 := Nat.mod_lt m hn
    generalize m / n = q at *
    generalize m % n = r at *
    have e : ((n * q : Nat) : Int) = (n : Int) * (q : Int) := Int.natCast_mul _ _
    refine ⟨fun h => (Int.fdiv_fmod_unique' (by omega)).2 ⟨?_, ?_, ?_⟩, fun h => (Int.fdiv_fmod_unique' (by omega)).2 ⟨?_, ?_, ?_⟩⟩
    · simp only [sv]; simp [Int.mul_add, Int.neg_mul, Int.mul_neg]; omega
    · simp only [sv]; simp; omega
    · simp only [sv]; simp; omega
    · simp only [sv]; simp [Int.neg_mul, Int.mul_neg]; omega
    · have : r = 0 := by
        rcases Nat.eq_zero_or_pos r with h0 | h0
        · exact h0
        · exact absurd ⟨h0, by decide⟩ h
      simp only [sv]; simp; omega
    · have : r = 0 := by
        rcases Nat.eq_zero_or_pos r with h0 | h0
        · exact h0
        · exact absurd ⟨h0, by decide⟩ h
      simp only [sv]; simp; omega
  · rw [abs_neg, abs_nat, lt_neg hm, lt_nat]
    have hn : 0 < n := by omega
    have h1 := Nat.div_add_mod m n
    have h2 := Nat.mod_lt m hn
    generalize m / n = q at *
    generalize m % n = r at *
    have e : ((n * q : Nat) : Int) = (n : Int) * (q : Int) := Int.natCast_mul _ _
    refine ⟨fun h => (Int.fdiv_fmod_unique (by omega)).2 ⟨?_, ?_, ?_⟩, fun h => (Int.fdiv_fmod_unique (by omega)).2 ⟨?_, ?_, ?_⟩⟩
    · simp only [sv]; simp [Int.mul_add, Int.mul_neg]; omega
    · simp only [sv]; simp; omega
    · simp only [sv]; simp; omega
    · simp only [sv]; simp [Int.mul_neg]; omega
    · have : r = 0 := by
        rcases Nat.eq_zero_or_pos r with h0 | h0
        · exact h0
        · exact absurd ⟨h0, by decide⟩ h
      simp only [sv]; simp; omega
    · have : r = 0 := by
        rcases Nat.eq_zero_or_pos r with h0 | h0
        · exact h0
        · exact absurd ⟨h0, by decide⟩ h
      simp only [sv]; simp; omega
  · rw [abs_neg, abs_neg, lt_neg hm, lt_neg hn]
    have h1 := Nat.div_add_mod m n
    have h2 := Nat.mod_lt m hn
    generalize m / n = q at *
    generalize m % n = r at *
    have e : ((n * q : Nat) : Int) = (n : Int) * (q : Int) := Int.natCast_mul _ _
    refine ⟨fun h => absurd rfl h.2, fun _ => (Int.fdiv_fmod_unique' (by omega)).2 ⟨?_, ?_, ?_⟩⟩
    · simp only [sv]; simp [Int.neg_mul]; omega
    · simp only [sv]; simp; omega
    · simp only [sv]; simp

theorem td (m n : Nat) : (m : Int).tdiv n = ((m / n : Nat) : Int) := rfl
theorem tm (m n : Nat) : (m : Int).tmod n = ((m % n : Nat) : Int) := rfl
theorem tdiv_sv (x y : Int) : x.tdiv y = sv (decide (x < 0) != decide (y < 0)) (x.natAbs / y.natAbs) ∧ x.tmod y = sv (decide (x < 0)) (x.natAbs % y.natAbs) := by
  rcases int_cases x with ⟨m, rfl⟩ | ⟨m, rfl, hm⟩ <;> rcases int_cases y with ⟨n, rfl⟩ | ⟨n, rfl, hn⟩
  · rw [abs_nat, abs_nat, lt_nat, lt_nat]
    exact ⟨by rw [td]; simp only [sv]; rfl, by rw [tm]; simp only [sv]; rfl⟩
  · rw [abs_nat, abs_neg, lt_nat, lt_neg hn, Int.tdiv_neg, Int.tmod_neg]
    exact ⟨by rw [td]; simp only [sv]; rfl, by rw [tm]; simp only [sv]; rfl⟩
  · rw [abs_neg, abs_nat, lt_neg hm, lt_nat, Int.neg_tdiv, Int.neg_tmod]
    exact ⟨by rw [td]; simp only [sv]; rfl, by rw [tm]; simp only [sv]; rfl⟩
  · rw [abs_neg, abs_neg, lt_neg hm, lt_neg hn, Int.neg_tdiv, Int.tdiv_neg, Int.neg_tmod, Int.tmod_neg]
    exact ⟨by rw [td, Int.neg_neg]; simp only [sv]; rfl, by rw [tm]; simp only [sv]; rfl⟩

theorem sv_neg (l : Bool) (n : Nat) (h : 0 < n) : decide (sv l n < 0) = l := by
  unfold sv
  cases l
  · exact decide_eq_false (by rw [if_neg (by decide)]; omega)
  · exact decide_eq_true (by rw [if_pos rfl]; omega)
theorem sv_ne (l : Bool) (n : Nat) : sv l n ≠ 0 ↔ 0 < n := by
  unfold sv
  cases l
  · rw [if_neg (by decide)]; omega
  · rw [if_pos rfl]; omega

/-- Where Go's remainder has the other sign than the divisor, one is taken from the quotient. -/
theorem parted_short (x y : Int) (hy : y ≠ 0) :
    (x.tmod y ≠ 0 ∧ decide (x.tmod y < 0) ≠ decide (y < 0) → x.fdiv y = x.tdiv y - 1 ∧ x.fmod y = x.tmod y + y) ∧
    (¬ (x.tmod y ≠ 0 ∧ decide (x.tmod y < 0) ≠ decide (y < 0)) → x.fdiv y = x.tdiv y ∧ x.fmod y = x.tmod y) := by
  obtain ⟨e1, e2⟩ := tdiv_sv x y
  obtain ⟨h1, h2⟩ := parted_long x y hy
  rw [e1, e2]
  generalize x.natAbs % y.natAbs = r at *
  have hs := sv_neg (decide (x < 0)) r
  have h0 := sv_ne (decide (x < 0)) r
  by_cases hr : 0 < r
  · rw [hs hr]
    refine ⟨fun h => ?_, fun h => ?_⟩
    · obtain ⟨a, b⟩ := h1 ⟨hr, h.2⟩
      have hne : (decide (x < 0) != decide (y < 0)) = true := by simpa using h.2
      rw [hne]
      exact ⟨by rw [a]; omega, b⟩
    · exact h2 (fun hh => h ⟨h0.2 hr, hh.2⟩)
  · exact ⟨fun h => absurd (h0.1 h.1) hr, fun _ => h2 (fun hh => hr hh.1)⟩
end Go.Proofs.YtpkfnclbcmnckaaDoor
/- The walk of whole.parted. -/
set_option linter.unusedVariables false
namespace Go.Proofs.YtpkfnclbcmnckaaDoor
open Go Go.RowKit Go.Proofs.YtpkfnclbcmnckaaDoor.Dec Go.Proofs.YtpkfnclbcmnckaaDoor.Mem Go.Proofs.YtpkfnclbcmnckaaDoor.Wid Go.Proofs.YtpkfnclbcmnckaaDoorW.PrintWords

def partedS (a b : ByteArray) : ByteArray × ByteArray × Int :=
  if errs [a, b] = 0 then (if iv b = 0 then (⟨#[]⟩, ⟨#[]⟩, 10) else (dec ((iv a).fdiv (iv b)), dec ((iv a).fmod (iv b)), 0)) else (⟨#[]⟩, ⟨#[]⟩, errs [a, b])
/-- What the short division comes to. -/
def ShortQ (x y q r : Int) : Prop := x.fdiv y = q ∧ x.fmod y = r
theorem tdiv_room {x y : Int} (hx : -1000000000 < x ∧ x < 1000000000) (hy : -1000000000 < y ∧ y < 1000000000) (h0 : y ≠ 0) : -1000000000 < x.tdiv y ∧ x.tdiv y < 1000000000 ∧ -1000000000 < x.tmod y ∧ x.tmod y < 1000000000 := by
  have h1 := Int.natAbs_tdiv x y
  have h2 := Int.natAbs_tmod x y
  have h3 : x.natAbs.div y.natAbs ≤ x.natAbs := Nat.div_le_self _ _
  have h4 : x.natAbs % y.natAbs ≤ x.natAbs := Nat.mod_le _ _
  omega
theorem eq48 {b : ByteArray} (h : canon b.data.toList) : (b.toList == [48]) = decide (iv b = 0) := by
  rw [toL]
  have : iv b = 0 ↔ b.data.toList = [48] := ival_eq_zero h
  by_cases e : b.data.toList = [48]
  · rw [e, decide_eq_true (this.2 e)]; rfl
  · rw [decide_eq_false (fun k => e (this.1 k))]
    exact beq_eq_false_iff_ne.2 e
theorem fits_div {v u : Nat} (h : v < B ^ 114) : v / u < B ^ 114 := Nat.lt_of_le_of_lt (Nat.div_le_self _ _) h
theorem fits_mod {v u : Nat} (h : v < B ^ 114) : v % u < B ^ 114 := Nat.lt_of_le_of_lt (Nat.mod_le _ _) h
theorem fits_add {v u : Nat} (h : v < B ^ 114) (k : u < B ^ 114) : Fits (v + u) := by
  refine sum_fits (i := 2) (by decide) ?_
  omega
theorem fits_B {v : Nat} (h : v < B ^ 114) : Fits (v * B) := by
  have h1 : v * B < B ^ 114 * B := Nat.mul_lt_mul_of_pos_right h B_pos
  rw [← Nat.pow_succ] at h1
  exact Nat.lt_of_lt_of_le h1 (Nat.pow_le_pow_right B_pos (by decide))
/-- What 'all' of two texts answers. -/
def All2 (a b : ByteArray) (E : Int) : Prop := ∀ (A : Option Addr) (c : Nat) (w : World), Kd.C Kd.string w A [a, b].length [a, b] → [a, b].length ≤ c →
  Calls Tryd.prog 28 #[.slice A [a, b].length c] w fun e w' => e = .returned (.int .i64 E) ∧ Below w.heap.size w w'
theorem all2 (a b : ByteArray) (ha : a.size ≤ 9223372036854775807) (hb : b.size ≤ 9223372036854775807) : All2 a b (errs [a, b]) := fun A c w h1 h2 =>
  all_any A c [a, b] w h1 h2 (by simp) (by simp [ha, hb])
def Sm2 (a b : ByteArray) (x y : Int) (o : Bool) : Prop := ∀ w : World, Calls Tryd.prog 30 #[.string a, .string b] w fun e w' => e = .returned (.tuple #[.int .i64 x, .int .i64 y, .bool o]) ∧ Below w.heap.size w w'
def OfQ (q : Int) : Prop := ∀ w : World, Env w → Calls Tryd.prog 25 #[.int .i64 q] w fun e w' => e = .returned (.string (dec q)) ∧ Below w.heap.size w w'
theorem ofQ {q : Int} (h0 : -9223372036854775808 ≤ q) (h1 : q ≤ 9223372036854775807) : OfQ q := fun w HE => of_any q h0 h1 w HE
def PartedP (a b : ByteArray) (w : World) (L : ByteArray × ByteArray × Int) : Prop :=
    Calls Tryd.prog 33 #[.string a, .string b] w fun e w' => e = .returned (.tuple #[.string L.1, .string L.2.1, .int .i64 L.2.2]) ∧ Below w.heap.size w w'

set_option maxRecDepth 100000 in
theorem parted_err (a b : ByteArray) (w : World) (E : Int) (HALL : Hid (All2 a b E)) (h0 : E ≠ 0) : PartedP a b w (⟨#[]⟩, ⟨#[]⟩, E) := by
  unfold PartedP
  have g : (E == 0) = false := beq_eq_false_iff_ne.2 h0
  clear h0
  go_enter Tryd.func33, Tryd.ntmps33
  go_wp2_with ((with_reducible refine gate_dst (N := 20) rfl ?_); refine Kd.R_lit Kd.string _ 22 ?hg (N := 20) ?hd (xs := ([a, b] : List ByteArray)) (inner := [.string a, .string b]) (ok := fun _ => True) (okp := fun _ => True) ?hr ?hp (fun _ hk => hk) trivial (Below.refl _ _) (Nat.le_refl _) (by simp) ?_; (case hd => rfl); (case hg => rfl); (case hr => first | (go_simp; done) | (go_simp; rfl)); (case hp => exact (Reps.one (show Kd.M Kd.string _ _ _ a [.string a] from rfl) (Reps.one (show Kd.M Kd.string _ _ _ b [.string b] from rfl) (Reps.none _ _)))); intro v1 w1 ho hb _ _; have HO := Hid.mk' ho; have HB1 := Hid.mk' hb; clear ho hb; obtain ⟨Ao, co, eo⟩ := Kd.R_slice HO.out; subst eo)
  refine (HALL.out Ao co w1 (Kd.R_reads' HO.out).2.2 (Kd.R_reads' HO.out).2.1).mono ?_
  rintro e w2 ⟨rfl, hb2⟩
  have HB2 := Hid.mk' (Below.trans HB1.out (hb2.mono HB1.out.size))
  clear hb2 HO HB1
  go_wp2_with fail
  go_ret3
  exact ⟨rfl, HB2.out⟩
set_option maxRecDepth 100000 in
theorem parted_zero (a b : ByteArray) (w : World) (HALL : Hid (All2 a b 0)) (e48 : (b.toList == [48]) = true) : PartedP a b w (⟨#[]⟩, ⟨#[]⟩, 10) := by
  unfold PartedP
  go_enter Tryd.func33, Tryd.ntmps33
  go_wp2_with ((with_reducible refine gate_dst (N := 20) rfl ?_); refine Kd.R_lit Kd.string _ 22 ?hg (N := 20) ?hd (xs := ([a, b] : List ByteArray)) (inner := [.string a, .string b]) (ok := fun _ => True) (okp := fun _ => True) ?hr ?hp (fun _ hk => hk) trivial (Below.refl _ _) (Nat.le_refl _) (by simp) ?_; (case hd => rfl); (case hg => rfl); (case hr => first | (go_simp; done) | (go_simp; rfl)); (case hp => exact (Reps.one (show Kd.M Kd.string _ _ _ a [.string a] from rfl) (Reps.one (show Kd.M Kd.string _ _ _ b [.string b] from rfl) (Reps.none _ _)))); intro v1 w1 ho hb _ _; have HO := Hid.mk' ho; have HB1 := Hid.mk' hb; clear ho hb; obtain ⟨Ao, co, eo⟩ := Kd.R_slice HO.out; subst eo)
  refine (HALL.out Ao co w1 (Kd.R_reads' HO.out).2.2 (Kd.R_reads' HO.out).2.1).mono ?_
  rintro e w2 ⟨rfl, hb2⟩
  have HB2 := Hid.mk' (Below.trans HB1.out (hb2.mono HB1.out.size))
  clear hb2 HO HB1
  go_wp2_with fail
  go_ret3
  exact ⟨rfl, HB2.out⟩
set_option maxRecDepth 100000 in
theorem parted_s0 (a b : ByteArray) (w : World) (HALL : Hid (All2 a b 0)) (e48 : (b.toList == [48]) = false) (x y q r : Int) (HSM : Hid (Sm2 a b x y true)) (HEE : Hid (Env w)) (gy : ¬ (y = 0))
    (h1 : x.tdiv y = q) (h2 : x.tmod y = r) (gq : IntKind.i64.wrap q = q) (gr : IntKind.i64.wrap r = r) (gr0 : r = 0) (HQ : Hid (OfQ q)) (HR : Hid (OfQ 0)) : PartedP a b w (dec q, dec 0, 0) := by
  unfold PartedP
  go_enter Tryd.func33, Tryd.ntmps33
  go_wp2_with ((with_reducible refine gate_dst (N := 20) rfl ?_); refine Kd.R_lit Kd.string _ 22 ?hg (N := 20) ?hd (xs := ([a, b] : List ByteArray)) (inner := [.string a, .string b]) (ok := fun _ => True) (okp := fun _ => True) ?hr ?hp (fun _ hk => hk) trivial (Below.refl _ _) (Nat.le_refl _) (by simp) ?_; (case hd => rfl); (case hg => rfl); (case hr => first | (go_simp; done) | (go_simp; rfl)); (case hp => exact (Reps.one (show Kd.M Kd.string _ _ _ a [.string a] from rfl) (Reps.one (show Kd.M Kd.string _ _ _ b [.string b] from rfl) (Reps.none _ _)))); intro v1 w1 ho hb _ _; have HO := Hid.mk' ho; have HB1 := Hid.mk' hb; clear ho hb; obtain ⟨Ao, co, eo⟩ := Kd.R_slice HO.out; subst eo)
  refine (HALL.out Ao co w1 (Kd.R_reads' HO.out).2.2 (Kd.R_reads' HO.out).2.1).mono ?_
  rintro e w2 ⟨rfl, hb2⟩
  have HB2 := Hid.mk' (Below.trans HB1.out (hb2.mono HB1.out.size))
  clear hb2 HO HB1
  go_wp2_with fail
  refine (HSM.out w2).mono ?_
  rintro e w3 ⟨rfl, hb3⟩
  have HB3 := Hid.mk' (Below.trans HB2.out (hb3.mono HB2.out.size))
  clear hb3 HB2 HSM HALL
  go_wp2_with fail
  go_quiet (fail)
  generalize hW4 : w3.drewN nq = w4
  have HB4 : Hid (Below w.heap.size w w4) := by rw [← hW4]; exact pwd_below_drewN HB3.out nq
  clear hW4 HB3 gy h1 h2 gq gr
  subst gr0
  go_wp2_with fail
  refine (HQ.out _ (HEE.out.below HB4.out)).mono ?_
  rintro e w5 ⟨rfl, hb5⟩
  have HB5 := Hid.mk' (Below.trans HB4.out (hb5.mono HB4.out.size))
  clear hb5
  go_wp2_with fail
  refine (HR.out _ (HEE.out.below HB5.out)).mono ?_
  rintro e w6 ⟨rfl, hb6⟩
  have HB6 := Hid.mk' (Below.trans HB5.out (hb6.mono HB5.out.size))
  clear hb6
  go_wp2_with fail
  go_ret3
  exact ⟨rfl, HB6.out⟩
set_option maxRecDepth 100000 in
theorem parted_stt (a b : ByteArray) (w : World) (HALL : Hid (All2 a b 0)) (e48 : (b.toList == [48]) = false) (x y q r : Int) (HSM : Hid (Sm2 a b x y true)) (HEE : Hid (Env w)) (gy : ¬ (y = 0))
    (h1 : x.tdiv y = q) (h2 : x.tmod y = r) (gq : IntKind.i64.wrap q = q) (gr : IntKind.i64.wrap r = r) (gr0 : (r == 0) = false) (gr1 : ¬ (r = 0)) (d1 : decide (r < 0) = true) (d2 : decide (y < 0) = true) (HQ : Hid (OfQ q)) (HR : Hid (OfQ r)) : PartedP a b w (dec q, dec r, 0) := by
  unfold PartedP
  go_enter Tryd.func33, Tryd.ntmps33
  go_wp2_with ((with_reducible refine gate_dst (N := 20) rfl ?_); refine Kd.R_lit Kd.string _ 22 ?hg (N := 20) ?hd (xs := ([a, b] : List ByteArray)) (inner := [.string a, .string b]) (ok := fun _ => True) (okp := fun _ => True) ?hr ?hp (fun _ hk => hk) trivial (Below.refl _ _) (Nat.le_refl _) (by simp) ?_; (case hd => rfl); (case hg => rfl); (case hr => first | (go_simp; done) | (go_simp; rfl)); (case hp => exact (Reps.one (show Kd.M Kd.string _ _ _ a [.string a] from rfl) (Reps.one (show Kd.M Kd.string _ _ _ b [.string b] from rfl) (Reps.none _ _)))); intro v1 w1 ho hb _ _; have HO := Hid.mk' ho; have HB1 := Hid.mk' hb; clear ho hb; obtain ⟨Ao, co, eo⟩ := Kd.R_slice HO.out; subst eo)
  refine (HALL.out Ao co w1 (Kd.R_reads' HO.out).2.2 (Kd.R_reads' HO.out).2.1).mono ?_
  rintro e w2 ⟨rfl, hb2⟩
  have HB2 := Hid.mk' (Below.trans HB1.out (hb2.mono HB1.out.size))
  clear hb2 HO HB1
  go_wp2_with fail
  refine (HSM.out w2).mono ?_
  rintro e w3 ⟨rfl, hb3⟩
  have HB3 := Hid.mk' (Below.trans HB2.out (hb3.mono HB2.out.size))
  clear hb3 HB2 HSM HALL
  go_wp2_with fail
  go_quiet (fail)
  generalize hW4 : w3.drewN nq = w4
  have HB4 : Hid (Below w.heap.size w w4) := by rw [← hW4]; exact pwd_below_drewN HB3.out nq
  clear hW4 HB3 gy h1 h2 gq gr
  go_wp2_with fail
  refine (HQ.out _ (HEE.out.below HB4.out)).mono ?_
  rintro e w5 ⟨rfl, hb5⟩
  have HB5 := Hid.mk' (Below.trans HB4.out (hb5.mono HB4.out.size))
  clear hb5
  go_wp2_with fail
  refine (HR.out _ (HEE.out.below HB5.out)).mono ?_
  rintro e w6 ⟨rfl, hb6⟩
  have HB6 := Hid.mk' (Below.trans HB5.out (hb6.mono HB5.out.size))
  clear hb6
  go_wp2_with fail
  go_ret3
  exact ⟨rfl, HB6.out⟩
set_option maxRecDepth 100000 in
theorem parted_sff (a b : ByteArray) (w : World) (HALL : Hid (All2 a b 0)) (e48 : (b.toList == [48]) = false) (x y q r : Int) (HSM : Hid (Sm2 a b x y true)) (HEE : Hid (Env w)) (gy : ¬ (y = 0))
    (h1 : x.tdiv y = q) (h2 : x.tmod y = r) (gq : IntKind.i64.wrap q = q) (gr : IntKind.i64.wrap r = r) (gr0 : (r == 0) = false) (gr1 : ¬ (r = 0)) (d1 : decide (r < 0) = false) (d2 : decide (y < 0) = false) (HQ : Hid (OfQ q)) (HR : Hid (OfQ r)) : PartedP a b w (dec q, dec r, 0) := by
  unfold PartedP
  go_enter Tryd.func33, Tryd.ntmps33
  go_wp2_with ((with_reducible refine gate_dst (N := 20) rfl ?_); refine Kd.R_lit Kd.string _ 22 ?hg (N := 20) ?hd (xs := ([a, b] : List ByteArray)) (inner := [.string a, .string b]) (ok := fun _ => True) (okp := fun _ => True) ?hr ?hp (fun _ hk => hk) trivial (Below.refl _ _) (Nat.le_refl _) (by simp) ?_; (case hd => rfl); (case hg => rfl); (case hr => first | (go_simp; done) | (go_simp; rfl)); (case hp => exact (Reps.one (show Kd.M Kd.string _ _ _ a [.string a] from rfl) (Reps.one (show Kd.M Kd.string _ _ _ b [.string b] from rfl) (Reps.none _ _)))); intro v1 w1 ho hb _ _; have HO := Hid.mk' ho; have HB1 := Hid.mk' hb; clear ho hb; obtain ⟨Ao, co, eo⟩ := Kd.R_slice HO.out; subst eo)
  refine (HALL.out Ao co w1 (Kd.R_reads' HO.out).2.2 (Kd.R_reads' HO.out).2.1).mono ?_
  rintro e w2 ⟨rfl, hb2⟩
  have HB2 := Hid.mk' (Below.trans HB1.out (hb2.mono HB1.out.size))
  clear hb2 HO HB1
  go_wp2_with fail
  refine (HSM.out w2).mono ?_
  rintro e w3 ⟨rfl, hb3⟩
  have HB3 := Hid.mk' (Below.trans HB2.out (hb3.mono HB2.out.size))
  clear hb3 HB2 HSM HALL
  go_wp2_with fail
  go_quiet (fail)
  generalize hW4 : w3.drewN nq = w4
  have HB4 : Hid (Below w.heap.size w w4) := by rw [← hW4]; exact pwd_below_drewN HB3.out nq
  clear hW4 HB3 gy h1 h2 gq gr
  go_wp2_with fail
  refine (HQ.out _ (HEE.out.below HB4.out)).mono ?_
  rintro e w5 ⟨rfl, hb5⟩
  have HB5 := Hid.mk' (Below.trans HB4.out (hb5.mono HB4.out.size))
  clear hb5
  go_wp2_with fail
  refine (HR.out _ (HEE.out.below HB5.out)).mono ?_
  rintro e w6 ⟨rfl, hb6⟩
  have HB6 := Hid.mk' (Below.trans HB5.out (hb6.mono HB5.out.size))
  clear hb6
  go_wp2_with fail
  go_ret3
  exact ⟨rfl, HB6.out⟩
set_option maxRecDepth 100000 in
theorem parted_stf (a b : ByteArray) (w : World) (HALL : Hid (All2 a b 0)) (e48 : (b.toList == [48]) = false) (x y q r : Int) (HSM : Hid (Sm2 a b x y true)) (HEE : Hid (Env w)) (gy : ¬ (y = 0))
    (h1 : x.tdiv y = q) (h2 : x.tmod y = r) (gq : IntKind.i64.wrap q = q) (gr : IntKind.i64.wrap r = r) (gr0 : (r == 0) = false) (gr1 : ¬ (r = 0)) (d1 : decide (r < 0) = true) (d2 : decide (y < 0) = false) (k1 : IntKind.i64.wrap (q - 1) = q - 1) (k2 : IntKind.i64.wrap (r + y) = r + y) (HQ : Hid (OfQ (q - 1))) (HR : Hid (OfQ (r + y))) : PartedP a b w (dec (q - 1), dec (r + y), 0) := by
  unfold PartedP
  go_enter Tryd.func33, Tryd.ntmps33
  go_wp2_with ((with_reducible refine gate_dst (N := 20) rfl ?_); refine Kd.R_lit Kd.string _ 22 ?hg (N := 20) ?hd (xs := ([a, b] : List ByteArray)) (inner := [.string a, .string b]) (ok := fun _ => True) (okp := fun _ => True) ?hr ?hp (fun _ hk => hk) trivial (Below.refl _ _) (Nat.le_refl _) (by simp) ?_; (case hd => rfl); (case hg => rfl); (case hr => first | (go_simp; done) | (go_simp; rfl)); (case hp => exact (Reps.one (show Kd.M Kd.string _ _ _ a [.string a] from rfl) (Reps.one (show Kd.M Kd.string _ _ _ b [.string b] from rfl) (Reps.none _ _)))); intro v1 w1 ho hb _ _; have HO := Hid.mk' ho; have HB1 := Hid.mk' hb; clear ho hb; obtain ⟨Ao, co, eo⟩ := Kd.R_slice HO.out; subst eo)
  refine (HALL.out Ao co w1 (Kd.R_reads' HO.out).2.2 (Kd.R_reads' HO.out).2.1).mono ?_
  rintro e w2 ⟨rfl, hb2⟩
  have HB2 := Hid.mk' (Below.trans HB1.out (hb2.mono HB1.out.size))
  clear hb2 HO HB1
  go_wp2_with fail
  refine (HSM.out w2).mono ?_
  rintro e w3 ⟨rfl, hb3⟩
  have HB3 := Hid.mk' (Below.trans HB2.out (hb3.mono HB2.out.size))
  clear hb3 HB2 HSM HALL
  go_wp2_with fail
  go_quiet (fail)
  generalize hW4 : w3.drewN nq = w4
  have HB4 : Hid (Below w.heap.size w w4) := by rw [← hW4]; exact pwd_below_drewN HB3.out nq
  clear hW4 HB3 gy h1 h2 gq gr
  go_wp2_with fail
  refine (HQ.out _ (HEE.out.below HB4.out)).mono ?_
  rintro e w5 ⟨rfl, hb5⟩
  have HB5 := Hid.mk' (Below.trans HB4.out (hb5.mono HB4.out.size))
  clear hb5
  go_wp2_with fail
  refine (HR.out _ (HEE.out.below HB5.out)).mono ?_
  rintro e w6 ⟨rfl, hb6⟩
  have HB6 := Hid.mk' (Below.trans HB5.out (hb6.mono HB5.out.size))
  clear hb6
  go_wp2_with fail
  go_ret3
  exact ⟨rfl, HB6.out⟩
set_option maxRecDepth 100000 in
theorem parted_sft (a b : ByteArray) (w : World) (HALL : Hid (All2 a b 0)) (e48 : (b.toList == [48]) = false) (x y q r : Int) (HSM : Hid (Sm2 a b x y true)) (HEE : Hid (Env w)) (gy : ¬ (y = 0))
    (h1 : x.tdiv y = q) (h2 : x.tmod y = r) (gq : IntKind.i64.wrap q = q) (gr : IntKind.i64.wrap r = r) (gr0 : (r == 0) = false) (gr1 : ¬ (r = 0)) (d1 : decide (r < 0) = false) (d2 : decide (y < 0) = true) (k1 : IntKind.i64.wrap (q - 1) = q - 1) (k2 : IntKind.i64.wrap (r + y) = r + y) (HQ : Hid (OfQ (q - 1))) (HR : Hid (OfQ (r + y))) : PartedP a b w (dec (q - 1), dec (r + y), 0) := by
  unfold PartedP
  go_enter Tryd.func33, Tryd.ntmps33
  go_wp2_with ((with_reducible refine gate_dst (N := 20) rfl ?_); refine Kd.R_lit Kd.string _ 22 ?hg (N := 20) ?hd (xs := ([a, b] : List ByteArray)) (inner := [.string a, .string b]) (ok := fun _ => True) (okp := fun _ => True) ?hr ?hp (fun _ hk => hk) trivial (Below.refl _ _) (Nat.le_refl _) (by simp) ?_; (case hd => rfl); (case hg => rfl); (case hr => first | (go_simp; done) | (go_simp; rfl)); (case hp => exact (Reps.one (show Kd.M Kd.string _ _ _ a [.string a] from rfl) (Reps.one (show Kd.M Kd.string _ _ _ b [.string b] from rfl) (Reps.none _ _)))); intro v1 w1 ho hb _ _; have HO := Hid.mk' ho; have HB1 := Hid.mk' hb; clear ho hb; obtain ⟨Ao, co, eo⟩ := Kd.R_slice HO.out; subst eo)
  refine (HALL.out Ao co w1 (Kd.R_reads' HO.out).2.2 (Kd.R_reads' HO.out).2.1).mono ?_
  rintro e w2 ⟨rfl, hb2⟩
  have HB2 := Hid.mk' (Below.trans HB1.out (hb2.mono HB1.out.size))
  clear hb2 HO HB1
  go_wp2_with fail
  refine (HSM.out w2).mono ?_
  rintro e w3 ⟨rfl, hb3⟩
  have HB3 := Hid.mk' (Below.trans HB2.out (hb3.mono HB2.out.size))
  clear hb3 HB2 HSM HALL
  go_wp2_with fail
  go_quiet (fail)
  generalize hW4 : w3.drewN nq = w4
  have HB4 : Hid (Below w.heap.size w w4) := by rw [← hW4]; exact pwd_below_drewN HB3.out nq
  clear hW4 HB3 gy h1 h2 gq gr
  go_wp2_with fail
  refine (HQ.out _ (HEE.out.below HB4.out)).mono ?_
  rintro e w5 ⟨rfl, hb5⟩
  have HB5 := Hid.mk' (Below.trans HB4.out (hb5.mono HB4.out.size))
  clear hb5
  go_wp2_with fail
  refine (HR.out _ (HEE.out.below HB5.out)).mono ?_
  rintro e w6 ⟨rfl, hb6⟩
  have HB6 := Hid.mk' (Below.trans HB5.out (hb6.mono HB5.out.size))
  clear hb6
  go_wp2_with fail
  go_ret3
  exact ⟨rfl, HB6.out⟩
end Go.Proofs.YtpkfnclbcmnckaaDoor
/- The walk of whole.parted: long numbers. -/
set_option linter.unusedVariables false
namespace Go.Proofs.YtpkfnclbcmnckaaDoor
open Go Go.RowKit Go.Proofs.YtpkfnclbcmnckaaDoor.Dec Go.Proofs.YtpkfnclbcmnckaaDoor.Mem Go.Proofs.YtpkfnclbcmnckaaDoor.Wid Go.Proofs.YtpkfnclbcmnckaaDoorW.PrintWords

def Rd (a : ByteArray) (l : Bool) (v : Nat) : Prop := ∀ w : World, Calls Tryd.prog 23 #[.string a] w fun e w' => ∃ b, e = .returned (.pointer (some ⟨b, 0, none⟩)) ∧ w.heap.size ≤ b ∧ IsW w' b l v ∧ Below w.heap.size w w'
theorem keep_set {w : World} {p q : Addr} {v : Value} {u : Option Value} (h : q ≠ p) (k : w.cell? p = u) : (w.setCell q v).cell? p = u := by rw [World.cell?_setCell_other _ _ _ _ h]; exact k
theorem keep_drew {w : World} {p : Addr} {u : Option Value} (k : w.cell? p = u) : w.drew.cell? p = u := k
theorem ne_addr {p q : Nat} (h : p ≠ q) : (⟨q, 0, none⟩ : Addr) ≠ ⟨p, 0, none⟩ := fun e => by injection e with e; exact h e.symm

set_option maxRecDepth 100000 in
set_option maxHeartbeats 1000000 in
theorem parted_l0 (a b : ByteArray) (w : World) (HALL : Hid (All2 a b 0)) (e48 : (b.toList == [48]) = false) (HSM : Hid (Sm2 a b 0 0 false)) (HEE : Hid (Env w))
    (lx ly : Bool) (vx vy : Nat) (HRA : Hid (Rd a lx vx)) (HRB : Hid (Rd b ly vy)) (FX : Hid (vx < B ^ 114)) (FY : Hid (vy < B ^ 114)) (HP : Hid (0 < vy)) (h0 : vx % vy = 0) :
    PartedP a b w (dec (sv (lx != ly) (vx / vy)), dec (sv lx 0), 0) := by
  unfold PartedP
  go_enter Tryd.func33, Tryd.ntmps33
  go_wp2_with ((with_reducible refine gate_dst (N := 20) rfl ?_); refine Kd.R_lit Kd.string _ 22 ?hg (N := 20) ?hd (xs := ([a, b] : List ByteArray)) (inner := [.string a, .string b]) (ok := fun _ => True) (okp := fun _ => True) ?hr ?hp (fun _ hk => hk) trivial (Below.refl _ _) (Nat.le_refl _) (by simp) ?_; (case hd => rfl); (case hg => rfl); (case hr => first | (go_simp; done) | (go_simp; rfl)); (case hp => exact (Reps.one (show Kd.M Kd.string _ _ _ a [.string a] from rfl) (Reps.one (show Kd.M Kd.string _ _ _ b [.string b] from rfl) (Reps.none _ _)))); intro v1 w1 ho hb _ _; have HO := Hid.mk' ho; have HB1 := Hid.mk' hb; clear ho hb; obtain ⟨Ao, co, eo⟩ := Kd.R_slice HO.out; subst eo)
  refine (HALL.out Ao co w1 (Kd.R_reads' HO.out).2.2 (Kd.R_reads' HO.out).2.1).mono ?_
  rintro e w2 ⟨rfl, hb2⟩
  have HB2 := Hid.mk' (Below.trans HB1.out (hb2.mono HB1.out.size))
  clear hb2 HO HB1
  go_wp2_with fail
  refine (HSM.out w2).mono ?_
  rintro e w3 ⟨rfl, hb3⟩
  have HB3 := Hid.mk' (Below.trans HB2.out (hb3.mono HB2.out.size))
  clear hb3 HB2 HSM HALL
  go_wp2_with fail
  refine (HRA.out w3).mono ?_
  rintro e w4 ⟨pa, rfl, hpa, hwa, hb4⟩
  have HB4 := Hid.mk' (Below.trans HB3.out (hb4.mono HB3.out.size))
  have HWA := Hid.mk' hwa
  clear hb4 hwa HRA HB3
  go_wp2_with fail
  refine (HRB.out w4).mono ?_
  rintro e w5 ⟨pb, rfl, hpb, hwb, hb5⟩
  have hab : pa ≠ pb := by have := HWA.out.size; omega
  have HWA2 := Hid.mk' (HWA.out.below hb5 HWA.out.size)
  have HB5 := Hid.mk' (Below.trans HB4.out (hb5.mono HB4.out.size))
  have HWB := Hid.mk' hwb
  clear hb5 hwb HRB HB4 HWA hpa hpb
  go_wp2_with fail
  refine (divided_any pa pb lx ly vx vy w5 HWA2.out HWB.out (fits_114 FX.out) (fits_B FY.out) HP.out).mono ?_
  rintro e w6 ⟨q, r, rfl, hq, hr, hqr, hwq, hwr, hb6⟩
  have haq : pa ≠ q := by have := HWA2.out.size; omega
  have har : pa ≠ r := by have := HWA2.out.size; omega
  have hbq : pb ≠ q := by have := HWB.out.size; omega
  have hbr : pb ≠ r := by have := HWB.out.size; omega
  have HB6 := Hid.mk' (Below.trans HB5.out (hb6.mono HB5.out.size))
  have hgq : w.heap.size ≤ q := Nat.le_trans HB5.out.size hq
  have hgr : w.heap.size ≤ r := Nat.le_trans HB5.out.size hr
  have HX := Hid.mk' (HWA2.out.below hb6 HWA2.out.size)
  have HY := Hid.mk' (HWB.out.below hb6 HWB.out.size)
  have HQ := Hid.mk' hwq
  have HR := Hid.mk' hwr
  clear hb6 hwq hwr hq hr HWA2 HWB HB5
  have k1 := HX.out.cell0
  have k2 := HY.out.cell0
  have k3 := HQ.out.cell0
  have k4 := HQ.out.free 0
  have k5 := HR.out.cell0
  have k6 := HR.out.free 0
  have n1 := ne_addr haq
  have n2 := ne_addr har
  have n3 := ne_addr hbq
  have n4 := ne_addr hbr
  have n5 := ne_addr hqr
  have n6 := ne_addr (Ne.symm hqr)
  go_wp2_with fail
  go_region_held3 (fun w' => w'.cell? ⟨pa, 0, none⟩ = some (.bool lx) ∧ w'.cell? ⟨pb, 0, none⟩ = some (.bool ly)) (first | (go_keep; done) | (refine And.intro ?_ ?_ <;> repeat (first | assumption | apply keep_drew | refine keep_set (by assumption) ?_))) (fail)
  have HQ7 : Hid (IsW ((w6.setCell ⟨q, 0, none⟩ (.bool (!(lx == ly)))).setCell ⟨r, 0, none⟩ (.bool lx)).drew q (!(lx == ly)) (vx / vy)) := IsX.drew1 ((HQ.out.set0 _).other r 0 _ hqr)
  have HR7 : Hid (IsW ((w6.setCell ⟨q, 0, none⟩ (.bool (!(lx == ly)))).setCell ⟨r, 0, none⟩ (.bool lx)).drew r lx (vx % vy)) := IsX.drew1 ((HR.out.other q 0 _ hqr.symm).set0 _)
  have HX7 : Hid (IsW ((w6.setCell ⟨q, 0, none⟩ (.bool (!(lx == ly)))).setCell ⟨r, 0, none⟩ (.bool lx)).drew pa lx vx) := IsX.drew1 ((HX.out.other q 0 _ haq).other r 0 _ har)
  have HY7 : Hid (IsW ((w6.setCell ⟨q, 0, none⟩ (.bool (!(lx == ly)))).setCell ⟨r, 0, none⟩ (.bool lx)).drew pb ly vy) := IsX.drew1 ((HY.out.other q 0 _ hbq).other r 0 _ hbr)
  have HB7 : Hid (Below w.heap.size w ((w6.setCell ⟨q, 0, none⟩ (.bool (!(lx == ly)))).setCell ⟨r, 0, none⟩ (.bool lx)).drew) := Below.drew ((HB6.out.setCell (p := ⟨q, 0, none⟩) hgq _).setCell (p := ⟨r, 0, none⟩) hgr _)
  generalize ((w6.setCell ⟨q, 0, none⟩ (.bool (!(lx == ly)))).setCell ⟨r, 0, none⟩ (.bool lx)).drew = W7 at HQ7 HR7 HX7 HY7 HB7 ⊢
  clear k1 k2 k3 k4 k5 k6 n1 n2 n3 n4 n5 n6 HX HY HQ HR HB6
  have r1 := HR7.out.cell1
  have hn : ((nw (vx % vy) : Nat) : Int) = 0 := by rw [h0, nw_zero]; rfl
  rw [hn] at r1
  clear hn
  go_wp2_with fail
  go_quiet (fail)
  have HQ8 : Hid (IsW (W7.drewN nq) q (!(lx == ly)) (vx / vy)) := IsX.drew HQ7.out nq
  have HR8 : Hid (IsW (W7.drewN nq) r lx (vx % vy)) := IsX.drew HR7.out nq
  have HB8 : Hid (Below w.heap.size w (W7.drewN nq)) := pwd_below_drewN HB7.out nq
  generalize W7.drewN nq = W8 at HQ8 HR8 HB8 ⊢
  clear HQ7 HR7 HX7 HY7 HB7
  go_wp2_with fail
  refine (text_any q _ (vx / vy) _ HQ8.out (fits_114 (fits_div FX.out)) (HEE.out.below HB8.out).1).mono ?_
  rintro e w9 ⟨rfl, hb9⟩
  have HB9 := Hid.mk' (Below.trans HB8.out (hb9.mono HB8.out.size))
  have HR9 := Hid.mk' (HR8.out.below hb9 HR8.out.size)
  clear hb9
  go_wp2_with fail
  refine (text_any r _ (vx % vy) _ HR9.out (fits_114 (fits_mod FX.out)) (HEE.out.below HB9.out).1).mono ?_
  rintro e w10 ⟨rfl, hb10⟩
  have HB10 := Hid.mk' (Below.trans HB9.out (hb10.mono HB9.out.size))
  clear hb10
  go_wp2_with fail
  go_ret3
  exact ⟨rfl, HB10.out⟩
set_option maxRecDepth 100000 in
set_option maxHeartbeats 1000000 in
theorem parted_lt (a b : ByteArray) (w : World) (HALL : Hid (All2 a b 0)) (e48 : (b.toList == [48]) = false) (HSM : Hid (Sm2 a b 0 0 false)) (HEE : Hid (Env w))
    (vx vy : Nat) (HRA : Hid (Rd a true vx)) (HRB : Hid (Rd b true vy)) (FX : Hid (vx < B ^ 114)) (FY : Hid (vy < B ^ 114)) (HP : Hid (0 < vy)) (h0 : 0 < vx % vy) :
    PartedP a b w (dec (sv (false) (vx / vy)), dec (sv true (vx % vy)), 0) := by
  unfold PartedP
  go_enter Tryd.func33, Tryd.ntmps33
  go_wp2_with ((with_reducible refine gate_dst (N := 20) rfl ?_); refine Kd.R_lit Kd.string _ 22 ?hg (N := 20) ?hd (xs := ([a, b] : List ByteArray)) (inner := [.string a, .string b]) (ok := fun _ => True) (okp := fun _ => True) ?hr ?hp (fun _ hk => hk) trivial (Below.refl _ _) (Nat.le_refl _) (by simp) ?_; (case hd => rfl); (case hg => rfl); (case hr => first | (go_simp; done) | (go_simp; rfl)); (case hp => exact (Reps.one (show Kd.M Kd.string _ _ _ a [.string a] from rfl) (Reps.one (show Kd.M Kd.string _ _ _ b [.string b] from rfl) (Reps.none _ _)))); intro v1 w1 ho hb _ _; have HO := Hid.mk' ho; have HB1 := Hid.mk' hb; clear ho hb; obtain ⟨Ao, co, eo⟩ := Kd.R_slice HO.out; subst eo)
  refine (HALL.out Ao co w1 (Kd.R_reads' HO.out).2.2 (Kd.R_reads' HO.out).2.1).mono ?_
  rintro e w2 ⟨rfl, hb2⟩
  have HB2 := Hid.mk' (Below.trans HB1.out (hb2.mono HB1.out.size))
  clear hb2 HO HB1
  go_wp2_with fail
  refine (HSM.out w2).mono ?_
  rintro e w3 ⟨rfl, hb3⟩
  have HB3 := Hid.mk' (Below.trans HB2.out (hb3.mono HB2.out.size))
  clear hb3 HB2 HSM HALL
  go_wp2_with fail
  refine (HRA.out w3).mono ?_
  rintro e w4 ⟨pa, rfl, hpa, hwa, hb4⟩
  have HB4 := Hid.mk' (Below.trans HB3.out (hb4.mono HB3.out.size))
  have HWA := Hid.mk' hwa
  clear hb4 hwa HRA HB3
  go_wp2_with fail
  refine (HRB.out w4).mono ?_
  rintro e w5 ⟨pb, rfl, hpb, hwb, hb5⟩
  have hab : pa ≠ pb := by have := HWA.out.size; omega
  have HWA2 := Hid.mk' (HWA.out.below hb5 HWA.out.size)
  have HB5 := Hid.mk' (Below.trans HB4.out (hb5.mono HB4.out.size))
  have HWB := Hid.mk' hwb
  clear hb5 hwb HRB HB4 HWA hpa hpb
  go_wp2_with fail
  refine (divided_any pa pb true true vx vy w5 HWA2.out HWB.out (fits_114 FX.out) (fits_B FY.out) HP.out).mono ?_
  rintro e w6 ⟨q, r, rfl, hq, hr, hqr, hwq, hwr, hb6⟩
  have haq : pa ≠ q := by have := HWA2.out.size; omega
  have har : pa ≠ r := by have := HWA2.out.size; omega
  have hbq : pb ≠ q := by have := HWB.out.size; omega
  have hbr : pb ≠ r := by have := HWB.out.size; omega
  have HB6 := Hid.mk' (Below.trans HB5.out (hb6.mono HB5.out.size))
  have hgq : w.heap.size ≤ q := Nat.le_trans HB5.out.size hq
  have hgr : w.heap.size ≤ r := Nat.le_trans HB5.out.size hr
  have HX := Hid.mk' (HWA2.out.below hb6 HWA2.out.size)
  have HY := Hid.mk' (HWB.out.below hb6 HWB.out.size)
  have HQ := Hid.mk' hwq
  have HR := Hid.mk' hwr
  clear hb6 hwq hwr hq hr HWA2 HWB HB5
  have k1 := HX.out.cell0
  have k2 := HY.out.cell0
  have k3 := HQ.out.cell0
  have k4 := HQ.out.free 0
  have k5 := HR.out.cell0
  have k6 := HR.out.free 0
  have n1 := ne_addr haq
  have n2 := ne_addr har
  have n3 := ne_addr hbq
  have n4 := ne_addr hbr
  have n5 := ne_addr hqr
  have n6 := ne_addr (Ne.symm hqr)
  go_wp2_with fail
  go_region_held3 (fun w' => w'.cell? ⟨pa, 0, none⟩ = some (.bool true) ∧ w'.cell? ⟨pb, 0, none⟩ = some (.bool true)) (first | (go_keep; done) | (refine And.intro ?_ ?_ <;> repeat (first | assumption | apply keep_drew | refine keep_set (by assumption) ?_))) (fail)
  have HQ7 : Hid (IsW ((w6.setCell ⟨q, 0, none⟩ (.bool false)).setCell ⟨r, 0, none⟩ (.bool true)).drew q false (vx / vy)) := IsX.drew1 ((HQ.out.set0 _).other r 0 _ hqr)
  have HR7 : Hid (IsW ((w6.setCell ⟨q, 0, none⟩ (.bool false)).setCell ⟨r, 0, none⟩ (.bool true)).drew r true (vx % vy)) := IsX.drew1 ((HR.out.other q 0 _ hqr.symm).set0 _)
  have HX7 : Hid (IsW ((w6.setCell ⟨q, 0, none⟩ (.bool false)).setCell ⟨r, 0, none⟩ (.bool true)).drew pa true vx) := IsX.drew1 ((HX.out.other q 0 _ haq).other r 0 _ har)
  have HY7 : Hid (IsW ((w6.setCell ⟨q, 0, none⟩ (.bool false)).setCell ⟨r, 0, none⟩ (.bool true)).drew pb true vy) := IsX.drew1 ((HY.out.other q 0 _ hbq).other r 0 _ hbr)
  have HB7 : Hid (Below w.heap.size w ((w6.setCell ⟨q, 0, none⟩ (.bool false)).setCell ⟨r, 0, none⟩ (.bool true)).drew) := Below.drew ((HB6.out.setCell (p := ⟨q, 0, none⟩) hgq _).setCell (p := ⟨r, 0, none⟩) hgr _)
  generalize ((w6.setCell ⟨q, 0, none⟩ (.bool false)).setCell ⟨r, 0, none⟩ (.bool true)).drew = W7 at HQ7 HR7 HX7 HY7 HB7 ⊢
  clear k1 k2 k3 k4 k5 k6 n1 n2 n3 n4 n5 n6 HX HY HQ HR HB6
  have r1 := HR7.out.cell1
  have hn : (0 : Int) < (nw (vx % vy) : Int) := by have := nw_pos.2 h0; omega
  have x0 := HX7.out.cell0
  have y0 := HY7.out.cell0
  generalize ((nw (vx % vy) : Nat) : Int) = m at r1 hn
  have hd : decide ((0 : Int) < m) = true := decide_eq_true hn
  go_wp2_with fail
  go_quiet (fail)
  have HQ8 : Hid (IsW (W7.drewN nq) q false (vx / vy)) := IsX.drew HQ7.out nq
  have HR8 : Hid (IsW (W7.drewN nq) r true (vx % vy)) := IsX.drew HR7.out nq
  have HB8 : Hid (Below w.heap.size w (W7.drewN nq)) := pwd_below_drewN HB7.out nq
  generalize W7.drewN nq = W8 at HQ8 HR8 HB8 ⊢
  clear HQ7 HR7 HX7 HY7 HB7
  go_wp2_with fail
  refine (text_any q _ (vx / vy) _ HQ8.out (fits_114 (fits_div FX.out)) (HEE.out.below HB8.out).1).mono ?_
  rintro e w9 ⟨rfl, hb9⟩
  have HB9 := Hid.mk' (Below.trans HB8.out (hb9.mono HB8.out.size))
  have HR9 := Hid.mk' (HR8.out.below hb9 HR8.out.size)
  clear hb9
  go_wp2_with fail
  refine (text_any r _ (vx % vy) _ HR9.out (fits_114 (fits_mod FX.out)) (HEE.out.below HB9.out).1).mono ?_
  rintro e w10 ⟨rfl, hb10⟩
  have HB10 := Hid.mk' (Below.trans HB9.out (hb10.mono HB9.out.size))
  clear hb10
  go_wp2_with fail
  go_ret3
  exact ⟨rfl, HB10.out⟩
set_option maxRecDepth 100000 in
set_option maxHeartbeats 1000000 in
theorem parted_lf (a b : ByteArray) (w : World) (HALL : Hid (All2 a b 0)) (e48 : (b.toList == [48]) = false) (HSM : Hid (Sm2 a b 0 0 false)) (HEE : Hid (Env w))
    (vx vy : Nat) (HRA : Hid (Rd a false vx)) (HRB : Hid (Rd b false vy)) (FX : Hid (vx < B ^ 114)) (FY : Hid (vy < B ^ 114)) (HP : Hid (0 < vy)) (h0 : 0 < vx % vy) :
    PartedP a b w (dec (sv (false) (vx / vy)), dec (sv false (vx % vy)), 0) := by
  unfold PartedP
  go_enter Tryd.func33, Tryd.ntmps33
  go_wp2_with ((with_reducible refine gate_dst (N := 20) rfl ?_); refine Kd.R_lit Kd.string _ 22 ?hg (N := 20) ?hd (xs := ([a, b] : List ByteArray)) (inner := [.string a, .string b]) (ok := fun _ => True) (okp := fun _ => True) ?hr ?hp (fun _ hk => hk) trivial (Below.refl _ _) (Nat.le_refl _) (by simp) ?_; (case hd => rfl); (case hg => rfl); (case hr => first | (go_simp; done) | (go_simp; rfl)); (case hp => exact (Reps.one (show Kd.M Kd.string _ _ _ a [.string a] from rfl) (Reps.one (show Kd.M Kd.string _ _ _ b [.string b] from rfl) (Reps.none _ _)))); intro v1 w1 ho hb _ _; have HO := Hid.mk' ho; have HB1 := Hid.mk' hb; clear ho hb; obtain ⟨Ao, co, eo⟩ := Kd.R_slice HO.out; subst eo)
  refine (HALL.out Ao co w1 (Kd.R_reads' HO.out).2.2 (Kd.R_reads' HO.out).2.1).mono ?_
  rintro e w2 ⟨rfl, hb2⟩
  have HB2 := Hid.mk' (Below.trans HB1.out (hb2.mono HB1.out.size))
  clear hb2 HO HB1
  go_wp2_with fail
  refine (HSM.out w2).mono ?_
  rintro e w3 ⟨rfl, hb3⟩
  have HB3 := Hid.mk' (Below.trans HB2.out (hb3.mono HB2.out.size))
  clear hb3 HB2 HSM HALL
  go_wp2_with fail
  refine (HRA.out w3).mono ?_
  rintro e w4 ⟨pa, rfl, hpa, hwa, hb4⟩
  have HB4 := Hid.mk' (Below.trans HB3.out (hb4.mono HB3.out.size))
  have HWA := Hid.mk' hwa
  clear hb4 hwa HRA HB3
  go_wp2_with fail
  refine (HRB.out w4).mono ?_
  rintro e w5 ⟨pb, rfl, hpb, hwb, hb5⟩
  have hab : pa ≠ pb := by have := HWA.out.size; omega
  have HWA2 := Hid.mk' (HWA.out.below hb5 HWA.out.size)
  have HB5 := Hid.mk' (Below.trans HB4.out (hb5.mono HB4.out.size))
  have HWB := Hid.mk' hwb
  clear hb5 hwb HRB HB4 HWA hpa hpb
  go_wp2_with fail
  refine (divided_any pa pb false false vx vy w5 HWA2.out HWB.out (fits_114 FX.out) (fits_B FY.out) HP.out).mono ?_
  rintro e w6 ⟨q, r, rfl, hq, hr, hqr, hwq, hwr, hb6⟩
  have haq : pa ≠ q := by have := HWA2.out.size; omega
  have har : pa ≠ r := by have := HWA2.out.size; omega
  have hbq : pb ≠ q := by have := HWB.out.size; omega
  have hbr : pb ≠ r := by have := HWB.out.size; omega
  have HB6 := Hid.mk' (Below.trans HB5.out (hb6.mono HB5.out.size))
  have hgq : w.heap.size ≤ q := Nat.le_trans HB5.out.size hq
  have hgr : w.heap.size ≤ r := Nat.le_trans HB5.out.size hr
  have HX := Hid.mk' (HWA2.out.below hb6 HWA2.out.size)
  have HY := Hid.mk' (HWB.out.below hb6 HWB.out.size)
  have HQ := Hid.mk' hwq
  have HR := Hid.mk' hwr
  clear hb6 hwq hwr hq hr HWA2 HWB HB5
  have k1 := HX.out.cell0
  have k2 := HY.out.cell0
  have k3 := HQ.out.cell0
  have k4 := HQ.out.free 0
  have k5 := HR.out.cell0
  have k6 := HR.out.free 0
  have n1 := ne_addr haq
  have n2 := ne_addr har
  have n3 := ne_addr hbq
  have n4 := ne_addr hbr
  have n5 := ne_addr hqr
  have n6 := ne_addr (Ne.symm hqr)
  go_wp2_with fail
  go_region_held3 (fun w' => w'.cell? ⟨pa, 0, none⟩ = some (.bool false) ∧ w'.cell? ⟨pb, 0, none⟩ = some (.bool false)) (first | (go_keep; done) | (refine And.intro ?_ ?_ <;> repeat (first | assumption | apply keep_drew | refine keep_set (by assumption) ?_))) (fail)
  have HQ7 : Hid (IsW ((w6.setCell ⟨q, 0, none⟩ (.bool false)).setCell ⟨r, 0, none⟩ (.bool false)).drew q false (vx / vy)) := IsX.drew1 ((HQ.out.set0 _).other r 0 _ hqr)
  have HR7 : Hid (IsW ((w6.setCell ⟨q, 0, none⟩ (.bool false)).setCell ⟨r, 0, none⟩ (.bool false)).drew r false (vx % vy)) := IsX.drew1 ((HR.out.other q 0 _ hqr.symm).set0 _)
  have HX7 : Hid (IsW ((w6.setCell ⟨q, 0, none⟩ (.bool false)).setCell ⟨r, 0, none⟩ (.bool false)).drew pa false vx) := IsX.drew1 ((HX.out.other q 0 _ haq).other r 0 _ har)
  have HY7 : Hid (IsW ((w6.setCell ⟨q, 0, none⟩ (.bool false)).setCell ⟨r, 0, none⟩ (.bool false)).drew pb false vy) := IsX.drew1 ((HY.out.other q 0 _ hbq).other r 0 _ hbr)
  have HB7 : Hid (Below w.heap.size w ((w6.setCell ⟨q, 0, none⟩ (.bool false)).setCell ⟨r, 0, none⟩ (.bool false)).drew) := Below.drew ((HB6.out.setCell (p := ⟨q, 0, none⟩) hgq _).setCell (p := ⟨r, 0, none⟩) hgr _)
  generalize ((w6.setCell ⟨q, 0, none⟩ (.bool false)).setCell ⟨r, 0, none⟩ (.bool false)).drew = W7 at HQ7 HR7 HX7 HY7 HB7 ⊢
  clear k1 k2 k3 k4 k5 k6 n1 n2 n3 n4 n5 n6 HX HY HQ HR HB6
  have r1 := HR7.out.cell1
  have hn : (0 : Int) < (nw (vx % vy) : Int) := by have := nw_pos.2 h0; omega
  have x0 := HX7.out.cell0
  have y0 := HY7.out.cell0
  generalize ((nw (vx % vy) : Nat) : Int) = m at r1 hn
  have hd : decide ((0 : Int) < m) = true := decide_eq_true hn
  go_wp2_with fail
  go_quiet (fail)
  have HQ8 : Hid (IsW (W7.drewN nq) q false (vx / vy)) := IsX.drew HQ7.out nq
  have HR8 : Hid (IsW (W7.drewN nq) r false (vx % vy)) := IsX.drew HR7.out nq
  have HB8 : Hid (Below w.heap.size w (W7.drewN nq)) := pwd_below_drewN HB7.out nq
  generalize W7.drewN nq = W8 at HQ8 HR8 HB8 ⊢
  clear HQ7 HR7 HX7 HY7 HB7
  go_wp2_with fail
  refine (text_any q _ (vx / vy) _ HQ8.out (fits_114 (fits_div FX.out)) (HEE.out.below HB8.out).1).mono ?_
  rintro e w9 ⟨rfl, hb9⟩
  have HB9 := Hid.mk' (Below.trans HB8.out (hb9.mono HB8.out.size))
  have HR9 := Hid.mk' (HR8.out.below hb9 HR8.out.size)
  clear hb9
  go_wp2_with fail
  refine (text_any r _ (vx % vy) _ HR9.out (fits_114 (fits_mod FX.out)) (HEE.out.below HB9.out).1).mono ?_
  rintro e w10 ⟨rfl, hb10⟩
  have HB10 := Hid.mk' (Below.trans HB9.out (hb10.mono HB9.out.size))
  clear hb10
  go_wp2_with fail
  go_ret3
  exact ⟨rfl, HB10.out⟩
end Go.Proofs.YtpkfnclbcmnckaaDoor
/- The walk of whole.parted: long numbers with a remainder, and different signs. -/
set_option linter.unusedVariables false
namespace Go.Proofs.YtpkfnclbcmnckaaDoor
open Go Go.RowKit Go.Proofs.YtpkfnclbcmnckaaDoor.Dec Go.Proofs.YtpkfnclbcmnckaaDoor.Mem Go.Proofs.YtpkfnclbcmnckaaDoor.Wid Go.Proofs.YtpkfnclbcmnckaaDoorW.PrintWords

theorem one_114 : 1 < B ^ 114 := Nat.one_lt_pow (by decide) (by decide)
theorem one_lay : (Tryd.zeroCells52.setIfInBounds 0 (.bool true)).setIfInBounds 1 (.int .i64 1) = wcell true 1 (List.replicate 232 0) := by kernel_rfl
theorem one_new (w : World) : IsX (w.alloc (.cells ((Tryd.zeroCells52.setIfInBounds 0 (.bool true)).setIfInBounds 1 (.int .i64 1)) 52)) w.heap.size true 1 (List.replicate 232 0) := by
  rw [one_lay]
  exact isX_alloc_new w true 1 _ List.length_replicate
theorem nw_1 : nw 1 = 1 := by
  have h := nw_pos (v := 1)
  have h2 := (nw_le_iff 1 1).2 (by decide)
  have := h.2 (by decide)
  omega
theorem W_1 : (List.replicate 232 (0 : Int)).set 0 1 = W 1 := by kernel_rfl
theorem size_set (w : World) (p : Addr) (v : Value) : (w.setCell p v).heap.size = w.heap.size := by simp [World.setCell]
theorem one_lay2 : ((Tryd.zeroCells52.setIfInBounds 0 (.bool true)).setIfInBounds 1 (.int .i64 1)).setIfInBounds 2 (.int .i64 1) = wcell true 1 (W 1) := by kernel_rfl
theorem one_set (w : World) : IsW (w.alloc (.cells (((Tryd.zeroCells52.setIfInBounds 0 (.bool true)).setIfInBounds 1 (.int .i64 1)).setIfInBounds 2 (.int .i64 1)) 52)) w.heap.size true 1 := by
  show IsX _ _ _ _ _
  rw [one_lay2, nw_1]
  exact isX_alloc_new w true 1 _ (by simp)
set_option maxRecDepth 100000 in
set_option maxHeartbeats 1000000 in
theorem parted_ltf (a b : ByteArray) (w : World) (HALL : Hid (All2 a b 0)) (e48 : (b.toList == [48]) = false) (HSM : Hid (Sm2 a b 0 0 false)) (HEE : Hid (Env w))
    (vx vy : Nat) (HRA : Hid (Rd a true vx)) (HRB : Hid (Rd b false vy)) (FX : Hid (vx < B ^ 114)) (FY : Hid (vy < B ^ 114)) (HP : Hid (0 < vy)) (h0 : 0 < vx % vy) :
    PartedP a b w (dec (sv true (vx / vy) + sv true 1), dec (sv true (vx % vy) + sv false vy), 0) := by
  unfold PartedP
  go_enter Tryd.func33, Tryd.ntmps33
  go_wp2_with ((with_reducible refine gate_dst (N := 20) rfl ?_); refine Kd.R_lit Kd.string _ 22 ?hg (N := 20) ?hd (xs := ([a, b] : List ByteArray)) (inner := [.string a, .string b]) (ok := fun _ => True) (okp := fun _ => True) ?hr ?hp (fun _ hk => hk) trivial (Below.refl _ _) (Nat.le_refl _) (by simp) ?_; (case hd => rfl); (case hg => rfl); (case hr => first | (go_simp; done) | (go_simp; rfl)); (case hp => exact (Reps.one (show Kd.M Kd.string _ _ _ a [.string a] from rfl) (Reps.one (show Kd.M Kd.string _ _ _ b [.string b] from rfl) (Reps.none _ _)))); intro v1 w1 ho hb _ _; have HO := Hid.mk' ho; have HB1 := Hid.mk' hb; clear ho hb; obtain ⟨Ao, co, eo⟩ := Kd.R_slice HO.out; subst eo)
  refine (HALL.out Ao co w1 (Kd.R_reads' HO.out).2.2 (Kd.R_reads' HO.out).2.1).mono ?_
  rintro e w2 ⟨rfl, hb2⟩
  have HB2 := Hid.mk' (Below.trans HB1.out (hb2.mono HB1.out.size))
  clear hb2 HO HB1
  go_wp2_with fail
  refine (HSM.out w2).mono ?_
  rintro e w3 ⟨rfl, hb3⟩
  have HB3 := Hid.mk' (Below.trans HB2.out (hb3.mono HB2.out.size))
  clear hb3 HB2 HSM HALL
  go_wp2_with fail
  refine (HRA.out w3).mono ?_
  rintro e w4 ⟨pa, rfl, hpa, hwa, hb4⟩
  have HB4 := Hid.mk' (Below.trans HB3.out (hb4.mono HB3.out.size))
  have HWA := Hid.mk' hwa
  clear hb4 hwa HRA HB3
  go_wp2_with fail
  refine (HRB.out w4).mono ?_
  rintro e w5 ⟨pb, rfl, hpb, hwb, hb5⟩
  have hab : pa ≠ pb := by have := HWA.out.size; omega
  have HWA2 := Hid.mk' (HWA.out.below hb5 HWA.out.size)
  have HB5 := Hid.mk' (Below.trans HB4.out (hb5.mono HB4.out.size))
  have HWB := Hid.mk' hwb
  clear hb5 hwb HRB HB4 HWA hpa hpb
  go_wp2_with fail
  refine (divided_any pa pb true false vx vy w5 HWA2.out HWB.out (fits_114 FX.out) (fits_B FY.out) HP.out).mono ?_
  rintro e w6 ⟨q, r, rfl, hq, hr, hqr, hwq, hwr, hb6⟩
  have haq : pa ≠ q := by have := HWA2.out.size; omega
  have har : pa ≠ r := by have := HWA2.out.size; omega
  have hbq : pb ≠ q := by have := HWB.out.size; omega
  have hbr : pb ≠ r := by have := HWB.out.size; omega
  have HB6 := Hid.mk' (Below.trans HB5.out (hb6.mono HB5.out.size))
  have hgq : w.heap.size ≤ q := Nat.le_trans HB5.out.size hq
  have hgr : w.heap.size ≤ r := Nat.le_trans HB5.out.size hr
  have HX := Hid.mk' (HWA2.out.below hb6 HWA2.out.size)
  have HY := Hid.mk' (HWB.out.below hb6 HWB.out.size)
  have HQ := Hid.mk' hwq
  have HR := Hid.mk' hwr
  clear hb6 hwq hwr hq hr HWA2 HWB HB5
  have k1 := HX.out.cell0
  have k2 := HY.out.cell0
  have k3 := HQ.out.cell0
  have k4 := HQ.out.free 0
  have k5 := HR.out.cell0
  have k6 := HR.out.free 0
  have n1 := ne_addr haq
  have n2 := ne_addr har
  have n3 := ne_addr hbq
  have n4 := ne_addr hbr
  have n5 := ne_addr hqr
  have n6 := ne_addr (Ne.symm hqr)
  go_wp2_with fail
  go_region_held3 (fun w' => w'.cell? ⟨pa, 0, none⟩ = some (.bool true) ∧ w'.cell? ⟨pb, 0, none⟩ = some (.bool false)) (first | (go_keep; done) | (refine And.intro ?_ ?_ <;> repeat (first | assumption | apply keep_drew | refine keep_set (by assumption) ?_))) (fail)
  have HQ7 : Hid (IsW ((w6.setCell ⟨q, 0, none⟩ (.bool true)).setCell ⟨r, 0, none⟩ (.bool true)).drew q true (vx / vy)) := IsX.drew1 ((HQ.out.set0 _).other r 0 _ hqr)
  have HR7 : Hid (IsW ((w6.setCell ⟨q, 0, none⟩ (.bool true)).setCell ⟨r, 0, none⟩ (.bool true)).drew r true (vx % vy)) := IsX.drew1 ((HR.out.other q 0 _ hqr.symm).set0 _)
  have HX7 : Hid (IsW ((w6.setCell ⟨q, 0, none⟩ (.bool true)).setCell ⟨r, 0, none⟩ (.bool true)).drew pa true vx) := IsX.drew1 ((HX.out.other q 0 _ haq).other r 0 _ har)
  have HY7 : Hid (IsW ((w6.setCell ⟨q, 0, none⟩ (.bool true)).setCell ⟨r, 0, none⟩ (.bool true)).drew pb false vy) := IsX.drew1 ((HY.out.other q 0 _ hbq).other r 0 _ hbr)
  have HB7 : Hid (Below w.heap.size w ((w6.setCell ⟨q, 0, none⟩ (.bool true)).setCell ⟨r, 0, none⟩ (.bool true)).drew) := Below.drew ((HB6.out.setCell (p := ⟨q, 0, none⟩) hgq _).setCell (p := ⟨r, 0, none⟩) hgr _)
  generalize ((w6.setCell ⟨q, 0, none⟩ (.bool true)).setCell ⟨r, 0, none⟩ (.bool true)).drew = W7 at HQ7 HR7 HX7 HY7 HB7 ⊢
  clear k1 k2 k3 k4 k5 k6 n1 n2 n3 n4 n5 n6 HX HY HQ HR HB6
  have r1 := HR7.out.cell1
  have hn : (0 : Int) < (nw (vx % vy) : Int) := by have := nw_pos.2 h0; omega
  have x0 := HX7.out.cell0
  have y0 := HY7.out.cell0
  generalize ((nw (vx % vy) : Nat) : Int) = m at r1 hn
  have hd : decide ((0 : Int) < m) = true := decide_eq_true hn
  go_wp2_with fail
  go_quiet (fail)
  have HQ8 : Hid (IsW (W7.drewN nq) q true (vx / vy)) := IsX.drew HQ7.out nq
  have HR8 : Hid (IsW (W7.drewN nq) r true (vx % vy)) := IsX.drew HR7.out nq
  have HB8 : Hid (Below w.heap.size w (W7.drewN nq)) := pwd_below_drewN HB7.out nq
  have HY8 : Hid (IsW (W7.drewN nq) pb false vy) := IsX.drew HY7.out nq
  generalize W7.drewN nq = W8 at HQ8 HR8 HB8 HY8 ⊢
  clear HQ7 HR7 HX7 HY7 HB7
  clear r1 hn x0 y0 hd
  have hqs := HQ8.out.size
  have hrs := HR8.out.size
  have hys := HY8.out.size
  have a1 := (one_new W8).cellw 0 (by decide)
  have a2 := (one_new W8).free 2
  have Hq2 : Hid (IsW (W8.alloc (.cells (((Tryd.zeroCells52.setIfInBounds 0 (.bool true)).setIfInBounds 1 (.int .i64 1)).setIfInBounds 2 (.int .i64 1)) 52)) q true (vx / vy)) := HQ8.out.alloc _
  have hq3 := Hq2.out.cell0
  have hq4 := Hq2.out.free 0
  have HB9 : Hid (Below w.heap.size w ((W8.setCell ⟨q, 0, none⟩ (.bool true)).alloc (.cells (((Tryd.zeroCells52.setIfInBounds 0 (.bool true)).setIfInBounds 1 (.int .i64 1)).setIfInBounds 2 (.int .i64 1)) 52))) := (HB8.out.setCell (p := ⟨q, 0, none⟩) hgq _).alloc (by rw [size_set]; exact HB8.out.size) _
  have Hq5 : Hid (IsW ((W8.setCell ⟨q, 0, none⟩ (.bool true)).alloc (.cells (((Tryd.zeroCells52.setIfInBounds 0 (.bool true)).setIfInBounds 1 (.int .i64 1)).setIfInBounds 2 (.int .i64 1)) 52)) q true (vx / vy)) := (IsX.set0 HQ8.out true).alloc _
  have Hr5 : Hid (IsW ((W8.setCell ⟨q, 0, none⟩ (.bool true)).alloc (.cells (((Tryd.zeroCells52.setIfInBounds 0 (.bool true)).setIfInBounds 1 (.int .i64 1)).setIfInBounds 2 (.int .i64 1)) 52)) r true (vx % vy)) := (IsX.other HR8.out q 0 (.bool true) hqr.symm).alloc _
  have Hy5 : Hid (IsW ((W8.setCell ⟨q, 0, none⟩ (.bool true)).alloc (.cells (((Tryd.zeroCells52.setIfInBounds 0 (.bool true)).setIfInBounds 1 (.int .i64 1)).setIfInBounds 2 (.int .i64 1)) 52)) pb false vy) := (IsX.other HY8.out q 0 (.bool true) hbq).alloc _
  have Ho5 : Hid (IsW ((W8.setCell ⟨q, 0, none⟩ (.bool true)).alloc (.cells (((Tryd.zeroCells52.setIfInBounds 0 (.bool true)).setIfInBounds 1 (.int .i64 1)).setIfInBounds 2 (.int .i64 1)) 52)) W8.heap.size true 1) := by
    have := one_set (W8.setCell ⟨q, 0, none⟩ (.bool true))
    rwa [size_set] at this
  have hqo : q ≠ W8.heap.size := by omega
  clear HQ8 HR8 HY8 Hq2
  go_wp2_with fail
  refine (plus_any q W8.heap.size hqo _ _ _ _ _ Hq5.out Ho5.out (fits_114 (fits_div FX.out)) (fits_114 (one_114)) (fits_add (fits_div FX.out) (one_114))).mono ?_
  rintro e w10 ⟨rfl, ⟨l1, v1, hw1, hs1, hv1⟩, hg1⟩
  have HR10 := Hid.mk' (Hr5.out.grown hg1 (by simpa using hqr.symm))
  have HY10 := Hid.mk' (Hy5.out.grown hg1 (by simpa using hbq))
  have HQ10 := Hid.mk' hw1
  have hqz : w.heap.size ≤ ((W8.setCell ⟨q, 0, none⟩ (.bool true)).alloc (.cells (((Tryd.zeroCells52.setIfInBounds 0 (.bool true)).setIfInBounds 1 (.int .i64 1)).setIfInBounds 2 (.int .i64 1)) 52)).heap.size := HB9.out.size
  have HB10 := Hid.mk' (Below.trans HB9.out (grown_below hgq hg1 hqz))
  have hf1 : Hid (Fits v1) := fits_le (fits_add (fits_div (u := vy) FX.out) (one_114)) hv1
  have HS1 := Hid.mk' hs1
  clear hw1 hs1 hv1 hg1 Hq5 Hr5 Hy5 Ho5 a1 a2 hq3 hq4 hqz HB9 HB8
  go_wp2_with fail
  refine (plus_any r pb hbr.symm _ _ _ _ _ HR10.out HY10.out (fits_114 (fits_mod FX.out)) (fits_114 FY.out) (fits_add (fits_mod FX.out) FY.out)).mono ?_
  rintro e w11 ⟨rfl, ⟨l2, v2, hw2, hs2, hv2⟩, hg2⟩
  have HQ11 := Hid.mk' (HQ10.out.grown hg2 (by simpa using hqr))
  have HR11 := Hid.mk' hw2
  have HB11 := Hid.mk' (Below.trans HB10.out (grown_below hgr hg2 HB10.out.size))
  have hf2 : Hid (Fits v2) := fits_le (fits_add (fits_mod (u := vy) FX.out) FY.out) hv2
  have HS2 := Hid.mk' hs2
  clear hw2 hs2 hv2 hg2 HQ10 HR10 HY10 HB10
  go_wp2_with fail
  refine (text_any q _ v1 _ HQ11.out hf1.out (HEE.out.below HB11.out).1).mono ?_
  rintro e w12 ⟨rfl, hb12⟩
  have HB12 := Hid.mk' (Below.trans HB11.out (hb12.mono HB11.out.size))
  have HR12 := Hid.mk' (HR11.out.below hb12 HR11.out.size)
  clear hb12
  go_wp2_with fail
  refine (text_any r _ v2 _ HR12.out hf2.out (HEE.out.below HB12.out).1).mono ?_
  rintro e w13 ⟨rfl, hb13⟩
  have HB13 := Hid.mk' (Below.trans HB12.out (hb13.mono HB12.out.size))
  clear hb13
  rw [HS1.out, HS2.out]
  go_wp2_with fail
  go_ret3
  exact ⟨rfl, HB13.out⟩
set_option maxRecDepth 100000 in
set_option maxHeartbeats 1000000 in
theorem parted_lft (a b : ByteArray) (w : World) (HALL : Hid (All2 a b 0)) (e48 : (b.toList == [48]) = false) (HSM : Hid (Sm2 a b 0 0 false)) (HEE : Hid (Env w))
    (vx vy : Nat) (HRA : Hid (Rd a false vx)) (HRB : Hid (Rd b true vy)) (FX : Hid (vx < B ^ 114)) (FY : Hid (vy < B ^ 114)) (HP : Hid (0 < vy)) (h0 : 0 < vx % vy) :
    PartedP a b w (dec (sv true (vx / vy) + sv true 1), dec (sv false (vx % vy) + sv true vy), 0) := by
  unfold PartedP
  go_enter Tryd.func33, Tryd.ntmps33
  go_wp2_with ((with_reducible refine gate_dst (N := 20) rfl ?_); refine Kd.R_lit Kd.string _ 22 ?hg (N := 20) ?hd (xs := ([a, b] : List ByteArray)) (inner := [.string a, .string b]) (ok := fun _ => True) (okp := fun _ => True) ?hr ?hp (fun _ hk => hk) trivial (Below.refl _ _) (Nat.le_refl _) (by simp) ?_; (case hd => rfl); (case hg => rfl); (case hr => first | (go_simp; done) | (go_simp; rfl)); (case hp => exact (Reps.one (show Kd.M Kd.string _ _ _ a [.string a] from rfl) (Reps.one (show Kd.M Kd.string _ _ _ b [.string b] from rfl) (Reps.none _ _)))); intro v1 w1 ho hb _ _; have HO := Hid.mk' ho; have HB1 := Hid.mk' hb; clear ho hb; obtain ⟨Ao, co, eo⟩ := Kd.R_slice HO.out; subst eo)
  refine (HALL.out Ao co w1 (Kd.R_reads' HO.out).2.2 (Kd.R_reads' HO.out).2.1).mono ?_
  rintro e w2 ⟨rfl, hb2⟩
  have HB2 := Hid.mk' (Below.trans HB1.out (hb2.mono HB1.out.size))
  clear hb2 HO HB1
  go_wp2_with fail
  refine (HSM.out w2).mono ?_
  rintro e w3 ⟨rfl, hb3⟩
  have HB3 := Hid.mk' (Below.trans HB2.out (hb3.mono HB2.out.size))
  clear hb3 HB2 HSM HALL
  go_wp2_with fail
  refine (HRA.out w3).mono ?_
  rintro e w4 ⟨pa, rfl, hpa, hwa, hb4⟩
  have HB4 := Hid.mk' (Below.trans HB3.out (hb4.mono HB3.out.size))
  have HWA := Hid.mk' hwa
  clear hb4 hwa HRA HB3
  go_wp2_with fail
  refine (HRB.out w4).mono ?_
  rintro e w5 ⟨pb, rfl, hpb, hwb, hb5⟩
  have hab : pa ≠ pb := by have := HWA.out.size; omega
  have HWA2 := Hid.mk' (HWA.out.below hb5 HWA.out.size)
  have HB5 := Hid.mk' (Below.trans HB4.out (hb5.mono HB4.out.size))
  have HWB := Hid.mk' hwb
  clear hb5 hwb HRB HB4 HWA hpa hpb
  go_wp2_with fail
  refine (divided_any pa pb false true vx vy w5 HWA2.out HWB.out (fits_114 FX.out) (fits_B FY.out) HP.out).mono ?_
  rintro e w6 ⟨q, r, rfl, hq, hr, hqr, hwq, hwr, hb6⟩
  have haq : pa ≠ q := by have := HWA2.out.size; omega
  have har : pa ≠ r := by have := HWA2.out.size; omega
  have hbq : pb ≠ q := by have := HWB.out.size; omega
  have hbr : pb ≠ r := by have := HWB.out.size; omega
  have HB6 := Hid.mk' (Below.trans HB5.out (hb6.mono HB5.out.size))
  have hgq : w.heap.size ≤ q := Nat.le_trans HB5.out.size hq
  have hgr : w.heap.size ≤ r := Nat.le_trans HB5.out.size hr
  have HX := Hid.mk' (HWA2.out.below hb6 HWA2.out.size)
  have HY := Hid.mk' (HWB.out.below hb6 HWB.out.size)
  have HQ := Hid.mk' hwq
  have HR := Hid.mk' hwr
  clear hb6 hwq hwr hq hr HWA2 HWB HB5
  have k1 := HX.out.cell0
  have k2 := HY.out.cell0
  have k3 := HQ.out.cell0
  have k4 := HQ.out.free 0
  have k5 := HR.out.cell0
  have k6 := HR.out.free 0
  have n1 := ne_addr haq
  have n2 := ne_addr har
  have n3 := ne_addr hbq
  have n4 := ne_addr hbr
  have n5 := ne_addr hqr
  have n6 := ne_addr (Ne.symm hqr)
  go_wp2_with fail
  go_region_held3 (fun w' => w'.cell? ⟨pa, 0, none⟩ = some (.bool false) ∧ w'.cell? ⟨pb, 0, none⟩ = some (.bool true)) (first | (go_keep; done) | (refine And.intro ?_ ?_ <;> repeat (first | assumption | apply keep_drew | refine keep_set (by assumption) ?_))) (fail)
  have HQ7 : Hid (IsW ((w6.setCell ⟨q, 0, none⟩ (.bool true)).setCell ⟨r, 0, none⟩ (.bool false)).drew q true (vx / vy)) := IsX.drew1 ((HQ.out.set0 _).other r 0 _ hqr)
  have HR7 : Hid (IsW ((w6.setCell ⟨q, 0, none⟩ (.bool true)).setCell ⟨r, 0, none⟩ (.bool false)).drew r false (vx % vy)) := IsX.drew1 ((HR.out.other q 0 _ hqr.symm).set0 _)
  have HX7 : Hid (IsW ((w6.setCell ⟨q, 0, none⟩ (.bool true)).setCell ⟨r, 0, none⟩ (.bool false)).drew pa false vx) := IsX.drew1 ((HX.out.other q 0 _ haq).other r 0 _ har)
  have HY7 : Hid (IsW ((w6.setCell ⟨q, 0, none⟩ (.bool true)).setCell ⟨r, 0, none⟩ (.bool false)).drew pb true vy) := IsX.drew1 ((HY.out.other q 0 _ hbq).other r 0 _ hbr)
  have HB7 : Hid (Below w.heap.size w ((w6.setCell ⟨q, 0, none⟩ (.bool true)).setCell ⟨r, 0, none⟩ (.bool false)).drew) := Below.drew ((HB6.out.setCell (p := ⟨q, 0, none⟩) hgq _).setCell (p := ⟨r, 0, none⟩) hgr _)
  generalize ((w6.setCell ⟨q, 0, none⟩ (.bool true)).setCell ⟨r, 0, none⟩ (.bool false)).drew = W7 at HQ7 HR7 HX7 HY7 HB7 ⊢
  clear k1 k2 k3 k4 k5 k6 n1 n2 n3 n4 n5 n6 HX HY HQ HR HB6
  have r1 := HR7.out.cell1
  have hn : (0 : Int) < (nw (vx % vy) : Int) := by have := nw_pos.2 h0; omega
  have x0 := HX7.out.cell0
  have y0 := HY7.out.cell0
  generalize ((nw (vx % vy) : Nat) : Int) = m at r1 hn
  have hd : decide ((0 : Int) < m) = true := decide_eq_true hn
  go_wp2_with fail
  go_quiet (fail)
  have HQ8 : Hid (IsW (W7.drewN nq) q true (vx / vy)) := IsX.drew HQ7.out nq
  have HR8 : Hid (IsW (W7.drewN nq) r false (vx % vy)) := IsX.drew HR7.out nq
  have HB8 : Hid (Below w.heap.size w (W7.drewN nq)) := pwd_below_drewN HB7.out nq
  have HY8 : Hid (IsW (W7.drewN nq) pb true vy) := IsX.drew HY7.out nq
  generalize W7.drewN nq = W8 at HQ8 HR8 HB8 HY8 ⊢
  clear HQ7 HR7 HX7 HY7 HB7
  clear r1 hn x0 y0 hd
  have hqs := HQ8.out.size
  have hrs := HR8.out.size
  have hys := HY8.out.size
  have a1 := (one_new W8).cellw 0 (by decide)
  have a2 := (one_new W8).free 2
  have Hq2 : Hid (IsW (W8.alloc (.cells (((Tryd.zeroCells52.setIfInBounds 0 (.bool true)).setIfInBounds 1 (.int .i64 1)).setIfInBounds 2 (.int .i64 1)) 52)) q true (vx / vy)) := HQ8.out.alloc _
  have hq3 := Hq2.out.cell0
  have hq4 := Hq2.out.free 0
  have HB9 : Hid (Below w.heap.size w ((W8.setCell ⟨q, 0, none⟩ (.bool true)).alloc (.cells (((Tryd.zeroCells52.setIfInBounds 0 (.bool true)).setIfInBounds 1 (.int .i64 1)).setIfInBounds 2 (.int .i64 1)) 52))) := (HB8.out.setCell (p := ⟨q, 0, none⟩) hgq _).alloc (by rw [size_set]; exact HB8.out.size) _
  have Hq5 : Hid (IsW ((W8.setCell ⟨q, 0, none⟩ (.bool true)).alloc (.cells (((Tryd.zeroCells52.setIfInBounds 0 (.bool true)).setIfInBounds 1 (.int .i64 1)).setIfInBounds 2 (.int .i64 1)) 52)) q true (vx / vy)) := (IsX.set0 HQ8.out true).alloc _
  have Hr5 : Hid (IsW ((W8.setCell ⟨q, 0, none⟩ (.bool true)).alloc (.cells (((Tryd.zeroCells52.setIfInBounds 0 (.bool true)).setIfInBounds 1 (.int .i64 1)).setIfInBounds 2 (.int .i64 1)) 52)) r false (vx % vy)) := (IsX.other HR8.out q 0 (.bool true) hqr.symm).alloc _
  have Hy5 : Hid (IsW ((W8.setCell ⟨q, 0, none⟩ (.bool true)).alloc (.cells (((Tryd.zeroCells52.setIfInBounds 0 (.bool true)).setIfInBounds 1 (.int .i64 1)).setIfInBounds 2 (.int .i64 1)) 52)) pb true vy) := (IsX.other HY8.out q 0 (.bool true) hbq).alloc _
  have Ho5 : Hid (IsW ((W8.setCell ⟨q, 0, none⟩ (.bool true)).alloc (.cells (((Tryd.zeroCells52.setIfInBounds 0 (.bool true)).setIfInBounds 1 (.int .i64 1)).setIfInBounds 2 (.int .i64 1)) 52)) W8.heap.size true 1) := by
    have := one_set (W8.setCell ⟨q, 0, none⟩ (.bool true))
    rwa [size_set] at this
  have hqo : q ≠ W8.heap.size := by omega
  clear HQ8 HR8 HY8 Hq2
  go_wp2_with fail
  refine (plus_any q W8.heap.size hqo _ _ _ _ _ Hq5.out Ho5.out (fits_114 (fits_div FX.out)) (fits_114 (one_114)) (fits_add (fits_div FX.out) (one_114))).mono ?_
  rintro e w10 ⟨rfl, ⟨l1, v1, hw1, hs1, hv1⟩, hg1⟩
  have HR10 := Hid.mk' (Hr5.out.grown hg1 (by simpa using hqr.symm))
  have HY10 := Hid.mk' (Hy5.out.grown hg1 (by simpa using hbq))
  have HQ10 := Hid.mk' hw1
  have hqz : w.heap.size ≤ ((W8.setCell ⟨q, 0, none⟩ (.bool true)).alloc (.cells (((Tryd.zeroCells52.setIfInBounds 0 (.bool true)).setIfInBounds 1 (.int .i64 1)).setIfInBounds 2 (.int .i64 1)) 52)).heap.size := HB9.out.size
  have HB10 := Hid.mk' (Below.trans HB9.out (grown_below hgq hg1 hqz))
  have hf1 : Hid (Fits v1) := fits_le (fits_add (fits_div (u := vy) FX.out) (one_114)) hv1
  have HS1 := Hid.mk' hs1
  clear hw1 hs1 hv1 hg1 Hq5 Hr5 Hy5 Ho5 a1 a2 hq3 hq4 hqz HB9 HB8
  go_wp2_with fail
  refine (plus_any r pb hbr.symm _ _ _ _ _ HR10.out HY10.out (fits_114 (fits_mod FX.out)) (fits_114 FY.out) (fits_add (fits_mod FX.out) FY.out)).mono ?_
  rintro e w11 ⟨rfl, ⟨l2, v2, hw2, hs2, hv2⟩, hg2⟩
  have HQ11 := Hid.mk' (HQ10.out.grown hg2 (by simpa using hqr))
  have HR11 := Hid.mk' hw2
  have HB11 := Hid.mk' (Below.trans HB10.out (grown_below hgr hg2 HB10.out.size))
  have hf2 : Hid (Fits v2) := fits_le (fits_add (fits_mod (u := vy) FX.out) FY.out) hv2
  have HS2 := Hid.mk' hs2
  clear hw2 hs2 hv2 hg2 HQ10 HR10 HY10 HB10
  go_wp2_with fail
  refine (text_any q _ v1 _ HQ11.out hf1.out (HEE.out.below HB11.out).1).mono ?_
  rintro e w12 ⟨rfl, hb12⟩
  have HB12 := Hid.mk' (Below.trans HB11.out (hb12.mono HB11.out.size))
  have HR12 := Hid.mk' (HR11.out.below hb12 HR11.out.size)
  clear hb12
  go_wp2_with fail
  refine (text_any r _ v2 _ HR12.out hf2.out (HEE.out.below HB12.out).1).mono ?_
  rintro e w13 ⟨rfl, hb13⟩
  have HB13 := Hid.mk' (Below.trans HB12.out (hb13.mono HB12.out.size))
  clear hb13
  rw [HS1.out, HS2.out]
  go_wp2_with fail
  go_ret3
  exact ⟨rfl, HB13.out⟩

theorem pp {a b : ByteArray} {w : World} {L M : ByteArray × ByteArray × Int} (h : PartedP a b w L) (e : M = L) : PartedP a b w M := by rw [e]; exact h
theorem parted_any (a b : ByteArray) (w : World) (ha : a.size ≤ 9223372036854775807) (hb : b.size ≤ 9223372036854775807) (HE : Env w) : PartedP a b w (partedS a b) := by
  have hall := all2 a b ha hb
  by_cases h0 : errs [a, b] = 0
  · rw [h0] at hall
    obtain ⟨ca, cb⟩ := errs2 h0
    have e48 := eq48 (chk_zero cb).1
    by_cases hz : iv b = 0
    · rw [decide_eq_true hz] at e48
      exact pp (parted_zero a b w hall e48) (by unfold partedS; rw [if_pos h0, if_pos hz])
    · rw [decide_eq_false hz] at e48
      have hL : partedS a b = (dec ((iv a).fdiv (iv b)), dec ((iv a).fmod (iv b)), 0) := by unfold partedS; rw [if_pos h0, if_neg hz]
      by_cases hs : a.size ≤ 9 ∧ b.size ≤ 9
      · have sa := iv_small (chk_zero ca).1 hs.1
        have sb := iv_small (chk_zero cb).1 hs.2
        have hsm : Sm2 a b (iv a) (iv b) true := fun w => small_short a b w (chk_zero ca).1 (chk_zero cb).1 hs.1 hs.2
        obtain ⟨t1, t2, t3, t4⟩ := tdiv_room sa sb hz
        obtain ⟨p1, p2⟩ := parted_short (iv a) (iv b) hz
        generalize iv a = x at *
        generalize iv b = y at *
        have gq : IntKind.i64.wrap (x.tdiv y) = x.tdiv y := IntWalk.i64_in _ ⟨by omega, by omega⟩
        have gr : IntKind.i64.wrap (x.tmod y) = x.tmod y := IntWalk.i64_in _ ⟨by omega, by omega⟩
        generalize hq : x.tdiv y = q at *
        generalize hr : x.tmod y = r at *
        by_cases hr0 : r = 0
        · obtain ⟨e1, e2⟩ := p2 (fun h => h.1 hr0)
          exact pp (parted_s0 a b w hall e48 x y q r hsm HE hz hq hr gq gr hr0 (ofQ (by omega) (by omega)) (ofQ (by omega) (by omega))) (by rw [hL, e1, e2, hr0])
        · have gr0 : (r == 0) = false := beq_eq_false_iff_ne.2 hr0
          by_cases h1 : r < 0 <;> by_cases h2 : y < 0
          · obtain ⟨e1, e2⟩ := p2 (fun h => h.2 (by rw [decide_eq_true h1, decide_eq_true h2]))
            exact pp (parted_stt a b w hall e48 x y q r hsm HE hz hq hr gq gr gr0 hr0 (decide_eq_true h1) (decide_eq_true h2) (ofQ (by omega) (by omega)) (ofQ (by omega) (by omega))) (by rw [hL, e1, e2])
          · obtain ⟨e1, e2⟩ := p1 ⟨hr0, by rw [decide_eq_true h1, decide_eq_false h2]; decide⟩
            exact pp (parted_stf a b w hall e48 x y q r hsm HE hz hq hr gq gr gr0 hr0 (decide_eq_true h1) (decide_eq_false h2) (IntWalk.i64_in _ ⟨by omega, by omega⟩) (IntWalk.i64_in _ ⟨by omega, by omega⟩) (ofQ (by omega) (by omega)) (ofQ (by omega) (by omega))) (by rw [hL, e1, e2])
          · obtain ⟨e1, e2⟩ := p1 ⟨hr0, by rw [decide_eq_false h1, decide_eq_true h2]; decide⟩
            exact pp (parted_sft a b w hall e48 x y q r hsm HE hz hq hr gq gr gr0 hr0 (decide_eq_false h1) (decide_eq_true h2) (IntWalk.i64_in _ ⟨by omega, by omega⟩) (IntWalk.i64_in _ ⟨by omega, by omega⟩) (ofQ (by omega) (by omega)) (ofQ (by omega) (by omega))) (by rw [hL, e1, e2])
          · obtain ⟨e1, e2⟩ := p2 (fun h => h.2 (by rw [decide_eq_false h1, decide_eq_false h2]))
            exact pp (parted_sff a b w hall e48 x y q r hsm HE hz hq hr gq gr gr0 hr0 (decide_eq_false h1) (decide_eq_false h2) (ofQ (by omega) (by omega)) (ofQ (by omega) (by omega))) (by rw [hL, e1, e2])
      · have hsm : Sm2 a b 0 0 false := fun w => small_long a b w (by omega)
        have ra : Rd a (decide (iv a < 0)) (iv a).natAbs := fun w => read_any a w (chk_zero ca).1 (size_chk ca)
        have rb : Rd b (decide (iv b < 0)) (iv b).natAbs := fun w => read_any b w (chk_zero cb).1 (size_chk cb)
        have fa := iv_chk ca
        have fb := iv_chk cb
        have hp : 0 < (iv b).natAbs := by omega
        obtain ⟨p1, p2⟩ := parted_long (iv a) (iv b) hz
        have sb := sv_iv (iv b)
        generalize iv a = x at *
        generalize iv b = y at *
        by_cases hr : 0 < x.natAbs % y.natAbs
        · by_cases h1 : x < 0 <;> by_cases h2 : y < 0
          · rw [decide_eq_true h1, decide_eq_true h2] at *
            obtain ⟨e1, e2⟩ := p2 (fun h => h.2 rfl)
            exact pp (parted_lt a b w hall e48 hsm HE x.natAbs y.natAbs ra rb fa fb hp hr) (by rw [hL, e1, e2]; rfl)
          · rw [decide_eq_true h1, decide_eq_false h2] at *
            obtain ⟨e1, e2⟩ := p1 ⟨hr, by decide⟩
            exact pp (parted_ltf a b w hall e48 hsm HE x.natAbs y.natAbs ra rb fa fb hp hr) (by rw [hL, e1, e2, sb]; rfl)
          · rw [decide_eq_false h1, decide_eq_true h2] at *
            obtain ⟨e1, e2⟩ := p1 ⟨hr, by decide⟩
            exact pp (parted_lft a b w hall e48 hsm HE x.natAbs y.natAbs ra rb fa fb hp hr) (by rw [hL, e1, e2, sb]; rfl)
          · rw [decide_eq_false h1, decide_eq_false h2] at *
            obtain ⟨e1, e2⟩ := p2 (fun h => h.2 rfl)
            exact pp (parted_lf a b w hall e48 hsm HE x.natAbs y.natAbs ra rb fa fb hp hr) (by rw [hL, e1, e2]; rfl)
        · have hr0 : x.natAbs % y.natAbs = 0 := by omega
          obtain ⟨e1, e2⟩ := p2 (fun h => hr h.1)
          exact pp (parted_l0 a b w hall e48 hsm HE _ _ x.natAbs y.natAbs ra rb fa fb hp hr0) (by rw [hL, e1, e2, hr0])
  · exact pp (parted_err a b w _ hall h0) (by unfold partedS; rw [if_neg h0])

def whole_parted.f (a b : ByteArray) : Option (ByteArray × ByteArray × Int) := if a.size ≤ 9223372036854775807 ∧ b.size ≤ 9223372036854775807 then some (partedS a b) else none
theorem whole_parted.calls (a0 a1 : ByteArray) (r1 : ByteArray) (r2 : ByteArray) (r3 : Int) (w : World) (h : whole_parted.f a0 a1 = some (r1, r2, r3)) (HE : Env w) :
    Calls Tryd.prog 33 #[.string a0, .string a1] w fun e w' => e = .returned (.tuple #[.string r1, .string r2, .int .i64 r3]) ∧ Below w.heap.size w w' := by
  unfold whole_parted.f at h
  split at h
  · rename_i hs
    exact pp (parted_any a0 a1 w hs.1 hs.2 HE) (Option.some.inj h).symm
  · cases h
end Go.Proofs.YtpkfnclbcmnckaaDoor
set_option linter.unusedVariables false
namespace Go.Proofs.YtpkfnclbcmnckaaDoor
open Go Go.RowKit Go.Proofs.YtpkfnclbcmnckaaDoor.Dec Go.Proofs.YtpkfnclbcmnckaaDoor.Mem Go.Proofs.YtpkfnclbcmnckaaDoor.Wid Go.Proofs.YtpkfnclbcmnckaaDoorW.PrintWords

def whole_Check.f (a : ByteArray) : Option Int := if a.size ≤ 9223372036854775807 then some (chk a) else none
theorem whole_Check.calls (a0 : ByteArray) (r : Int) (w : World) (h : whole_Check.f a0 = some r) :
    Calls Tryd.prog 22 #[.string a0] w fun e w' => e = .returned (.int .i64 r) ∧ Below w.heap.size w w' := by
  unfold whole_Check.f at h
  split at h
  · rename_i hs
    cases h
    exact check_any a0 hs w
  · cases h
def whole_all.f (l : List ByteArray) : Option Int := if l.length ≤ 9223372036854775806 ∧ ∀ s ∈ l, s.size ≤ 9223372036854775807 then some (errs l) else none
theorem whole_all.calls (A0 : Option Addr) (c0 : Nat) (l0 : List ByteArray) (r : Int) (w : World) (hr0 : Kd.C Kd.string w A0 l0.length l0) (hc0 : l0.length ≤ c0) (h : whole_all.f l0 = some r) :
    Calls Tryd.prog 28 #[.slice A0 l0.length c0] w fun e w' => e = .returned (.int .i64 r) ∧ Below w.heap.size w w' := by
  unfold whole_all.f at h
  split at h
  · rename_i hs
    cases h
    exact all_any A0 c0 l0 w hr0 hc0 hs.1 hs.2
  · cases h
def whole_Of.f (n : Int) : Option ByteArray := if -9223372036854775808 ≤ n ∧ n ≤ 9223372036854775807 then some (dec n) else none
theorem whole_Of.calls (a0 : Int) (r : ByteArray) (w : World) (h : whole_Of.f a0 = some r) (HE : Env w) :
    Calls Tryd.prog 25 #[.int .i64 a0] w fun e w' => e = .returned (.string r) ∧ Below w.heap.size w w' := by
  unfold whole_Of.f at h
  split at h
  · rename_i hs
    cases h
    exact of_any a0 hs.1 hs.2 w HE
  · cases h
def whole_result.f (n : Int) : Option (ByteArray × Int) := if -9223372036854775808 ≤ n ∧ n ≤ 9223372036854775807 then some (dec n, 0) else none
theorem whole_result.calls (a0 : Int) (r1 : ByteArray) (r2 : Int) (w : World) (h : whole_result.f a0 = some (r1, r2)) (HE : Env w) :
    Calls Tryd.prog 31 #[.int .i64 a0] w fun e w' => e = .returned (.tuple #[.string r1, .int .i64 r2]) ∧ Below w.heap.size w w' := by
  unfold whole_result.f at h
  split at h
  · rename_i hs
    cases h
    exact result_any a0 hs.1 hs.2 w HE
  · cases h
def whole_small.f (a b : ByteArray) : Option (Int × Int × Bool) := if 9 < a.size ∨ 9 < b.size then some (0, 0, false) else if chk a = 0 ∧ chk b = 0 then some (iv a, iv b, true) else none
theorem whole_small.calls (a0 a1 : ByteArray) (r1 : Int) (r2 : Int) (r3 : Bool) (w : World) (h : whole_small.f a0 a1 = some (r1, r2, r3)) :
    Calls Tryd.prog 30 #[.string a0, .string a1] w fun e w' => e = .returned (.tuple #[.int .i64 r1, .int .i64 r2, .bool r3]) ∧ Below w.heap.size w w' := by
  unfold whole_small.f at h
  split at h
  · rename_i hs
    cases h
    exact small_long a0 a1 w hs
  · rename_i hs
    split at h
    · rename_i hc
      cases h
      exact small_short a0 a1 w (chk_zero hc.1).1 (chk_zero hc.2).1 (by omega) (by omega)
    · cases h
end Go.Proofs.YtpkfnclbcmnckaaDoor
