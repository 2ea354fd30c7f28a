/- A part of what the claim's last text leans on. -/
import Derived.Test.YtpkfnclbcmnckaaGreatDoorSM0
import Derived.Lib.ItoaNum
import Derived.Lib.AtoiAll
import Derived.Test.YtpkfnclbcmnckaaGreatDoorProg
import Derived.WalkKit
import Derived.Below
import Derived.Deep.Draws
import Derived.LoopTactic
import Derived.Deep.LoopGhost
import Derived.Deep.QuietTactic
import Derived.BigQuiet
import Derived.Outline
import Derived.IntWalk
import Derived.Shelf.LaysC
import Derived.Shelf.LaysM
import Derived.Shelf.Small.Strs
import Derived.Shelf.Strconv.AtoiAll
import Derived.Shelf.Strconv.Itoa3
import Derived.Shelf.Strings.Builder1
import Derived.Shelf.Strings.Prefix
import Derived.Shelf.Strings.SlTrimAscii
import Derived.Lib.IndexBytes
import Derived.Deep.RegionHeld3
import Derived.WalkSpells
import Derived.Laws.Rows
import Derived.Deep.WholeRow
import Derived.StillTailTactics
import Derived.Laws.CopyOwn
import Derived.Deep.DeepCutAuto
import Derived.Deep.CutBlock
import Derived.Lib.Builder
import Derived.Lib.AppendStr
import Derived.Lib.UnsafeStr
import Derived.Lib.MakeNoZero
import Derived.Laws.Externs
import Derived.Laws.IdiomCopy
import Derived.Laws.BitsLemmas
import Derived.OwnWalk
import Derived.Lib.AppendIntMem
import Derived.WalkSmall
import Derived.Deep.AppendLies
import Derived.Maps.AppendAt
import Derived.Laws.BytesArg
import Derived.Laws.MakeOwn
import Derived.Laws.OwnMore
import Derived.Deep.OwnRows
import Derived.Tactics
import Derived.Lib.ConvBytes
import Derived.Laws.Slices
import Derived.KernelRfl
import Derived.RowKit3
import Derived.WideLaws
import Derived.ArgAppend
import Derived.OrdersHeld
import Derived.RowKit
set_option linter.unusedVariables false
namespace Go.Proofs.YtpkfnclbcmnckaaGreatDoor.Dec
open Go
theorem rev_ind {α : Type} {P : List α → Prop} (nil : P []) (snoc : ∀ l c, P l → P (l ++ [c])) : ∀ l, P l := by
  intro l
  have h : ∀ l : List α, P l.reverse := by
    intro l
    induction l with
    | nil => exact nil
    | cons c l ih => rw [List.reverse_cons]; exact snoc _ _ ih
  have := h l.reverse
  rwa [List.reverse_reverse] at this
theorem head_append {α : Type} {a b : List α} (h : a ≠ []) : (a ++ b).head? = a.head? := by
  cases a with
  | nil => exact absurd rfl h
  | cons x a => rfl
/-- The number that digits spell. -/
def val (l : List UInt8) : Nat := l.foldl (fun a c => 10 * a + (c.toNat - 48)) 0
/-- Is it a decimal digit? -/
def isDig (c : UInt8) : Bool := decide (48 ≤ c.toNat) && decide (c.toNat ≤ 57)
theorem isDig_iff (c : UInt8) : isDig c = true ↔ 48 ≤ c.toNat ∧ c.toNat ≤ 57 := by simp [isDig]
theorem u8_toNat {a b : UInt8} (h : a.toNat = b.toNat) : a = b := UInt8.toNat_inj.1 h
theorem u8_ofNat (n : Nat) (h : n < 256) : (UInt8.ofNat n).toNat = n := by simp [UInt8.toNat_ofNat']; omega
@[simp] theorem val_nil : val [] = 0 := rfl
theorem val_snoc (l : List UInt8) (c : UInt8) : val (l ++ [c]) = 10 * val l + (c.toNat - 48) := by simp [val, List.foldl_append]
theorem val_append (a b : List UInt8) : val (a ++ b) = val a * 10 ^ b.length + val b := by
  induction b using rev_ind with
  | nil => simp
  | snoc b c ih =>
    rw [← List.append_assoc, val_snoc, val_snoc, ih, List.length_append, List.length_singleton, Nat.pow_succ]
    have : val a * (10 ^ b.length * 10) = 10 * (val a * 10 ^ b.length) := by rw [← Nat.mul_assoc]; omega
    omega
theorem val_cons (c : UInt8) (l : List UInt8) : val (c :: l) = (c.toNat - 48) * 10 ^ l.length + val l := by
  have := val_append [c] l
  simpa [val] using this
theorem val_lt (l : List UInt8) (h : ∀ c ∈ l, isDig c = true) : val l < 10 ^ l.length := by
  induction l using rev_ind with
  | nil => simp
  | snoc l c ih =>
    have h1 := ih fun x hx => h x (by simp [hx])
    have h2 := (isDig_iff c).1 (h c (by simp))
    rw [val_snoc, List.length_append, List.length_singleton, Nat.pow_succ]
    omega
theorem decDigits_val (n : Nat) : val (Lib.decDigits n) = n := by
  induction n using Nat.strongRecOn with
  | _ n ih =>
    rw [Lib.decDigits]
    split
    · rename_i h
      simp [val]
      omega
    · rename_i h
      rw [val_snoc, ih _ (by omega), u8_ofNat (48 + n % 10) (by omega)]
      omega
theorem decDigits_dig (n : Nat) : ∀ c ∈ Lib.decDigits n, isDig c = true := by
  induction n using Nat.strongRecOn with
  | _ n ih =>
    rw [Lib.decDigits]
    split
    · rename_i h
      intro c hc
      simp only [List.mem_singleton] at hc
      subst hc
      rw [isDig_iff, u8_ofNat (48 + n) (by omega)]
      omega
    · rename_i h
      intro c hc
      rw [List.mem_append, List.mem_singleton] at hc
      rcases hc with hc | rfl
      · exact ih _ (by omega) c hc
      · rw [isDig_iff, u8_ofNat (48 + n % 10) (by omega)]
        omega
theorem decDigits_ne (n : Nat) : Lib.decDigits n ≠ [] := by
  rw [Lib.decDigits]
  split <;> simp
theorem decDigits_head (n : Nat) (h : 1 ≤ n) : (Lib.decDigits n).head? ≠ some 48 := by
  induction n using Nat.strongRecOn with
  | _ n ih =>
    rw [Lib.decDigits]
    split
    · rename_i h1
      intro e
      simp only [List.head?_cons, Option.some.injEq] at e
      have := congrArg UInt8.toNat e
      rw [u8_ofNat (48 + n) (by omega)] at this
      simp at this
      omega
    · rename_i h1
      rw [head_append (decDigits_ne _)]
      exact ih _ (by omega) (by omega)
theorem decDigits_zero : Lib.decDigits 0 = [48] := by rw [Lib.decDigits]; rfl
/-- The digits of a number: at least one, and no zero in front but the number 0's own. -/
def canonN (l : List UInt8) : Prop := l ≠ [] ∧ (∀ c ∈ l, isDig c = true) ∧ (l.head? = some 48 → l = [48])
theorem decDigits_canon (n : Nat) : canonN (Lib.decDigits n) := by
  refine ⟨decDigits_ne n, decDigits_dig n, fun h => ?_⟩
  rcases Nat.eq_zero_or_pos n with rfl | hn
  · exact decDigits_zero
  · exact absurd h (decDigits_head n hn)
theorem canonN_pos {l : List UInt8} (h : canonN l) (h0 : l ≠ [48]) : 1 ≤ val l := by
  obtain ⟨h1, h2, h3⟩ := h
  cases l with
  | nil => exact absurd rfl h1
  | cons c l =>
    have hc := (isDig_iff c).1 (h2 c (by simp))
    have h4 : c.toNat ≠ 48 := fun e => h0 (h3 (by simp; exact u8_toNat e))
    rw [val_cons]
    have : 1 * 1 ≤ (c.toNat - 48) * 10 ^ l.length := Nat.mul_le_mul (by omega) (Nat.one_le_pow _ _ (by decide))
    omega
theorem canonN_eq (l : List UInt8) : canonN l → Lib.decDigits (val l) = l := by
  induction l using rev_ind with
  | nil => intro h; exact absurd rfl h.1
  | snoc l c ih =>
    intro h
    have hc := (isDig_iff c).1 (h.2.1 c (by simp))
    have hcc : UInt8.ofNat (48 + (c.toNat - 48)) = c := by apply u8_toNat; rw [u8_ofNat _ (by omega)]; omega
    by_cases hl : l = []
    · subst hl
      rw [List.nil_append, show val [c] = c.toNat - 48 by simp [val], Lib.decDigits, dif_pos (by omega), hcc]
    · have hh : (l ++ [c]).head? = l.head? := head_append hl
      have hk : canonN l := by
        refine ⟨hl, fun x hx => h.2.1 x (by simp [hx]), fun e => ?_⟩
        have := h.2.2 (hh.trans e)
        have := congrArg List.length this
        simp at this
        exact absurd this hl
      have hp : 1 ≤ val l := by
        refine canonN_pos hk fun e => ?_
        have := h.2.2 (by rw [hh, e]; rfl)
        have := congrArg List.length this
        simp at this
        exact absurd this hl
      rw [val_snoc, Lib.decDigits, dif_neg (by omega), show (10 * val l + (c.toNat - 48)) / 10 = val l by omega, show (10 * val l + (c.toNat - 48)) % 10 = c.toNat - 48 by omega, ih hk, hcc]
theorem canonN_inj {a b : List UInt8} (ha : canonN a) (hb : canonN b) (h : val a = val b) : a = b := by rw [← canonN_eq a ha, ← canonN_eq b hb, h]
/-- Without a minus sign in front. -/
def mag (l : List UInt8) : List UInt8 := if l.head? = some 45 then l.tail else l
/-- A canonical integer. -/
def canon (l : List UInt8) : Prop := canonN (mag l) ∧ (l.head? = some 45 → mag l ≠ [48])
/-- Its value. -/
def ival (l : List UInt8) : Int := if l.head? = some 45 then -(val (mag l) : Int) else val (mag l)
theorem dig_ne_minus {c : UInt8} (h : isDig c = true) : c ≠ 45 := by
  intro e; subst e; revert h; decide
theorem decDigits_head_ne (n : Nat) : (Lib.decDigits n).head? ≠ some 45 := by
  intro e
  have := decDigits_dig n 45 (List.mem_of_head? e)
  exact dig_ne_minus this rfl
theorem mag_itoa (z : Int) : mag (Lib.itoa z) = Lib.decDigits z.natAbs := by
  unfold mag Lib.itoa
  by_cases h : z < 0
  · rw [if_pos h, if_pos (show (45 :: Lib.decDigits z.natAbs).head? = some 45 from rfl)]; rfl
  · rw [if_neg h, if_neg (decDigits_head_ne _), show z.toNat = z.natAbs by omega]
theorem head_itoa (z : Int) : (Lib.itoa z).head? = some 45 ↔ z < 0 := by
  unfold Lib.itoa
  split
  · rename_i h; simp [h]
  · rename_i h
    constructor
    · intro e; exact absurd e (decDigits_head_ne _)
    · intro e; exact absurd e h
theorem ival_itoa (z : Int) : ival (Lib.itoa z) = z := by
  unfold ival
  rw [mag_itoa, decDigits_val]
  split
  · rename_i h; have := (head_itoa z).1 h; omega
  · rename_i h; have : ¬ z < 0 := fun e => h ((head_itoa z).2 e); omega
theorem canon_itoa (z : Int) : canon (Lib.itoa z) := by
  unfold canon
  rw [mag_itoa, head_itoa]
  refine ⟨decDigits_canon _, fun h e => ?_⟩
  have := congrArg val e
  rw [decDigits_val] at this
  simp [val] at this
  omega
theorem itoa_ival {l : List UInt8} (h : canon l) : Lib.itoa (ival l) = l := by
  obtain ⟨h1, h2⟩ := h
  unfold ival
  split
  · rename_i e
    have hp := canonN_pos h1 (h2 e)
    rw [Lib.itoa, if_pos (by omega), show (-(val (mag l) : Int)).natAbs = val (mag l) by omega, canonN_eq _ h1]
    unfold mag
    rw [if_pos e]
    cases l with
    | nil => cases e
    | cons c l => simp at e; subst e; rfl
  · rename_i e
    rw [Lib.itoa, if_neg (by omega), Int.toNat_natCast, canonN_eq _ h1]
    unfold mag
    rw [if_neg e]
theorem itoa_zero : Lib.itoa 0 = [48] := by unfold Lib.itoa; simp [decDigits_zero]
theorem ival_zero : ival [48] = 0 := by rw [← itoa_zero]; exact ival_itoa 0
theorem ival_eq_zero {l : List UInt8} (h : canon l) : ival l = 0 ↔ l = [48] := by
  constructor
  · intro e; rw [← itoa_ival h, e, itoa_zero]
  · rintro rfl; exact ival_zero
theorem mag_le (l : List UInt8) : (mag l).length ≤ l.length := by unfold mag; split <;> simp
theorem mag_ge (l : List UInt8) : l.length ≤ (mag l).length + 1 := by unfold mag; split <;> simp <;> omega
theorem ival_abs (l : List UInt8) : (ival l).natAbs = val (mag l) := by unfold ival; split <;> omega
theorem ival_lt {l : List UInt8} (h : canon l) (n : Nat) (hn : (mag l).length ≤ n) : (ival l).natAbs < 10 ^ n := by
  rw [ival_abs]
  exact Nat.lt_of_lt_of_le (val_lt _ h.1.2.1) (Nat.pow_le_pow_right (by decide) hn)
/-- How many digits a number has. -/
theorem nDigits_le_iff (u n : Nat) (hn : 1 ≤ n) : Lib.nDigits u ≤ n ↔ u < 10 ^ n := by
  constructor
  · intro h; exact Nat.lt_of_lt_of_le (Lib.lt_pow_nDigits u) (Nat.pow_le_pow_right (by decide) h)
  · intro h
    rw [← Lib.decDigits_length]
    rcases Nat.lt_or_ge n (Lib.decDigits u).length with h1 | h1
    · exfalso
      have hu : 10 ^ n ≤ u := by
        obtain ⟨k, hk⟩ : ∃ k, (Lib.decDigits u).length = k + 1 := ⟨(Lib.decDigits u).length - 1, by omega⟩
        have hc := decDigits_canon u
        have hv := decDigits_val u
        generalize Lib.decDigits u = l at *
        cases l with
        | nil => exact absurd rfl hc.1
        | cons c l =>
          simp at hk
          have hc1 := (isDig_iff c).1 (hc.2.1 c (by simp))
          have h4 : c.toNat ≠ 48 := fun e => by
            have := hc.2.2 (by simp; exact u8_toNat e)
            simp at this
            have := this.2
            subst this
            simp at h1
            omega
          rw [val_cons] at hv
          have h5 : 1 * 10 ^ n ≤ (c.toNat - 48) * 10 ^ l.length := Nat.mul_le_mul (by omega) (Nat.pow_le_pow_right (by decide) (by simp at h1; omega))
          omega
      omega
    · exact h1
/-- The text of an integer. -/
def dec (z : Int) : ByteArray := ⟨(Lib.itoa z).toArray⟩
/-- The error of a text: 0, 3 or 11. -/
def chk (s : ByteArray) : Int :=
  let d := mag s.data.toList
  if d = [] ∨ d.all isDig = false then 3 else if d.head? = some 48 ∧ s.data.toList ≠ [48] then 3 else if 1024 < d.length then 11 else 0
/-- The integer that a text spells. -/
def iv (s : ByteArray) : Int := ival s.data.toList
theorem dec_list (z : Int) : (dec z).data.toList = Lib.itoa z := rfl
theorem iv_dec (z : Int) : iv (dec z) = z := ival_itoa z
theorem bytes_ext {a b : ByteArray} (h : a.data.toList = b.data.toList) : a = b := by
  cases a; cases b; congr 1; exact Array.toList_inj.1 h
theorem dec_iv {s : ByteArray} (h : canon s.data.toList) : dec (iv s) = s := bytes_ext (itoa_ival h)
theorem canon_dec (z : Int) : canon (dec z).data.toList := canon_itoa z
theorem canon_of_chk {s : ByteArray} (h : chk s ≠ 3) : canon s.data.toList := by
  unfold chk at h
  simp only at h
  split at h
  · exact absurd rfl h
  · rename_i h1
    split at h
    · exact absurd rfl h
    · rename_i h2
      have h3 : (mag s.data.toList).all isDig = true := by
        cases e : (mag s.data.toList).all isDig
        · exact absurd (Or.inr e) h1
        · rfl
      refine ⟨⟨fun e => h1 (.inl e), fun c hc => List.all_eq_true.1 h3 c hc, fun e => ?_⟩, fun e1 e2 => ?_⟩
      · have h4 : s.data.toList = [48] := by
          by_cases h5 : s.data.toList = [48]
          · exact h5
          · exact absurd ⟨e, h5⟩ h2
        rw [h4]; rfl
      · refine h2 ⟨by rw [e2]; rfl, fun e3 => ?_⟩
        rw [e3] at e1
        revert e1; decide
theorem chk_of_canon {s : ByteArray} (h : canon s.data.toList) : chk s = if 1024 < (mag s.data.toList).length then 11 else 0 := by
  unfold chk
  simp only
  have h3 : (mag s.data.toList).all isDig = true := List.all_eq_true.2 h.1.2.1
  rw [if_neg (by rintro (e | e); exact h.1.1 e; rw [h3] at e; cases e), if_neg]
  rintro ⟨e1, e2⟩
  have e3 := h.1.2.2 e1
  by_cases e4 : s.data.toList.head? = some 45
  · exact h.2 e4 e3
  · apply e2
    unfold mag at e3
    rw [if_neg e4] at e3
    exact e3
theorem chk_zero {s : ByteArray} (h : chk s = 0) : canon s.data.toList ∧ (mag s.data.toList).length ≤ 1024 := by
  have hc : canon s.data.toList := canon_of_chk (by omega)
  refine ⟨hc, ?_⟩
  rw [chk_of_canon hc] at h
  split at h
  · cases h
  · omega
theorem chk_dec (z : Int) : chk (dec z) = if 10 ^ 1024 ≤ z.natAbs then 11 else 0 := by
  rw [chk_of_canon (canon_dec z), dec_list, mag_itoa, Lib.decDigits_length]
  have := nDigits_le_iff z.natAbs 1024 (by decide)
  generalize (10 : Nat) ^ 1024 = t at *
  by_cases h : Lib.nDigits z.natAbs ≤ 1024
  · rw [if_neg (by omega), if_neg (by have := this.1 h; omega)]
  · rw [if_pos (by omega), if_pos (by have := mt this.2 h; omega)]
end Go.Proofs.YtpkfnclbcmnckaaGreatDoor.Dec
set_option linter.unusedVariables false
namespace Go.Proofs.YtpkfnclbcmnckaaGreatDoor.Wid
/-- The base of the words. -/
def B : Nat := 1000000000
theorem B_pos : 0 < B := by decide
theorem Bp (i : Nat) : 0 < B ^ i := Nat.pow_pos B_pos
/-- Word number i of a number. -/
def word (v i : Nat) : Nat := v / B ^ i % B
theorem word_lt (v i : Nat) : word v i < B := Nat.mod_lt _ B_pos
/-- How many words a number has; none for 0. -/
def nw (v : Nat) : Nat := if h : v = 0 then 0 else nw (v / B) + 1
termination_by v
decreasing_by exact Nat.div_lt_self (Nat.pos_of_ne_zero h) (by decide)
theorem nw_zero : nw 0 = 0 := by rw [nw, dif_pos rfl]
theorem nw_succ {v : Nat} (h : v ≠ 0) : nw v = nw (v / B) + 1 := by rw [nw, dif_neg h]
theorem nw_le_iff (v n : Nat) : nw v ≤ n ↔ v < B ^ n := by
  induction n generalizing v with
  | zero =>
    constructor
    · intro h
      by_cases e : v = 0
      · subst e; simp
      · rw [nw_succ e] at h; omega
    · intro h
      have : v = 0 := by simpa using h
      subst this; rw [nw_zero]; exact Nat.le_refl _
  | succ n ih =>
    by_cases e : v = 0
    · subst e
      rw [nw_zero]
      exact ⟨fun _ => Bp _, fun _ => Nat.zero_le _⟩
    · rw [nw_succ e, Nat.add_le_add_iff_right, ih, Nat.pow_succ, Nat.div_lt_iff_lt_mul B_pos]
theorem lt_nw (v : Nat) : v < B ^ nw v := (nw_le_iff v _).1 (Nat.le_refl _)
theorem nw_eq_zero {v : Nat} : nw v = 0 ↔ v = 0 := by
  constructor
  · intro h; have := lt_nw v; rw [h] at this; simpa using this
  · rintro rfl; exact nw_zero
theorem nw_pos {v : Nat} : 0 < nw v ↔ 0 < v := by
  have := @nw_eq_zero v; omega
theorem nw_mono {a b : Nat} (h : a ≤ b) : nw a ≤ nw b := (nw_le_iff a _).2 (Nat.lt_of_le_of_lt h (lt_nw b))
theorem le_of_nw {v n : Nat} (h : n < nw v) : B ^ n ≤ v := by
  rcases Nat.lt_or_ge v (B ^ n) with h1 | h1
  · have := (nw_le_iff v n).2 h1; omega
  · exact h1
theorem word_zero_of_lt {v i : Nat} (h : v < B ^ i) : word v i = 0 := by
  unfold word; rw [Nat.div_eq_of_lt h]; rfl
theorem word_zero {v i : Nat} (h : nw v ≤ i) : word v i = 0 := word_zero_of_lt ((nw_le_iff v i).1 h)
/-- The top word is not 0. -/
theorem word_top {v : Nat} (h : 0 < v) : word v (nw v - 1) ≠ 0 := by
  have hn := nw_pos.2 h
  obtain ⟨n, hn1⟩ : ∃ n, nw v = n + 1 := ⟨nw v - 1, by omega⟩
  rw [hn1, Nat.add_sub_cancel]
  have h1 := lt_nw v
  have h2 := le_of_nw (v := v) (n := n) (by omega)
  rw [hn1, Nat.pow_succ] at h1
  unfold word
  rw [Nat.mod_eq_of_lt ((Nat.div_lt_iff_lt_mul (Bp n)).2 (by rw [Nat.mul_comm]; exact h1))]
  have := Nat.div_pos h2 (Bp n)
  omega
theorem nw_le_of_word {v k : Nat} (hz : word v k = 0) (h : nw v ≤ k + 1) : nw v ≤ k := by
  rcases Nat.lt_or_ge k (nw v) with h1 | h1
  · exfalso
    have h2 : nw v = k + 1 := by omega
    have h3 := word_top (v := v) (nw_pos.1 (by omega))
    rw [h2] at h3
    exact h3 hz
  · exact h1
theorem nw_eq_of_word {v k : Nat} (hz : word v k ≠ 0) (h : nw v ≤ k + 1) : nw v = k + 1 := by
  rcases Nat.lt_or_ge k (nw v) with h1 | h1
  · omega
  · exact absurd (word_zero h1) hz
theorem mod_succ (v i : Nat) : v % B ^ (i + 1) = v % B ^ i + B ^ i * word v i := by
  unfold word; rw [Nat.pow_succ, Nat.mod_mul]
theorem mod_of_nw {v i : Nat} (h : nw v ≤ i) : v % B ^ i = v := Nat.mod_eq_of_lt ((nw_le_iff v i).1 h)
/-- The number of a list of words. -/
def wsum : List Int → Int
  | [] => 0
  | x :: r => x + 1000000000 * wsum r
/-- The words of a number. -/
def W (v : Nat) : List Int := (List.range 232).map fun i => (word v i : Int)
@[simp] theorem W_length (v : Nat) : (W v).length = 232 := by simp [W]
theorem W_get (v i : Nat) (h : i < 232) : (W v).getD i 0 = (word v i : Int) := by
  simp [W, List.getD_eq_getElem?_getD, h]
theorem W_getD (v i : Nat) (hv : v < B ^ 232) : (W v).getD i 0 = (word v i : Int) := by
  by_cases h : i < 232
  · exact W_get v i h
  · rw [word_zero_of_lt (Nat.lt_of_lt_of_le hv (Nat.pow_le_pow_right B_pos (by omega)))]
    simp [W, List.getD_eq_getElem?_getD, List.getElem?_eq_none (show (List.range 232).length ≤ i by simp; omega)]
/-- Words as they should be. -/
def Good (l : List Int) : Prop := ∀ x ∈ l, 0 ≤ x ∧ x < 1000000000
theorem Good.getD {l : List Int} (h : Good l) (i : Nat) : 0 ≤ l.getD i 0 ∧ l.getD i 0 < 1000000000 := by
  by_cases hi : i < l.length
  · rw [List.getD_eq_getElem?_getD, List.getElem?_eq_getElem hi, Option.getD_some]
    exact h _ (List.getElem_mem hi)
  · rw [List.getD_eq_getElem?_getD, List.getElem?_eq_none (by omega)]
    decide
theorem Good.set {l : List Int} (h : Good l) (i : Nat) {v : Int} (hv : 0 ≤ v ∧ v < 1000000000) : Good (l.set i v) := by
  intro x hx
  rcases List.mem_or_eq_of_mem_set hx with h1 | rfl
  · exact h x h1
  · exact hv
theorem W_good (v : Nat) : Good (W v) := by
  intro x hx
  simp only [W, List.mem_map, List.mem_range] at hx
  obtain ⟨i, _, rfl⟩ := hx
  have := word_lt v i
  unfold B at this
  omega
theorem wsum_bound {l : List Int} (h : Good l) : 0 ≤ wsum l ∧ wsum l < (B : Int) ^ l.length := by
  induction l with
  | nil => simp [wsum]
  | cons x r ih =>
    have h1 := ih fun y hy => h y (by simp [hy])
    have h2 := h x (by simp)
    simp only [wsum, List.length_cons, Int.pow_succ]
    generalize wsum r = s at *
    generalize (B : Int) ^ r.length = t at *
    have hB : (B : Int) = 1000000000 := rfl
    rw [hB]
    omega
theorem wsum_set (l : List Int) (k : Nat) (v : Int) (hk : k < l.length) : wsum (l.set k v) = wsum l + (v - l.getD k 0) * (B : Int) ^ k := by
  induction l generalizing k with
  | nil => simp at hk
  | cons x r ih =>
    cases k with
    | zero => simp [wsum]; omega
    | succ k =>
      have h1 := ih k (by simpa using hk)
      simp only [List.set_cons_succ, wsum, h1, List.getD_cons_succ, Int.pow_succ]
      have hB : (B : Int) = 1000000000 := rfl
      generalize (B : Int) ^ k = t
      rw [hB]
      generalize v - r.getD k 0 = d
      have : d * (t * 1000000000) = 1000000000 * (d * t) := by rw [← Int.mul_assoc, Int.mul_comm]
      rw [this, Int.mul_add]
      omega
theorem wsum_word {l : List Int} (h : Good l) (j : Nat) : wsum l / (B : Int) ^ j % 1000000000 = l.getD j 0 := by
  induction l generalizing j with
  | nil => simp [wsum]
  | cons x r ih =>
    have h2 := h x (by simp)
    have h3 := fun y (hy : y ∈ r) => h y (by simp [hy])
    cases j with
    | zero => simp only [wsum, Int.pow_zero, Int.ediv_one, List.getD_cons_zero]; omega
    | succ j =>
      have := ih h3 j
      simp only [wsum, List.getD_cons_succ, Int.pow_succ]
      rw [← this, Int.mul_comm ((B : Int) ^ j), ← Int.ediv_ediv_of_nonneg (by decide)]
      have hB : (B : Int) = 1000000000 := rfl
      rw [hB, show (x + 1000000000 * wsum r) / 1000000000 = wsum r by omega]
theorem W_of_wsum {l : List Int} (h : Good l) (hl : l.length = 232) {v : Nat} (hv : wsum l = (v : Int)) : l = W v := by
  apply List.ext_getElem (by rw [hl, W_length])
  intro i h1 h2
  have := wsum_word h i
  rw [hv, List.getD_eq_getElem?_getD, List.getElem?_eq_getElem h1, Option.getD_some] at this
  rw [← this]
  simp only [W, List.getElem_map, List.getElem_range, word]
  rw [Int.natCast_emod, Int.natCast_ediv, Int.natCast_pow]
  rfl
theorem W_wsum (v : Nat) (hv : v < B ^ 232) : wsum (W v) = (v : Int) := by
  have h1 := wsum_bound (W_good v)
  rw [W_length] at h1
  obtain ⟨u, hu⟩ : ∃ u : Nat, wsum (W v) = (u : Int) := ⟨(wsum (W v)).toNat, by omega⟩
  have h2 : W v = W u := W_of_wsum (W_good v) (W_length v) hu
  rw [hu] at h1 ⊢
  have h3 : u < B ^ 232 := by
    have := h1.2
    rw [← Int.natCast_pow] at this
    omega
  have key : ∀ n, n ≤ 232 → u % B ^ n = v % B ^ n := by
    intro n
    induction n with
    | zero => intro _; simp [Nat.mod_one]
    | succ n ih =>
      intro hn
      have h4 := congrArg (fun l => l.getD n 0) h2
      simp only [W_get _ _ (show n < 232 by omega)] at h4
      rw [mod_succ, mod_succ, ih (by omega), show word u n = word v n by omega]
  have := key 232 (Nat.le_refl _)
  rw [Nat.mod_eq_of_lt h3, Nat.mod_eq_of_lt hv] at this
  rw [this]
/-- What holds at the head of a round. -/
structure CInv (vx vy up : Nat) (f : Int) (i : Nat) (rest : Int) (n : Nat) (ws : List Int) : Prop where
  len : ws.length = 232
  good : Good ws
  tail : ∀ j, up + i ≤ j → ws.getD j 0 = (word vx j : Int)
  lo : -1000000000 ≤ rest
  hi : rest ≤ 1000000000
  sum : wsum ws + rest * (B : Int) ^ (up + i) = vx + f * ((vy % B ^ i : Nat) : Int) * (B : Int) ^ up
  nlo : nw vx ≤ n
  nhi : n ≤ 232
  ni : up + i ≤ n ∨ i = 0
  zero : ∀ j, n ≤ j → ws.getD j 0 = 0
theorem CInv.start (vx vy up : Nat) (f : Int) (hx : vx < B ^ 232) : CInv vx vy up f 0 0 (nw vx) (W vx) where
  len := W_length _
  good := W_good _
  tail j _ := W_getD _ _ hx
  lo := by decide
  hi := by decide
  sum := by rw [W_wsum _ hx]; simp [Nat.mod_one]
  nlo := Nat.le_refl _
  nhi := (nw_le_iff _ _).2 hx
  ni := .inr rfl
  zero j hj := by rw [W_getD _ _ hx, word_zero hj]; rfl
theorem CInv.index {vx vy up : Nat} {f : Int} {i : Nat} {rest : Int} {n : Nat} {ws : List Int} (h : CInv vx vy up f i rest n ws) (hup : up + nw vy ≤ 232) (h0 : 0 ≤ (vx : Int) + f * vy * (B : Int) ^ up) (h1 : (vx : Int) + f * vy * (B : Int) ^ up < (B : Int) ^ 232) (hr : i < nw vy ∨ rest ≠ 0) : up + i < 232 := by
  by_cases hi : i < nw vy
  · omega
  · have hr' : rest ≠ 0 := hr.resolve_left hi
    rcases Nat.lt_or_ge (up + i) 232 with h2 | h2
    · exact h2
    · exfalso
      have hs := h.sum
      rw [mod_of_nw (by omega)] at hs
      rw [← hs] at h0 h1
      have hb := wsum_bound h.good
      rw [h.len] at hb
      have hp : (B : Int) ^ 232 ≤ (B : Int) ^ (up + i) := by
        rw [← Int.natCast_pow, ← Int.natCast_pow]
        exact Int.ofNat_le.2 (Nat.pow_le_pow_right B_pos h2)
      have hq : 0 < (B : Int) ^ 232 := by rw [← Int.natCast_pow]; exact Int.natCast_pos.2 (Bp _)
      generalize (B : Int) ^ 232 = s at *
      generalize (B : Int) ^ (up + i) = t at *
      generalize wsum ws = u at *
      rcases Int.lt_or_gt_of_ne hr' with h3 | h3
      · have : rest * t ≤ (-1) * t := Int.mul_le_mul_of_nonneg_right (by omega) (by omega)
        omega
      · have : 1 * t ≤ rest * t := Int.mul_le_mul_of_nonneg_right (by omega) (by omega)
        omega
theorem CInv.round {vx vy up : Nat} {f : Int} {i : Nat} {rest : Int} {n : Nat} {ws : List Int} (h : CInv vx vy up f i rest n ws) (hk : up + i < 232) (hx : vx < B ^ 232)
    (hf0 : -1000000000 < f) (hf1 : f < 1000000000) (s : Int) (hs : s = ws.getD (up + i) 0 + rest + f * (word vy i : Int)) :
    CInv vx vy up f (i + 1) (s / 1000000000) (max n (up + i + 1)) (ws.set (up + i) (s % 1000000000)) where
  len := by rw [List.length_set]; exact h.len
  good := h.good.set _ ⟨by omega, by omega⟩
  tail j hj := by
    rw [List.getD_eq_getElem?_getD, List.getElem?_set_ne (by omega), ← List.getD_eq_getElem?_getD]
    exact h.tail j (by omega)
  lo := by
    have h1 := h.good.getD (up + i)
    have h2 := word_lt vy i
    have h3 := h.lo
    unfold B at h2
    have : -(999999999 * 999999999) ≤ f * (word vy i : Int) := by
      rcases Int.le_total 0 f with h4 | h4
      · have := Int.mul_nonneg h4 (Int.natCast_nonneg (word vy i)); omega
      · have h5 : -f * (word vy i : Int) ≤ 999999999 * 999999999 := Int.mul_le_mul (by omega) (by omega) (by omega) (by omega)
        rw [Int.neg_mul] at h5; omega
    omega
  hi := by
    have h1 := h.good.getD (up + i)
    have h2 := word_lt vy i
    have h3 := h.hi
    unfold B at h2
    have : f * (word vy i : Int) ≤ 999999999 * 999999999 := by
      rcases Int.le_total 0 f with h4 | h4
      · exact Int.mul_le_mul (by omega) (by omega) (by omega) (by omega)
      · have := Int.mul_nonneg (show 0 ≤ -f by omega) (Int.natCast_nonneg (word vy i)); rw [Int.neg_mul] at this; omega
    omega
  sum := by
    rw [wsum_set _ _ _ (by rw [h.len]; exact hk), mod_succ, show up + (i + 1) = (up + i) + 1 from rfl, Int.pow_succ]
    have h1 := h.sum
    have hB : (B : Int) = 1000000000 := rfl
    have e2 : (B : Int) ^ (up + i) = (B : Int) ^ up * (B : Int) ^ i := Int.pow_add _ _ _
    have e3 : ((vy % B ^ i + B ^ i * word vy i : Nat) : Int) = ((vy % B ^ i : Nat) : Int) + (B : Int) ^ i * (word vy i : Int) := by
      rw [Int.natCast_add, Int.natCast_mul, Int.natCast_pow]
    rw [e3]
    have e4 : f * (((vy % B ^ i : Nat) : Int) + (B : Int) ^ i * (word vy i : Int)) * (B : Int) ^ up = f * ((vy % B ^ i : Nat) : Int) * (B : Int) ^ up + f * (word vy i : Int) * (B : Int) ^ (up + i) := by
      rw [e2]
      grind
    rw [e4, ← Int.add_assoc, ← h1]
    generalize (B : Int) ^ (up + i) = t
    generalize ws.getD (up + i) 0 = a at *
    generalize f * (word vy i : Int) = p at *
    have e5 : s % 1000000000 = s - 1000000000 * (s / 1000000000) := by omega
    rw [e5, hB, hs]
    generalize (a + rest + p) / 1000000000 = d
    grind
  nlo := by have := h.nlo; omega
  nhi := by have := h.nhi; omega
  ni := .inl (by omega)
  zero j hj := by
    rw [List.getD_eq_getElem?_getD, List.getElem?_set_ne (by omega), ← List.getD_eq_getElem?_getD]
    exact h.zero j (by omega)
theorem CInv.end {vx vy up : Nat} {f : Int} {i : Nat} {n : Nat} {ws : List Int} (h : CInv vx vy up f i 0 n ws) (hi : nw vy ≤ i) {v : Nat} (hv : (v : Int) = vx + f * vy * (B : Int) ^ up) : ws = W v ∧ nw v ≤ n := by
  have hs := h.sum
  rw [mod_of_nw hi, Int.zero_mul, Int.add_zero, ← hv] at hs
  have hw := W_of_wsum h.good h.len hs
  refine ⟨hw, ?_⟩
  rcases Nat.lt_or_ge n (nw v) with h1 | h1
  · exfalso
    have hv0 : 0 < v := nw_pos.1 (by omega)
    have h2 := h.zero (nw v - 1) (by omega)
    have hb := wsum_bound h.good
    rw [hs, h.len, ← Int.natCast_pow] at hb
    have hlt : v < B ^ 232 := by omega
    rw [hw, W_getD _ _ hlt] at h2
    exact word_top hv0 (by omega)
  · exact h1
end Go.Proofs.YtpkfnclbcmnckaaGreatDoor.Wid
set_option linter.unusedVariables false
namespace Go.Proofs.YtpkfnclbcmnckaaGreatDoor.Wid
open Go Go.Proofs.YtpkfnclbcmnckaaGreatDoor.Dec
def cmpFrom : Nat → Nat → Nat → Int
  | 0, _, _ => 0
  | k + 1, v, u => if word v k = word u k then cmpFrom k v u else (word v k : Int) - word u k
/-- What 'beyond' returns. -/
def cmpW (v u : Nat) : Int := if nw v = nw u then cmpFrom (nw v) v u else (nw v : Int) - nw u
theorem cmpFrom_nonneg (k v u : Nat) : 0 ≤ cmpFrom k v u ↔ u % B ^ k ≤ v % B ^ k := by
  induction k with
  | zero => simp [cmpFrom, Nat.mod_one]
  | succ k ih =>
    rw [mod_succ, mod_succ, cmpFrom]
    have h1 := Nat.mod_lt v (Bp k)
    have h2 := Nat.mod_lt u (Bp k)
    generalize v % B ^ k = a at *
    generalize u % B ^ k = b at *
    split
    · rename_i e
      rw [ih, e]
      omega
    · rename_i e
      rcases Nat.lt_or_gt_of_ne e with h | h
      · have : B ^ k * word v k + B ^ k ≤ B ^ k * word u k := by rw [← Nat.mul_succ]; exact Nat.mul_le_mul_left _ h
        omega
      · have : B ^ k * word u k + B ^ k ≤ B ^ k * word v k := by rw [← Nat.mul_succ]; exact Nat.mul_le_mul_left _ h
        omega
theorem cmpW_nonneg (v u : Nat) : 0 ≤ cmpW v u ↔ u ≤ v := by
  unfold cmpW
  split
  · rename_i e
    rw [cmpFrom_nonneg, mod_of_nw (Nat.le_refl _), mod_of_nw (by omega)]
  · rename_i e
    rcases Nat.lt_or_gt_of_ne e with h | h
    · have : ¬ u ≤ v := fun h1 => by have := nw_mono h1; omega
      omega
    · have : u ≤ v := by
        rcases Nat.le_total u v with h1 | h1
        · exact h1
        · have := nw_mono h1; omega
      omega
/-- What 'estimate' returns. -/
def est (vx vy : Nat) : Nat :=
  let a := word vx (nw vy) * B + word vx (nw vy - 1)
  let b := if 1 < nw vy then word vy (nw vy - 1) + 1 else word vy (nw vy - 1)
  if 0 < a / b then min (a / b) (B - 1) else 1
theorem est_ok (vx vy : Nat) (hy : 0 < vy) (hxy : vy ≤ vx) : 1 ≤ est vx vy ∧ est vx vy ≤ B - 1 ∧ est vx vy * vy ≤ vx := by
  have hm := nw_pos.2 hy
  obtain ⟨m, hm1⟩ : ∃ m, nw vy = m + 1 := ⟨nw vy - 1, by omega⟩
  unfold est
  simp only [hm1, Nat.add_sub_cancel]
  have ha : (word vx (m + 1) * B + word vx m) * B ^ m ≤ vx := by
    refine Nat.le_trans (Nat.mul_le_mul_right _ ?_) (Nat.div_mul_le_self vx (B ^ m))
    unfold word
    rw [Nat.pow_succ, ← Nat.div_div_eq_div_mul]
    generalize vx / B ^ m = u
    unfold B
    omega
  have hb : ∀ k, k * (if 1 < m + 1 then word vy m + 1 else word vy m) ≤ word vx (m + 1) * B + word vx m → k * vy ≤ vx := by
    intro k hk
    have h1 := lt_nw vy
    rw [hm1, Nat.pow_succ] at h1
    have h3 : word vy m = vy / B ^ m := by
      unfold word
      exact Nat.mod_eq_of_lt ((Nat.div_lt_iff_lt_mul (Bp m)).2 (by rw [Nat.mul_comm]; exact h1))
    refine Nat.le_trans ?_ ha
    refine Nat.le_trans ?_ (Nat.mul_le_mul_right _ hk)
    rw [Nat.mul_assoc]
    refine Nat.mul_le_mul_left _ ?_
    split
    · rw [h3, Nat.add_mul, Nat.one_mul]
      have := Nat.div_add_mod vy (B ^ m)
      have := Nat.mod_lt vy (Bp m)
      rw [Nat.mul_comm (vy / B ^ m)]
      omega
    · have : m = 0 := by omega
      subst this
      rw [h3]; simp
  generalize hbb : (if 1 < m + 1 then word vy m + 1 else word vy m) = b at hb ⊢
  generalize word vx (m + 1) * B + word vx m = a at *
  have hB : (1 : Nat) ≤ B - 1 := by decide
  split
  · rename_i h
    refine ⟨by omega, by omega, hb _ ?_⟩
    exact Nat.le_trans (Nat.mul_le_mul_right _ (Nat.min_le_left _ _)) (Nat.div_mul_le_self a b)
  · exact ⟨by omega, hB, by omega⟩
theorem div_step (vx vy i : Nat) (hy : 0 < vy) : vx / B ^ i % vy = (vx / B ^ (i + 1) % vy * B + word vx i) % vy ∧ word (vx / vy) i = (vx / B ^ (i + 1) % vy * B + word vx i) / vy := by
  have hX : vx / B ^ i = vx / B ^ (i + 1) * B + word vx i := by
    unfold word
    rw [Nat.pow_succ, ← Nat.div_div_eq_div_mul]
    generalize vx / B ^ i = u
    unfold B; omega
  have hQ : vx / B ^ i = vy * (vx / B ^ (i + 1) / vy * B) + (vx / B ^ (i + 1) % vy * B + word vx i) := by
    rw [hX]
    have := Nat.div_add_mod (vx / B ^ (i + 1)) vy
    generalize vx / B ^ (i + 1) / vy = q at *
    generalize vx / B ^ (i + 1) % vy = r at *
    rw [← this, Nat.add_mul, Nat.mul_assoc]
    omega
  have hlt : (vx / B ^ (i + 1) % vy * B + word vx i) / vy < B := by
    rw [Nat.div_lt_iff_lt_mul hy]
    have h1 := Nat.mod_lt (vx / B ^ (i + 1)) hy
    have h2 := word_lt vx i
    have : vx / B ^ (i + 1) % vy * B + B ≤ vy * B := by rw [← Nat.succ_mul]; exact Nat.mul_le_mul_right _ h1
    rw [Nat.mul_comm B vy]
    omega
  refine ⟨by rw [hQ, Nat.mul_add_mod], ?_⟩
  have e : vx / vy / B ^ i = vx / B ^ i / vy := by rw [Nat.div_div_eq_div_mul, Nat.mul_comm, ← Nat.div_div_eq_div_mul]
  show vx / vy / B ^ i % B = _
  rw [e, hQ, Nat.mul_add_div hy, Nat.add_comm, Nat.add_mul_mod_self_right, Nat.mod_eq_of_lt hlt]
/-- A word is put in front. -/
theorem W_shift (r w : Nat) (hw : w < B) (h : r * B + w < B ^ 232) : (w : Int) :: (W r).take 231 = W (r * B + w) := by
  apply List.ext_getElem
  · simp
  · intro i h1 h2
    cases i with
    | zero =>
      have : word (r * B + w) 0 = w := by unfold word; rw [Nat.pow_zero, Nat.div_one]; unfold B at *; omega
      simp only [W, List.getElem_cons_zero, List.getElem_map, List.getElem_range, this]
    | succ i =>
      have : word (r * B + w) (i + 1) = word r i := by unfold word; rw [Nat.pow_succ, Nat.mul_comm (B ^ i), ← Nat.div_div_eq_div_mul, show (r * B + w) / B = r by unfold B at *; omega]
      simp only [W, List.getElem_cons_succ, List.getElem_take, List.getElem_map, List.getElem_range, this]
theorem nw_shift (r w : Nat) (hw : w < B) : nw (r * B + w) ≤ nw r + 1 := by
  rw [nw_le_iff, Nat.pow_succ]
  have := lt_nw r
  have : (r + 1) * B ≤ B ^ nw r * B := Nat.mul_le_mul_right _ this
  rw [Nat.add_mul] at this
  omega
theorem B_pow (n : Nat) : B ^ n = 10 ^ (9 * n) := by rw [Nat.pow_mul]; rfl
/-- Nine digits. -/
def pad9 (w : Nat) : List UInt8 := List.replicate (9 - (Lib.decDigits w).length) 48 ++ Lib.decDigits w
theorem val_zeros (n : Nat) : val (List.replicate n 48) = 0 := by
  induction n with
  | zero => rfl
  | succ n ih => rw [List.replicate_succ, val_cons, ih]; simp
theorem val_pad9 (w : Nat) : val (pad9 w) = w := by rw [pad9, val_append, val_zeros, decDigits_val]; simp
theorem len_word {w : Nat} (h : w < B) : (Lib.decDigits w).length ≤ 9 := by
  rw [Lib.decDigits_length]
  exact (nDigits_le_iff w 9 (by decide)).2 h
theorem pad9_length {w : Nat} (h : w < B) : (pad9 w).length = 9 := by
  have := len_word h
  simp [pad9]; omega
theorem pad9_dig (w : Nat) : ∀ c ∈ pad9 w, isDig c = true := by
  intro c hc
  rw [pad9, List.mem_append] at hc
  rcases hc with hc | hc
  · rw [List.eq_of_mem_replicate hc]; decide
  · exact decDigits_dig w c hc
theorem decDigits_word (u w : Nat) (hu : 1 ≤ u) (hw : w < B) : Lib.decDigits (u * B + w) = Lib.decDigits u ++ pad9 w := by
  refine canonN_inj (decDigits_canon _) ⟨?_, ?_, ?_⟩ ?_
  · simp [decDigits_ne]
  · intro c hc
    rw [List.mem_append] at hc
    rcases hc with hc | hc
    · exact decDigits_dig u c hc
    · exact pad9_dig w c hc
  · intro h
    rw [head_append (decDigits_ne _)] at h
    exact absurd h (decDigits_head u hu)
  · rw [decDigits_val, val_append, decDigits_val, pad9_length hw, val_pad9]; rfl
/-- What has been written when the words from i on are written. -/
theorem decDigits_down (v i : Nat) (h : B ^ (i + 1) ≤ v) : Lib.decDigits (v / B ^ i) = Lib.decDigits (v / B ^ (i + 1)) ++ pad9 (word v i) := by
  have hu : 1 ≤ v / B ^ (i + 1) := Nat.div_pos h (Bp _)
  rw [← decDigits_word _ _ hu (word_lt v i)]
  congr 1
  unfold word
  rw [Nat.pow_succ, ← Nat.div_div_eq_div_mul]
  generalize v / B ^ i = u
  unfold B; omega
theorem top_word {v : Nat} (h : 0 < v) : word v (nw v - 1) = v / B ^ (nw v - 1) := by
  have hn := nw_pos.2 h
  obtain ⟨n, hn1⟩ : ∃ n, nw v = n + 1 := ⟨nw v - 1, by omega⟩
  rw [hn1, Nat.add_sub_cancel]
  have h1 := lt_nw v
  rw [hn1, Nat.pow_succ] at h1
  unfold word
  exact Nat.mod_eq_of_lt ((Nat.div_lt_iff_lt_mul (Bp n)).2 (by rw [Nat.mul_comm]; exact h1))
/-- What holds at the head of a round of 'read': n words are read, p digits are left. -/
structure RInv (l : List UInt8) (p n : Nat) (ws : List Int) : Prop where
  len : ws.length = 232
  good : Good ws
  left : p = l.length - 9 * n
  sum : wsum ws = (val (l.drop p) : Int)
  zero : ∀ j, n ≤ j → ws.getD j 0 = 0
theorem wsum_zero : ∀ n, wsum (List.replicate n 0) = 0
  | 0 => rfl
  | n + 1 => by rw [List.replicate_succ, wsum, wsum_zero n]; rfl
theorem RInv.start (l : List UInt8) : RInv l l.length 0 (List.replicate 232 0) where
  len := List.length_replicate
  good := by intro x hx; rw [List.eq_of_mem_replicate hx]; decide
  left := by omega
  sum := by rw [wsum_zero, List.drop_length]; rfl
  zero j _ := by rw [List.getD_eq_getElem?_getD, List.getElem?_replicate]; split <;> rfl
theorem RInv.round {l : List UInt8} {p n : Nat} {ws : List Int} (h : RInv l p n ws) (hl : l.length ≤ 2088) (hd : ∀ c ∈ l, isDig c = true) (hp : 0 < p) :
    RInv l (p - 9) (n + 1) (ws.set n (val ((l.take p).drop (p - 9)) : Int)) ∧ n < 232 := by
  have hpn := h.left
  have hn : n < 232 := by omega
  have hw : val ((l.take p).drop (p - 9)) < B := by
    refine Nat.lt_of_lt_of_le (val_lt _ fun c hc => hd c (List.mem_of_mem_take (List.mem_of_mem_drop hc))) ?_
    have : ((l.take p).drop (p - 9)).length ≤ 9 := by simp; omega
    exact Nat.le_trans (Nat.pow_le_pow_right (by decide) this) (by decide)
  refine ⟨⟨by rw [List.length_set]; exact h.len, h.good.set _ ⟨by omega, by unfold B at hw; omega⟩, by omega, ?_, fun j hj => ?_⟩, hn⟩
  · rw [wsum_set _ _ _ (by rw [h.len]; exact hn), h.zero n (Nat.le_refl _), h.sum]
    have e : l.drop (p - 9) = (l.take p).drop (p - 9) ++ l.drop p := by
      conv => lhs; rw [← List.take_append_drop p l]
      rw [List.drop_append_of_le_length (by simp; omega)]
    have e2 : (l.drop p).length = 9 * n := by simp; omega
    rw [e, val_append, e2, ← B_pow, Int.natCast_add, Int.natCast_mul, Int.natCast_pow]
    simp only [Int.sub_zero]
    omega
  · rw [List.getD_eq_getElem?_getD, List.getElem?_set_ne (by omega), ← List.getD_eq_getElem?_getD]
    exact h.zero j (by omega)
theorem RInv.end {l : List UInt8} {n : Nat} {ws : List Int} (h : RInv l 0 n ws) (hl : l.length ≤ 2088) : ws = W (val l) ∧ nw (val l) ≤ n := by
  have hs := h.sum
  rw [List.drop_zero] at hs
  have hw := W_of_wsum h.good h.len hs
  refine ⟨hw, ?_⟩
  rcases Nat.lt_or_ge n (nw (val l)) with h1 | h1
  · exfalso
    have hv0 : 0 < val l := nw_pos.1 (by omega)
    have h2 := h.zero (nw (val l) - 1) (by omega)
    have hb := wsum_bound h.good
    rw [hs, h.len, ← Int.natCast_pow] at hb
    have hlt : val l < B ^ 232 := by omega
    rw [hw, W_getD _ _ hlt] at h2
    exact word_top hv0 (by omega)
  · exact h1
end Go.Proofs.YtpkfnclbcmnckaaGreatDoor.Wid
set_option linter.unusedVariables false
namespace Go.Proofs.YtpkfnclbcmnckaaGreatDoor.Mem
open Go Go.RowKit Go.Proofs.YtpkfnclbcmnckaaGreatDoor.Dec Go.Proofs.YtpkfnclbcmnckaaGreatDoor.Wid
theorem Hid.mk' {p : Prop} (h : p) : Hid p := h
def wcell (less : Bool) (n : Nat) (ws : List Int) : Array Value := (Value.bool less :: Value.int .i64 n :: ws.map (Value.int .i64)).toArray
/-- Block b is a wide with this sign, this number of words, these words. -/
def IsX (w : World) (b : Nat) (less : Bool) (n : Nat) (ws : List Int) : Prop := ws.length = 232 ∧ w.heap[b]? = some (.cells (wcell less n ws) 73 (0, 0))
/-- Block b is a trimmed wide: a sign, and a magnitude. -/
def IsW (w : World) (b : Nat) (less : Bool) (v : Nat) : Prop := IsX w b less (nw v) (W v)
section
variable {w w' : World} {b : Nat} {less : Bool} {n : Nat} {ws : List Int}
theorem IsX.cell0 (h : IsX w b less n ws) : w.cell? ⟨b, 0, none⟩ = some (.bool less) := by simp [World.cell?, h.2, wcell]
theorem IsX.cell1 (h : IsX w b less n ws) : w.cell? ⟨b, 1, none⟩ = some (.int .i64 n) := by simp [World.cell?, h.2, wcell]
theorem IsX.cellw (h : IsX w b less n ws) (i : Nat) (hi : i < 232) : w.cell? ⟨b, 2 + i, none⟩ = some (.int .i64 (ws.getD i 0)) := by
  have h1 := h.1
  simp [World.cell?, h.2, wcell, Nat.add_comm 2 i, List.getElem?_cons_succ, List.getD_eq_getElem?_getD, List.getElem?_eq_getElem (show i < ws.length by omega)]
theorem IsX.free (h : IsX w b less n ws) (o : Nat) : w.frozen? ⟨b, o, none⟩ = false := by simp [World.frozen?, h.2]
theorem IsX.size (h : IsX w b less n ws) : b < w.heap.size := (Array.getElem?_eq_some_iff.1 h.2).1
theorem setCell_heap (w : World) (b o : Nat) (v : Value) {c : Array Value} {t : TypeId} {f : Nat × Nat} (h : w.heap[b]? = some (.cells c t f)) : (w.setCell ⟨b, o, none⟩ v).heap[b]? = some (.cells (c.setIfInBounds o v) t f) := by
  simp [World.setCell, Array.getElem?_modify, h]
theorem IsX.set0 (h : IsX w b less n ws) (l : Bool) : IsX (w.setCell ⟨b, 0, none⟩ (.bool l)) b l n ws :=
  ⟨h.1, by rw [setCell_heap w b 0 _ h.2]; simp [wcell]⟩
theorem IsX.set1 (h : IsX w b less n ws) (m : Nat) : IsX (w.setCell ⟨b, 1, none⟩ (.int .i64 m)) b less m ws :=
  ⟨h.1, by rw [setCell_heap w b 1 _ h.2]; simp [wcell]⟩
theorem IsX.setw (h : IsX w b less n ws) (i : Nat) (v : Int) : IsX (w.setCell ⟨b, 2 + i, none⟩ (.int .i64 v)) b less n (ws.set i v) :=
  ⟨by rw [List.length_set]; exact h.1, by rw [setCell_heap w b _ _ h.2]; simp [wcell, Nat.add_comm 2 i, List.map_set]⟩
theorem IsX.drew (h : IsX w b less n ws) (k : Nat) : IsX (w.drewN k) b less n ws := h
theorem IsX.drew1 (h : IsX w b less n ws) : IsX w.drew b less n ws := h
theorem IsX.grown (h : IsX w b less n ws) {row : Option Nat} (hg : w.grownBy w' row) (hr : some b ≠ row) : IsX w' b less n ws :=
  ⟨h.1, by rw [hg.block b h.size hr]; exact h.2⟩
theorem IsX.below (h : IsX w b less n ws) {B : Nat} (hg : Below B w w') (hb : b < B) : IsX w' b less n ws :=
  ⟨h.1, by rw [hg.block b hb]; exact h.2⟩
theorem IsX.other (h : IsX w b less n ws) (c o : Nat) (v : Value) (hc : b ≠ c) : IsX (w.setCell ⟨c, o, none⟩ v) b less n ws :=
  ⟨h.1, by rw [Below.heap_setCell w _ _ _ hc]; exact h.2⟩
theorem IsX.alloc (h : IsX w b less n ws) (o : Obj) : IsX (w.alloc o) b less n ws :=
  ⟨h.1, by rw [Below.heap_alloc w _ _ h.size]; exact h.2⟩
end
theorem grown_refl (w : World) (row : Option Nat) : w.grownBy w row := ⟨rfl, rfl, rfl, Nat.le_refl _, fun _ _ _ => rfl⟩
theorem grown_trans {w w1 w2 : World} {row : Option Nat} (h : w.grownBy w1 row) (h2 : w1.grownBy w2 row) : w.grownBy w2 row :=
  ⟨h2.os.trans h.os, h2.tape.trans h.tape, h2.output.trans h.output, Nat.le_trans h.size h2.size, fun k hk hr => (h2.block k (Nat.lt_of_lt_of_le hk h.size) hr).trans (h.block k hk hr)⟩
theorem grown_drewN {w w1 : World} {row : Option Nat} (h : w.grownBy w1 row) (k : Nat) : w.grownBy (w1.drewN k) row := ⟨h.os, h.tape, h.output, h.size, h.block⟩
theorem grown_set {w w1 : World} {b : Nat} (h : w.grownBy w1 (some b)) (o : Nat) (v : Value) : w.grownBy (w1.setCell ⟨b, o, none⟩ v) (some b) :=
  ⟨h.os, h.tape, h.output, by simp only [World.size_setCell]; exact h.size, fun k hk hr => by rw [Below.heap_setCell _ _ _ _ (fun e => hr (by rw [e]))]; exact h.block k hk hr⟩
theorem grown_of_below {w w1 : World} (h : Below w.heap.size w w1) (row : Option Nat) : w.grownBy w1 row := ⟨h.os, h.tape, h.output, h.size, fun k hk _ => h.block k hk⟩
end Go.Proofs.YtpkfnclbcmnckaaGreatDoor.Mem
set_option linter.unusedVariables false
namespace Go.Proofs.YtpkfnclbcmnckaaGreatDoor.Mem
open Go Go.RowKit Go.Proofs.YtpkfnclbcmnckaaGreatDoor.Dec Go.Proofs.YtpkfnclbcmnckaaGreatDoor.Wid
set_option maxRecDepth 100000 in
set_option maxHeartbeats 1000000 in
theorem trimmed_any (b : Nat) (less : Bool) (n v : Nat) (w : World) (hx : IsX w b less n (W v)) (hn : nw v ≤ n) (h2 : n ≤ 232) :
    Calls Tryz.prog 69 #[.pointer (some ⟨b, 0, none⟩)] w fun e w' => e = .returned (.pointer (some ⟨b, 0, none⟩)) ∧ IsW w' b less v ∧ w.grownBy w' (some b) := by
  go_enter Tryz.func69, Tryz.ntmps69
  go_wp2_with fail
  go_loopg [] n (fun g wr => ∃ m : Nat, nw v ≤ m ∧ m ≤ n ∧ m ≤ g ∧ IsX wr b less m (W v) ∧ w.grownBy wr (some b))
  case atStart => exact ⟨n, hn, Nat.le_refl _, Nat.le_refl _, hx, grown_refl _ _⟩
  case round =>
    obtain ⟨m, h1, h3, h4, hm, hg⟩ := hrel
    have f1 := hm.free 1
    rcases Nat.eq_zero_or_pos m with h0 | h0
    · subst h0
      have c1 : wr.cell? ⟨b, 1, none⟩ = some (.int .i64 0) := hm.cell1
      have hv : Hid (nw v = 0) := Nat.le_zero.1 h1
      have H := Hid.mk' hm
      have G := Hid.mk' hg
      clear hm hg hx
      go_wp2_with fail
      go_quiet (fail)
      go_wp2
      go_ret
      exact ⟨rfl, by rw [IsW, hv.out]; exact H.out, grown_drewN G.out _⟩
    · obtain ⟨k, rfl⟩ : ∃ k, m = k + 1 := ⟨m - 1, by omega⟩
      have c1 : wr.cell? ⟨b, 1, none⟩ = some (.int .i64 ((k : Int) + 1)) := hm.cell1
      have cw := hm.cellw k (by omega)
      rw [W_get v k (by omega)] at cw
      have H := Hid.mk' hm
      have G := Hid.mk' hg
      clear hm hg hx
      have g0 : (0 : Int) < (k : Int) + 1 := by omega
      have gd : decide ((0 : Int) < (k : Int) + 1) = true := decide_eq_true (by omega)
      have e1 : ((k : Int) + 1 - 1) = k := by omega
      by_cases hz : word v k = 0
      · rw [hz] at cw
        go_wp2_with fail
        go_quiet (fail)
        go_wp2
        go_roundg k
        case measure => omega
        case rel => exact ⟨k, nw_le_of_word hz h1, by omega, Nat.le_refl _, (H.out.drew nq).set1 k, grown_set (grown_drewN G.out nq) 1 _⟩
      · have hnv : Hid (nw v = k + 1) := nw_eq_of_word hz h1
        obtain ⟨u, hu⟩ : ∃ u : Int, ((word v k : Nat) : Int) = u := ⟨_, rfl⟩
        have hu0 : (u == 0) = false := beq_eq_false_iff_ne.2 (by omega)
        rw [hu] at cw
        clear hu hz
        go_wp2_with fail
        go_quiet (fail)
        go_wp2
        go_ret
        exact ⟨rfl, by rw [IsW, hnv.out]; exact H.out, grown_drewN G.out _⟩
/-- One round's sum, in the two ways of Go's division. -/
theorem tdiv_neg (s : Int) (h : s < 0) : s.tdiv 1000000000 = -((-s) / 1000000000) := by
  have : s = -(-s) := by omega
  rw [this, Int.neg_tdiv, Int.tdiv_eq_ediv_of_nonneg (by omega)]
  simp
theorem int_eq {k : IntKind} {a b : Int} (h : a = b) : Value.int k a = Value.int k b := by rw [h]
theorem prod_bound (f : Int) (y : Nat) (hf0 : -1000000000 < f) (hf1 : f < 1000000000) (hy : y < B) : -1000000000000000000 ≤ f * (y : Int) ∧ f * (y : Int) ≤ 1000000000000000000 := by
  unfold B at hy
  rcases Int.le_total 0 f with h | h
  · have h1 := Int.mul_nonneg h (Int.natCast_nonneg y)
    have h2 : f * (y : Int) ≤ 1000000000 * 1000000000 := Int.mul_le_mul (by omega) (by omega) (by omega) (by omega)
    omega
  · have h1 := Int.mul_nonneg (show 0 ≤ -f by omega) (Int.natCast_nonneg y)
    have h2 : -f * (y : Int) ≤ 1000000000 * 1000000000 := Int.mul_le_mul (by omega) (by omega) (by omega) (by omega)
    rw [Int.neg_mul] at h1 h2
    omega
theorem IsX.put2 {w : World} {b : Nat} {l : Bool} {n : Nat} {ws : List Int} (h : IsX w b l n ws) (k k' : Nat) (hk : k' = 2 + k) (v v' : Int) (hv : v' = v) (m : Nat) (m' : Int) (hm : m' = m) :
    IsX ((w.setCell ⟨b, k', none⟩ (.int .i64 v')).setCell ⟨b, 1, none⟩ (.int .i64 m')) b l m (ws.set k v) := by
  subst hk hv hm
  exact (h.setw k v').set1 m
/-- A number that has room. -/
def Fits (v : Nat) : Prop := v < B ^ 232
theorem nw_le_of_fits {v : Nat} (h : Fits v) : nw v ≤ 232 := (nw_le_iff v 232).2 h
set_option maxRecDepth 100000 in
set_option maxHeartbeats 2000000 in
theorem carry_any (bx c : Nat) (hne : bx ≠ c) (lx ly : Bool) (vx vy : Nat) (f : Int) (up : Nat) (w : World) (hx : IsW w bx lx vx) (hy : IsW w c ly vy) (hvx : Fits vx) (hvy : Fits vy) (hup : up + nw vy ≤ 232)
    (hf0 : -1000000000 < f) (hf1 : f < 1000000000) (v : Nat) (hv : (v : Int) = vx + f * vy * (B : Int) ^ up) (hvB : Fits v) :
    Calls Tryz.prog 70 #[.pointer (some ⟨bx, 0, none⟩), .pointer (some ⟨c, 0, none⟩), .int .i64 f, .int .i64 up] w fun e w' => e = .returned (.tuple #[]) ∧ IsW w' bx lx v ∧ w.grownBy w' (some bx) := by
  have HV := Hid.mk' hv
  have hR : Hid (0 ≤ (vx : Int) + f * vy * (B : Int) ^ up ∧ (vx : Int) + f * vy * (B : Int) ^ up < (B : Int) ^ 232) := by
    show _ ∧ _
    rw [← hv, ← Int.natCast_pow]
    exact ⟨Int.natCast_nonneg _, Int.ofNat_lt.2 hvB⟩
  have HX := Hid.mk' hx
  have HY := Hid.mk' hy
  have HN := Hid.mk' hne
  clear hv hx hy hne
  go_enter Tryz.func70, Tryz.ntmps70
  go_wp2_with fail
  go_loopg [8, 9] 233 (fun g s8 s9 wr => ∃ (i : Nat) (rest : Int) (n : Nat) (ws : List Int), s8 = .int .i64 rest ∧ s9 = .int .i64 i ∧ i + g = 233 ∧ IsX wr bx lx n ws ∧ w.grownBy wr (some bx) ∧ Hid (CInv vx vy up f i rest n ws))
  case atStart => exact ⟨0, 0, nw vx, W vx, rfl, rfl, rfl, HX.out, grown_refl _ _, CInv.start vx vy up f hvx⟩
  case round =>
    obtain ⟨i, rest, n, ws, rfl, rfl, hig, hm, hg, HC⟩ := hrel
    have hmy : IsX wr c ly (nw vy) (W vy) := IsX.grown HY.out hg (by simpa using fun e => HN.out e.symm)
    have b1 := HC.out.lo
    have b2 := HC.out.hi
    have cy := hmy.cell1
    have hyn := nw_le_of_fits hvy
    by_cases hcase : i < nw vy ∨ rest ≠ 0
    · have hk : up + i < 232 := HC.out.index hup hR.out.1 hR.out.2 hcase
      have hG := HC.out.good.getD (up + i)
      have cx := hm.cellw (up + i) hk
      have fx := hm.free (2 + (up + i))
      have cn := hm.cell1
      have fn := hm.free 1
      have hnn : n ≤ 232 := HC.out.nhi
      have ew : (2 + (up + i)) = 2 + (i + up) := by omega
      rw [ew] at cx fx
      clear ew
      obtain ⟨a, ha⟩ : ∃ a, ws.getD (up + i) 0 = a := ⟨_, rfl⟩
      rw [ha] at cx hG
      by_cases hi : i < nw vy
      · have cyw := hmy.cellw i (by omega)
        rw [W_get vy i (by omega)] at cyw
        have hp := prod_bound f (word vy i) hf0 hf1 (word_lt vy i)
        obtain ⟨y, hy⟩ : ∃ y : Int, (word vy i : Int) = y := ⟨_, rfl⟩
        rw [hy] at cyw hp
        have p1 := hp.1
        have p2 := hp.2
        have gi : decide ((i : Int) < (nw vy : Int)) = true := decide_eq_true (by omega)
        have gi2 : (i : Int) < (nw vy : Int) := by omega
        obtain ⟨s, hs⟩ : ∃ s, a + rest + f * y = s := ⟨_, rfl⟩
        have s1 : -1000000002000000000 ≤ s := by omega
        have s2 : s ≤ 1000000002000000000 := by omega
        have H := Hid.mk' hm
        have G := Hid.mk' hg
        have C2 : Hid (CInv vx vy up f (i + 1) (s / 1000000000) (max n (up + i + 1)) (ws.set (up + i) (s % 1000000000))) := HC.out.round hk hvx hf0 hf1 s (by rw [ha, hy]; exact hs.symm)
        clear hm hg hy ha hmy hG hi hp hcase HC
        rcases Nat.lt_or_ge n (up + i + 1) with hm1 | hm1
        · have hm2 : (n : Int) < (i : Int) + (up : Int) + 1 := by omega
          rcases Int.lt_or_le s 0 with h0 | h0
          · have hq := tdiv_neg s h0
            rcases Int.lt_or_le 0 ((-s) % 1000000000) with h00 | h00
            · skip
              go_wp2_with fail
              go_roundg (gk - 1)
              case measure => omega
              case rel => exact ⟨i + 1, s / 1000000000, max n (up + i + 1), ws.set (up + i) (s % 1000000000), int_eq (by omega), int_eq (by omega), by omega, H.out.put2 (up + i) _ (by omega) _ _ (by omega) _ _ (by omega), grown_set (grown_set G.out _ _) _ _, C2⟩
            · skip
              go_wp2_with fail
              go_roundg (gk - 1)
              case measure => omega
              case rel => exact ⟨i + 1, s / 1000000000, max n (up + i + 1), ws.set (up + i) (s % 1000000000), int_eq (by omega), int_eq (by omega), by omega, H.out.put2 (up + i) _ (by omega) _ _ (by omega) _ _ (by omega), grown_set (grown_set G.out _ _) _ _, C2⟩
          · skip
            go_wp2_with fail
            go_roundg (gk - 1)
            case measure => omega
            case rel => exact ⟨i + 1, s / 1000000000, max n (up + i + 1), ws.set (up + i) (s % 1000000000), int_eq (by omega), int_eq (by omega), by omega, H.out.put2 (up + i) _ (by omega) _ _ (by omega) _ _ (by omega), grown_set (grown_set G.out _ _) _ _, C2⟩
        · have hm2 : (n : Int) ≥ (i : Int) + (up : Int) + 1 := by omega
          rcases Int.lt_or_le s 0 with h0 | h0
          · have hq := tdiv_neg s h0
            rcases Int.lt_or_le 0 ((-s) % 1000000000) with h00 | h00
            · skip
              go_wp2_with fail
              go_roundg (gk - 1)
              case measure => omega
              case rel => exact ⟨i + 1, s / 1000000000, max n (up + i + 1), ws.set (up + i) (s % 1000000000), int_eq (by omega), int_eq (by omega), by omega, H.out.put2 (up + i) _ (by omega) _ _ (by omega) _ _ (by omega), grown_set (grown_set G.out _ _) _ _, C2⟩
            · skip
              go_wp2_with fail
              go_roundg (gk - 1)
              case measure => omega
              case rel => exact ⟨i + 1, s / 1000000000, max n (up + i + 1), ws.set (up + i) (s % 1000000000), int_eq (by omega), int_eq (by omega), by omega, H.out.put2 (up + i) _ (by omega) _ _ (by omega) _ _ (by omega), grown_set (grown_set G.out _ _) _ _, C2⟩
          · skip
            go_wp2_with fail
            go_roundg (gk - 1)
            case measure => omega
            case rel => exact ⟨i + 1, s / 1000000000, max n (up + i + 1), ws.set (up + i) (s % 1000000000), int_eq (by omega), int_eq (by omega), by omega, H.out.put2 (up + i) _ (by omega) _ _ (by omega) _ _ (by omega), grown_set (grown_set G.out _ _) _ _, C2⟩
      · have hr : rest ≠ 0 := hcase.resolve_left hi
        have gr : (rest != 0) = true := bne_iff_ne.2 hr
        have gi : decide ((i : Int) < (nw vy : Int)) = false := decide_eq_false (by omega)
        have gi2 : (nw vy : Int) ≤ (i : Int) := by omega
        obtain ⟨s, hs⟩ : ∃ s, a + rest = s := ⟨_, rfl⟩
        have s1 : -1000000002000000000 ≤ s := by omega
        have s2 : s ≤ 1000000002000000000 := by omega
        have H := Hid.mk' hm
        have G := Hid.mk' hg
        have C2 : Hid (CInv vx vy up f (i + 1) (s / 1000000000) (max n (up + i + 1)) (ws.set (up + i) (s % 1000000000))) := HC.out.round hk hvx hf0 hf1 s (by rw [ha, word_zero (Nat.le_of_not_lt hi)]; simp; exact hs.symm)
        clear hm hg ha hmy hG hi hcase HC hr
        rcases Nat.lt_or_ge n (up + i + 1) with hm1 | hm1
        · have hm2 : (n : Int) < (i : Int) + (up : Int) + 1 := by omega
          rcases Int.lt_or_le s 0 with h0 | h0
          · have hq := tdiv_neg s h0
            rcases Int.lt_or_le 0 ((-s) % 1000000000) with h00 | h00
            · skip
              go_wp2_with fail
              go_roundg (gk - 1)
              case measure => omega
              case rel => exact ⟨i + 1, s / 1000000000, max n (up + i + 1), ws.set (up + i) (s % 1000000000), int_eq (by omega), int_eq (by omega), by omega, H.out.put2 (up + i) _ (by omega) _ _ (by omega) _ _ (by omega), grown_set (grown_set G.out _ _) _ _, C2⟩
            · skip
              go_wp2_with fail
              go_roundg (gk - 1)
              case measure => omega
              case rel => exact ⟨i + 1, s / 1000000000, max n (up + i + 1), ws.set (up + i) (s % 1000000000), int_eq (by omega), int_eq (by omega), by omega, H.out.put2 (up + i) _ (by omega) _ _ (by omega) _ _ (by omega), grown_set (grown_set G.out _ _) _ _, C2⟩
          · skip
            go_wp2_with fail
            go_roundg (gk - 1)
            case measure => omega
            case rel => exact ⟨i + 1, s / 1000000000, max n (up + i + 1), ws.set (up + i) (s % 1000000000), int_eq (by omega), int_eq (by omega), by omega, H.out.put2 (up + i) _ (by omega) _ _ (by omega) _ _ (by omega), grown_set (grown_set G.out _ _) _ _, C2⟩
        · have hm2 : (n : Int) ≥ (i : Int) + (up : Int) + 1 := by omega
          rcases Int.lt_or_le s 0 with h0 | h0
          · have hq := tdiv_neg s h0
            rcases Int.lt_or_le 0 ((-s) % 1000000000) with h00 | h00
            · skip
              go_wp2_with fail
              go_roundg (gk - 1)
              case measure => omega
              case rel => exact ⟨i + 1, s / 1000000000, max n (up + i + 1), ws.set (up + i) (s % 1000000000), int_eq (by omega), int_eq (by omega), by omega, H.out.put2 (up + i) _ (by omega) _ _ (by omega) _ _ (by omega), grown_set (grown_set G.out _ _) _ _, C2⟩
            · skip
              go_wp2_with fail
              go_roundg (gk - 1)
              case measure => omega
              case rel => exact ⟨i + 1, s / 1000000000, max n (up + i + 1), ws.set (up + i) (s % 1000000000), int_eq (by omega), int_eq (by omega), by omega, H.out.put2 (up + i) _ (by omega) _ _ (by omega) _ _ (by omega), grown_set (grown_set G.out _ _) _ _, C2⟩
          · skip
            go_wp2_with fail
            go_roundg (gk - 1)
            case measure => omega
            case rel => exact ⟨i + 1, s / 1000000000, max n (up + i + 1), ws.set (up + i) (s % 1000000000), int_eq (by omega), int_eq (by omega), by omega, H.out.put2 (up + i) _ (by omega) _ _ (by omega) _ _ (by omega), grown_set (grown_set G.out _ _) _ _, C2⟩
    · have hi : nw vy ≤ i := by omega
      obtain rfl : rest = 0 := by omega
      have gi : decide ((i : Int) < (nw vy : Int)) = false := decide_eq_false (by omega)
      have gi2 : (nw vy : Int) ≤ (i : Int) := by omega
      obtain ⟨e1, e2⟩ := HC.out.end hi HV.out
      have hm2 : IsX wr bx lx n (W v) := by rw [← e1]; exact hm
      have hnn : n ≤ 232 := HC.out.nhi
      have H := Hid.mk' hm2
      have G := Hid.mk' hg
      clear hm hg hmy hcase HC e1 hm2
      go_wp2_with fail
      refine (trimmed_any bx lx n v wr H.out e2 hnn).mono ?_
      rintro e w' ⟨rfl, hw, hg2⟩
      go_wp2_with fail
      go_end0
      exact ⟨rfl, hw, grown_trans G.out hg2⟩
end Go.Proofs.YtpkfnclbcmnckaaGreatDoor.Mem
set_option linter.unusedVariables false
namespace Go.Proofs.YtpkfnclbcmnckaaGreatDoor.Mem
open Go Go.RowKit Go.Proofs.YtpkfnclbcmnckaaGreatDoor.Dec Go.Proofs.YtpkfnclbcmnckaaGreatDoor.Wid
theorem cmpW_ne {v u : Nat} (h : nw v ≠ nw u) : cmpW v u = (nw v : Int) - nw u := by unfold cmpW; rw [if_neg h]
theorem cmpW_eq {v u : Nat} (h : nw v = nw u) : cmpW v u = cmpFrom (nw v) v u := by unfold cmpW; rw [if_pos h]
theorem cmpFrom_ne {m v u : Nat} (h : word v m ≠ word u m) : cmpFrom (m + 1) v u = (word v m : Int) - word u m := by rw [cmpFrom, if_neg h]
theorem cmpFrom_eq {m v u : Nat} (h : word v m = word u m) : cmpFrom (m + 1) v u = cmpFrom m v u := by rw [cmpFrom, if_pos h]
theorem drew_two (w : World) (a b : Nat) : ∃ k, (w.drewN a).drewN b = w.drewN k := ⟨a + b, World.drewN_drewN ..⟩
theorem drew_three (w : World) (a b c : Nat) : ∃ k, ((w.drewN a).drewN b).drewN c = w.drewN k := ⟨a + (b + c), by rw [World.drewN_drewN, World.drewN_drewN]⟩
theorem ret_int {k : IntKind} {a b : Int} (h : a = b) : Ending.returned (.int k a) = .returned (.int k b) := by rw [h]
set_option maxRecDepth 100000 in
set_option maxHeartbeats 1000000 in
theorem beyond_any (b c : Nat) (lx ly : Bool) (vx vy : Nat) (w : World) (hx : IsW w b lx vx) (hy : IsW w c ly vy) (fx : Fits vx) (fy : Fits vy) :
    Calls Tryz.prog 76 #[.pointer (some ⟨b, 0, none⟩), .pointer (some ⟨c, 0, none⟩)] w fun e w' => e = .returned (.int .i64 (cmpW vx vy)) ∧ ∃ k, w' = w.drewN k := by
  have c1 := hx.cell1
  have d1 := hy.cell1
  have nx := nw_le_of_fits fx
  have ny := nw_le_of_fits fy
  by_cases hn : nw vx = nw vy
  · have gn : ((nw vx : Int) != (nw vy : Int)) = false := bne_eq_false_iff_eq.2 (by omega)
    have HN := Hid.mk' hn
    have HX := Hid.mk' hx
    have HY := Hid.mk' hy
    clear hn hx hy
    go_enter Tryz.func76, Tryz.ntmps76
    go_wp2_with fail
    go_quiet (fail)
    go_wp2_with fail
    go_loopg [5] (nw vx + 1) (fun g s5 wr => ∃ (k q : Nat) (z : Int), s5 = .int .i64 z ∧ z + 1 = (k : Int) ∧ k + 1 ≤ g ∧ k ≤ 232 ∧ wr = w.drewN q ∧ Hid (cmpFrom (nw vx) vx vy = cmpFrom k vx vy))
    case atStart => exact ⟨nw vx, _, (nw vx : Int) - 1, rfl, by omega, Nat.le_refl _, nx, rfl, rfl⟩
    case round =>
      obtain ⟨k, q, z, rfl, hz, hg, hk, rfl, HC⟩ := hrel
      clear c1 d1 gn
      rcases Nat.eq_zero_or_pos k with h0 | h0
      · subst h0
        obtain rfl : z = -1 := by omega
        clear hz
        go_wp2_with fail
        go_ret
        exact ⟨ret_int (by rw [cmpW_eq HN.out, HC.out]; rfl), _, rfl⟩
      · obtain ⟨m, rfl⟩ : ∃ m, k = m + 1 := ⟨k - 1, by omega⟩
        obtain rfl : z = (m : Int) := by omega
        clear hz h0
        have a1 := HX.out.cellw m (by omega)
        have a2 := HY.out.cellw m (by omega)
        rw [W_get _ m (by omega)] at a1 a2
        have b1 := word_lt vx m
        have b2 := word_lt vy m
        unfold B at b1 b2
        by_cases hw : word vx m = word vy m
        · have HC2 : Hid (cmpFrom (nw vx) vx vy = cmpFrom m vx vy) := HC.out.trans (cmpFrom_eq hw)
          rw [hw] at a1
          obtain ⟨y, hy⟩ : ∃ y : Int, (word vy m : Int) = y := ⟨_, rfl⟩
          rw [hy] at a1 a2
          clear hy hw b1 b2 HC
          go_wp2_with fail
          go_quiet (fail)
          go_wp2_with fail
          go_roundg (m + 1)
          case measure => omega
          case rel => exact ⟨m, _, (m : Int) - 1, rfl, by omega, by omega, by omega, rfl, HC2⟩
        · have HC2 : Hid (cmpW vx vy = (word vx m : Int) - word vy m) := (cmpW_eq HN.out).trans (HC.out.trans (cmpFrom_ne hw))
          obtain ⟨x, hx⟩ : ∃ x : Int, (word vx m : Int) = x := ⟨_, rfl⟩
          obtain ⟨y, hy⟩ : ∃ y : Int, (word vy m : Int) = y := ⟨_, rfl⟩
          have gw : (x != y) = true := bne_iff_ne.2 (by omega)
          have b3 : 0 ≤ x ∧ x < 1000000000 := by omega
          have b4 : 0 ≤ y ∧ y < 1000000000 := by omega
          obtain ⟨b31, b32⟩ := b3
          obtain ⟨b41, b42⟩ := b4
          have gs := IntWalk.i64_in (x - y) ⟨by omega, by omega⟩
          rw [hx, hy] at HC2
          rw [hx] at a1
          rw [hy] at a2
          clear hx hy hw b1 b2 HC
          go_wp2_with fail
          go_quiet (fail)
          go_wp2_with fail
          go_quiet (fail)
          go_wp2_with fail
          go_ret
          exact ⟨ret_int (by rw [HC2.out]), drew_three _ _ _ _⟩
  · have gn : ((nw vx : Int) != (nw vy : Int)) = true := bne_iff_ne.2 (by omega)
    have gs := IntWalk.i64_in ((nw vx : Int) - (nw vy : Int)) ⟨by omega, by omega⟩
    have HN := Hid.mk' hn
    clear hn hx hy
    go_enter Tryz.func76, Tryz.ntmps76
    go_wp2_with fail
    go_quiet (fail)
    go_wp2_with fail
    go_quiet (fail)
    go_wp2_with fail
    go_ret
    exact ⟨ret_int (by rw [cmpW_ne HN.out]), drew_two _ _ _⟩
/-- What the closure of 'estimate' returns. -/
def topW (v : Nat) (i : Int) : Int := if i < 0 then 0 else (word v i.toNat : Int)
theorem topW_nat (v i : Nat) : topW v i = (word v i : Int) := by unfold topW; rw [if_neg (by omega)]; simp
set_option maxRecDepth 100000 in
set_option maxHeartbeats 1000000 in
theorem top_any (b : Nat) (l : Bool) (v : Nat) (i : Int) (w : World) (hx : IsW w b l v) (fx : Fits v) (h0 : -1 ≤ i) (h1 : i ≤ 1000) :
    Calls Tryz.prog 97 #[.pointer (some ⟨b, 0, none⟩), .int .i64 i] w fun e w' => e = .returned (.int .i64 (topW v i)) ∧ w' = w := by
  have c1 := hx.cell1
  have nx := nw_le_of_fits fx
  by_cases hi : i < 0
  · have H : Hid (topW v i = 0) := by show _ = _; unfold topW; rw [if_pos hi]
    go_enter Tryz.func97, Tryz.ntmps97
    go_wp2_with fail
    go_ret
    exact ⟨ret_int (by rw [H.out]), rfl⟩
  · obtain ⟨k, rfl⟩ : ∃ k : Nat, i = (k : Int) := ⟨i.toNat, by omega⟩
    by_cases hk : k < nw v
    · have a1 := hx.cellw k (by omega)
      rw [W_get _ k (by omega)] at a1
      have H : Hid (topW v k = (word v k : Int)) := topW_nat v k
      obtain ⟨y, hy⟩ : ∃ y : Int, (word v k : Int) = y := ⟨_, rfl⟩
      rw [hy] at a1 H
      have g1 : (k : Int) < (nw v : Int) := by omega
      clear hy hx
      go_enter Tryz.func97, Tryz.ntmps97
      go_wp2_with fail
      go_ret
      exact ⟨ret_int (by rw [H.out]), rfl⟩
    · have H : Hid (topW v k = 0) := by show _ = _; rw [topW_nat, word_zero (Nat.le_of_not_lt hk)]; rfl
      have g1 : (nw v : Int) ≤ (k : Int) := by omega
      clear hx
      go_enter Tryz.func97, Tryz.ntmps97
      go_wp2_with fail
      go_ret
      exact ⟨ret_int (by rw [H.out]), rfl⟩
end Go.Proofs.YtpkfnclbcmnckaaGreatDoor.Mem
set_option linter.unusedVariables false
namespace Go.Proofs.YtpkfnclbcmnckaaGreatDoor.Mem
open Go Go.RowKit Go.Proofs.YtpkfnclbcmnckaaGreatDoor.Dec Go.Proofs.YtpkfnclbcmnckaaGreatDoor.Wid
theorem tdiv_nat (a c : Nat) : ((a : Int)).tdiv (c : Int) = ((a / c : Nat) : Int) := by rw [Int.tdiv_eq_ediv_of_nonneg (by omega)]; rfl
set_option maxRecDepth 100000 in
set_option maxHeartbeats 2000000 in
theorem estimate_any (b c : Nat) (lx ly : Bool) (vx vy : Nat) (w : World) (hx : IsW w b lx vx) (hy : IsW w c ly vy) (fx : Fits vx) (fy : Fits vy) (hp : 0 < vy) :
    Calls Tryz.prog 77 #[.pointer (some ⟨b, 0, none⟩), .pointer (some ⟨c, 0, none⟩)] w fun e w' => e = .returned (.int .i64 (est vx vy : Nat)) ∧ ∃ k, w' = w.drewN k := by
  have d1 := hy.cell1
  have ny := nw_le_of_fits fy
  have np := nw_pos.2 hp
  have b1 := word_lt vx (nw vy)
  have b2 := word_lt vx (nw vy - 1)
  have b3 := word_lt vy (nw vy - 1)
  have b4 := Nat.pos_of_ne_zero (word_top hp)
  have HE : Hid (est vx vy = if 0 < (word vx (nw vy) * B + word vx (nw vy - 1)) / (if 1 < nw vy then word vy (nw vy - 1) + 1 else word vy (nw vy - 1)) then min ((word vx (nw vy) * B + word vx (nw vy - 1)) / (if 1 < nw vy then word vy (nw vy - 1) + 1 else word vy (nw vy - 1))) (B - 1) else 1) := rfl
  obtain ⟨n, hn⟩ : ∃ n : Nat, nw vy = n := ⟨_, rfl⟩
  have t1 : topW vx (n : Int) = (word vx n : Int) := topW_nat vx n
  have t2 : topW vx ((n : Int) - 1) = (word vx (n - 1) : Int) := by rw [show (n : Int) - 1 = ((n - 1 : Nat) : Int) by omega]; exact topW_nat vx (n - 1)
  have t3 : topW vy ((n : Int) - 1) = (word vy (n - 1) : Int) := by rw [show (n : Int) - 1 = ((n - 1 : Nat) : Int) by omega]; exact topW_nat vy (n - 1)
  have X := Hid.mk' hx
  have Y := Hid.mk' hy
  rw [hn] at d1 ny np b1 b2 b3 b4 HE
  clear hn hx hy
  obtain ⟨x1, e1⟩ : ∃ x : Nat, word vx n = x := ⟨_, rfl⟩
  obtain ⟨x2, e2⟩ : ∃ x : Nat, word vx (n - 1) = x := ⟨_, rfl⟩
  obtain ⟨y1, e3⟩ : ∃ x : Nat, word vy (n - 1) = x := ⟨_, rfl⟩
  rw [e1] at t1 b1
  rw [e2] at t2 b2
  rw [e3] at t3 b3 b4
  rw [e1, e2, e3] at HE
  clear e1 e2 e3
  unfold B at b1 b2 b3
  have g1 := IntWalk.i64_in ((n : Int) - 1) ⟨by omega, by omega⟩
  have g2 := IntWalk.i64_in ((x1 : Int) * 1000000000) ⟨by omega, by omega⟩
  have g3 := IntWalk.i64_in ((x1 : Int) * 1000000000 + (x2 : Int)) ⟨by omega, by omega⟩
  go_enter Tryz.func77, Tryz.ntmps77
  go_wp2_with fail
  refine wp_region_quiet_lit (by kernel_rfl) (by kernel_rfl) ?_
  repeat (go_big_quiet_step (fail))
  go_big_quiet_step ((exact Calls.quiet_of_same (top_any b lx vx _ _ (IsX.drew X.out _) fx (by omega) (by omega))))
  trace "A"
  repeat (go_big_quiet_step (fail))
  trace "B"
  go_big_quiet_step ((exact Calls.quiet_of_same (top_any b lx vx _ _ (IsX.drew X.out _) fx (by omega) (by omega))))
  repeat (go_big_quiet_step (fail))
  trace "C"
  go_big_quiet_step ((exact Calls.quiet_of_same (top_any c ly vy _ _ (IsX.drew Y.out _) fy (by omega) (by omega))))
  repeat (go_big_quiet_step (fail))
  refine wpQuiet_nil ?_
  intro _ hw'
  obtain ⟨nq, hw''⟩ := hw'
  subst hw''
  clear g1 g2 g3 t1 t2 X Y
  by_cases h1 : 1 < n
  · have g4 : (1 : Int) < (n : Int) := by omega
    rw [if_pos h1] at HE
    obtain ⟨q, hq⟩ : ∃ q : Nat, (x1 * 1000000000 + x2) / (y1 + 1) = q := ⟨_, rfl⟩
    have hqb : q ≤ 999999999999999999 := by rw [← hq]; exact Nat.le_trans (Nat.div_le_self _ _) (by omega)
    rw [show (x1 * B + x2) / (y1 + 1) = q from hq] at HE
    have hd : ((x1 : Int) * 1000000000 + (x2 : Int)).tdiv ((y1 : Int) + 1) = (q : Int) := by rw [← hq]; exact tdiv_nat _ _
    have g5 : (1 : Int) ≤ (y1 : Int) + 1 := by omega
    have g6 : ¬ ((y1 : Int) + 1 = 0) := by omega
    have HQ := Hid.mk' hq
    clear hq h1
    rcases Nat.eq_zero_or_pos q with h0 | h0
    · subst h0
      have gz : ¬ ((0 : Int) < ((0 : Nat) : Int)) := by omega
      go_wp2_with fail
      go_ret
      exact ⟨ret_int (by rw [HE.out]; rfl), _, rfl⟩
    · have gz : (0 : Int) < (q : Int) := by omega
      rw [if_pos h0] at HE
      rcases Nat.lt_or_ge 999999999 q with h9 | h9
      · have g9 : (999999999 : Int) < (q : Int) := by omega
        go_wp2_with fail
        go_ret
        exact ⟨ret_int (by rw [HE.out]; unfold B; omega), _, rfl⟩
      · have g9 : (q : Int) ≤ (999999999 : Int) := by omega
        go_wp2_with fail
        go_ret
        exact ⟨ret_int (by rw [HE.out]; unfold B; omega), _, rfl⟩
  · have g4 : ¬ ((1 : Int) < (n : Int)) := by omega
    rw [if_neg h1] at HE
    obtain ⟨q, hq⟩ : ∃ q : Nat, (x1 * 1000000000 + x2) / y1 = q := ⟨_, rfl⟩
    have hqb : q ≤ 999999999999999999 := by rw [← hq]; exact Nat.le_trans (Nat.div_le_self _ _) (by omega)
    rw [show (x1 * B + x2) / y1 = q from hq] at HE
    have b5 : 1 ≤ y1 := by omega
    have hd : ((x1 : Int) * 1000000000 + (x2 : Int)).tdiv (y1 : Int) = (q : Int) := by rw [← hq]; exact tdiv_nat _ _
    have g5 : (1 : Int) ≤ (y1 : Int) := by omega
    have g6 : ¬ ((y1 : Int) = 0) := by omega
    have HQ := Hid.mk' hq
    clear hq h1
    rcases Nat.eq_zero_or_pos q with h0 | h0
    · subst h0
      have gz : ¬ ((0 : Int) < ((0 : Nat) : Int)) := by omega
      go_wp2_with fail
      go_ret
      exact ⟨ret_int (by rw [HE.out]; rfl), _, rfl⟩
    · have gz : (0 : Int) < (q : Int) := by omega
      rw [if_pos h0] at HE
      rcases Nat.lt_or_ge 999999999 q with h9 | h9
      · have g9 : (999999999 : Int) < (q : Int) := by omega
        go_wp2_with fail
        go_ret
        exact ⟨ret_int (by rw [HE.out]; unfold B; omega), _, rfl⟩
      · have g9 : (q : Int) ≤ (999999999 : Int) := by omega
        go_wp2_with fail
        go_ret
        exact ⟨ret_int (by rw [HE.out]; unfold B; omega), _, rfl⟩
end Go.Proofs.YtpkfnclbcmnckaaGreatDoor.Mem
set_option linter.unusedVariables false
namespace Go.Proofs
open Go.Shelf
def Tryz.lays169_ren : Go.Shelf.Ren := ⟨fun | 169 => 80 | n => n, fun | 70 => 99 | 9 => 9 | 0 => 0 | 72 => 101 | 37 => 88 | 127 => 115 | 3 => 3 | 5 => 5 | n => n, fun | n => n⟩
theorem Tryz.lays169 : Go.Proofs.Lays.n169 Tryz.prog Tryz.lays169_ren := {
  mixed := by kernel_rfl
  f169 := Tryz.func80.trans (congrArg some (by kernel_rfl))
  t0 := Tryz.underlying0
  a0 := Tryz.isAgg0
  z0 := Tryz.sizeOf0
  v0 := Tryz.zeroValue0
  t3 := Tryz.underlying3
  a3 := Tryz.isAgg3
  z3 := Tryz.sizeOf3
  v3 := Tryz.zeroValue3
  t9 := Tryz.underlying9
  a9 := Tryz.isAgg9
  z9 := Tryz.sizeOf9
  v9 := Tryz.zeroValue9
  t37 := Tryz.underlying88
  a37 := Tryz.isAgg88
  z37 := Tryz.sizeOf88
  v37 := Tryz.zeroValue88
  t70 := Tryz.underlying99
  a70 := Tryz.isAgg99
  z70 := Tryz.sizeOf99
  v70 := Tryz.zeroValue99
  t72 := Tryz.underlying101
  a72 := Tryz.isAgg101
  z72 := Tryz.sizeOf101
  v72 := Tryz.zeroValue101
  t127 := Tryz.underlying115
  a127 := Tryz.isAgg115
  z127 := Tryz.sizeOf115
  v127 := Tryz.zeroValue115 }
theorem Tryz.Builder_Extra_169 : Builder.Extra Tryz.prog Tryz.lays169_ren := {
  sizeBuilder := by kernel_rfl
  liesBuilder := by kernel_rfl
  t5 := Tryz.underlying5
  a5 := Tryz.isAgg5
  z5 := Tryz.sizeOf5
  v5 := Tryz.zeroValue5
  infoByte := by kernel_rfl
  cellsByte := by kernel_rfl
  sizeByte := by kernel_rfl
  neB5 := by decide }
open Go.RowKit in
theorem Tryz.Builder_String_any (B b : Nat) (l : List UInt8) (w : World) (h : Lib.IsBuilder 101 5 B b (Lib.byteCells l) w) (hBw : B ≤ w.heap.size) :
    Calls Tryz.prog 80 #[.pointer (some ⟨b, 0, none⟩)] w fun e w' => e = .returned (.string ⟨l.toArray⟩) ∧ Below B w w' := Any.Builder_String_any Tryz.lays169 Tryz.Builder_Extra_169 B b l w h hBw
def Tryz.lays160_ren : Go.Shelf.Ren := ⟨fun | 160 => 62 | 232 => 85 | 231 => 84 | 227 => 86 | 234 => 88 | 233 => 87 | 236 => 90 | 235 => 89 | 228 => 105 | 271 => 108 | 151 => 107 | 197 => 106 | 120 => 119 | 152 => 118 | 260 => 117 | 137 => 127 | 119 => 128 | 224 => 129 | 225 => 130 | 217 => 136 | 266 => 139 | n => n, fun | 9 => 9 | 4 => 4 | 3 => 3 | 5 => 5 | 117 => 108 | 116 => 107 | 0 => 0 | 124 => 111 | 21 => 21 | 105 => 123 | 46 => 135 | 119 => 150 | 139 => 153 | 138 => 152 | n => n, fun | 3 => 3 | 4 => 4 | n => n⟩
theorem Tryz.lays160 : Go.Proofs.Lays.n160 Tryz.prog Tryz.lays160_ren := {
  mixed := by kernel_rfl
  f119 := Tryz.func128.trans (congrArg some (by kernel_rfl))
  f120 := Tryz.func119.trans (congrArg some (by kernel_rfl))
  f137 := Tryz.func127.trans (congrArg some (by kernel_rfl))
  f151 := Tryz.func107.trans (congrArg some (by kernel_rfl))
  f152 := Tryz.func118.trans (congrArg some (by kernel_rfl))
  f160 := Tryz.func62.trans (congrArg some (by kernel_rfl))
  f197 := Tryz.func106.trans (congrArg some (by kernel_rfl))
  f217 := Tryz.func136.trans (congrArg some (by kernel_rfl))
  f224 := Tryz.func129.trans (congrArg some (by kernel_rfl))
  f225 := Tryz.func130.trans (congrArg some (by kernel_rfl))
  f227 := Tryz.func86.trans (congrArg some (by kernel_rfl))
  f228 := Tryz.func105.trans (congrArg some (by kernel_rfl))
  f231 := Tryz.func84.trans (congrArg some (by kernel_rfl))
  f232 := Tryz.func85.trans (congrArg some (by kernel_rfl))
  f233 := Tryz.func87.trans (congrArg some (by kernel_rfl))
  f234 := Tryz.func88.trans (congrArg some (by kernel_rfl))
  f235 := Tryz.func89.trans (congrArg some (by kernel_rfl))
  f236 := Tryz.func90.trans (congrArg some (by kernel_rfl))
  f260 := Tryz.func117.trans (congrArg some (by kernel_rfl))
  f266 := Tryz.func139.trans (congrArg some (by kernel_rfl))
  f271 := Tryz.func108.trans (congrArg some (by kernel_rfl))
  t0 := Tryz.underlying0
  a0 := Tryz.isAgg0
  z0 := Tryz.sizeOf0
  v0 := Tryz.zeroValue0
  t3 := Tryz.underlying3
  a3 := Tryz.isAgg3
  z3 := Tryz.sizeOf3
  v3 := Tryz.zeroValue3
  t4 := Tryz.underlying4
  a4 := Tryz.isAgg4
  z4 := Tryz.sizeOf4
  v4 := Tryz.zeroValue4
  t5 := Tryz.underlying5
  a5 := Tryz.isAgg5
  z5 := Tryz.sizeOf5
  v5 := Tryz.zeroValue5
  t9 := Tryz.underlying9
  a9 := Tryz.isAgg9
  z9 := Tryz.sizeOf9
  v9 := Tryz.zeroValue9
  t21 := Tryz.underlying21
  a21 := Tryz.isAgg21
  z21 := Tryz.sizeOf21
  v21 := Tryz.zeroValue21
  t46 := Tryz.underlying135
  a46 := Tryz.isAgg135
  z46 := Tryz.sizeOf135
  v46 := Tryz.zeroValue135
  t105 := Tryz.underlying123
  a105 := Tryz.isAgg123
  z105 := Tryz.sizeOf123
  v105 := Tryz.zeroValue123
  t116 := Tryz.underlying107
  a116 := Tryz.isAgg107
  z116 := Tryz.sizeOf107
  t117 := Tryz.underlying108
  a117 := Tryz.isAgg108
  z117 := Tryz.sizeOf108
  v117 := Tryz.zeroValue108
  t119 := Tryz.underlying150
  a119 := Tryz.isAgg150
  z119 := Tryz.sizeOf150
  t124 := Tryz.underlying111
  a124 := Tryz.isAgg111
  z124 := Tryz.sizeOf111
  v124 := Tryz.zeroValue111
  t138 := Tryz.underlying152
  a138 := Tryz.isAgg152
  z138 := Tryz.sizeOf152
  v138 := Tryz.zeroValue152
  t139 := Tryz.underlying153
  a139 := Tryz.isAgg153
  z139 := Tryz.sizeOf153
  v139 := Tryz.zeroValue153
  g3 := by kernel_rfl
  g4 := by kernel_rfl }
def Tryz.laysM171_ren : Go.Shelf.Ren := ⟨fun | 171 => 63 | 243 => 91 | 246 => 109 | 283 => 120 | 284 => 121 | 285 => 122 | 286 => 123 | 129 => 132 | 317 => 131 | 318 => 133 | 319 => 134 | 320 => 135 | 337 => 137 | 338 => 138 | n => n, fun | 3 => 3 | 9 => 9 | 2 => 2 | 4 => 4 | 171 => 140 | 0 => 0 | 53 => 132 | 37 => 88 | 5 => 5 | 173 => 143 | 212 => 158 | 51 => 159 | 20 => 20 | 213 => 160 | 46 => 135 | 232 => 164 | 233 => 165 | n => n, fun | 17 => 5 | 18 => 6 | 19 => 7 | n => n⟩
theorem Tryz.laysM171 : Go.Proofs.LaysM.n171 Tryz.prog Tryz.laysM171_ren := {
  mixed := by kernel_rfl
  f129 := Tryz.func132.trans (congrArg some (by kernel_rfl))
  f171 := Tryz.func63.trans (congrArg some (by kernel_rfl))
  f243 := Tryz.func91.trans (congrArg some (by kernel_rfl))
  f246 := Tryz.func109.trans (congrArg some (by kernel_rfl))
  f283 := Tryz.func120.trans (congrArg some (by kernel_rfl))
  f284 := Tryz.func121.trans (congrArg some (by kernel_rfl))
  f285 := Tryz.func122.trans (congrArg some (by kernel_rfl))
  f286 := Tryz.func123.trans (congrArg some (by kernel_rfl))
  f317 := Tryz.func131.trans (congrArg some (by kernel_rfl))
  f318 := Tryz.func133.trans (congrArg some (by kernel_rfl))
  f319 := Tryz.func134.trans (congrArg some (by kernel_rfl))
  f320 := Tryz.func135.trans (congrArg some (by kernel_rfl))
  f337 := Tryz.func137.trans (congrArg some (by kernel_rfl))
  f338 := Tryz.func138.trans (congrArg some (by kernel_rfl))
  t0 := Tryz.underlying0
  a0 := Tryz.isAgg0
  z0 := Tryz.sizeOf0
  v0 := Tryz.zeroValue0
  t2 := Tryz.underlying2
  a2 := Tryz.isAgg2
  z2 := Tryz.sizeOf2
  v2 := Tryz.zeroValue2
  t3 := Tryz.underlying3
  a3 := Tryz.isAgg3
  z3 := Tryz.sizeOf3
  v3 := Tryz.zeroValue3
  t4 := Tryz.underlying4
  a4 := Tryz.isAgg4
  z4 := Tryz.sizeOf4
  v4 := Tryz.zeroValue4
  t5 := Tryz.underlying5
  a5 := Tryz.isAgg5
  z5 := Tryz.sizeOf5
  v5 := Tryz.zeroValue5
  t9 := Tryz.underlying9
  a9 := Tryz.isAgg9
  z9 := Tryz.sizeOf9
  v9 := Tryz.zeroValue9
  t20 := Tryz.underlying20
  a20 := Tryz.isAgg20
  z20 := Tryz.sizeOf20
  v20 := Tryz.zeroValue20
  t37 := Tryz.underlying88
  a37 := Tryz.isAgg88
  z37 := Tryz.sizeOf88
  v37 := Tryz.zeroValue88
  t46 := Tryz.underlying135
  a46 := Tryz.isAgg135
  z46 := Tryz.sizeOf135
  v46 := Tryz.zeroValue135
  t51 := Tryz.underlying159
  a51 := Tryz.isAgg159
  z51 := Tryz.sizeOf159
  v51 := Tryz.zeroValue159
  t53 := Tryz.underlying132
  a53 := Tryz.isAgg132
  z53 := Tryz.sizeOf132
  v53 := Tryz.zeroValue132
  t171 := Tryz.underlying140
  a171 := Tryz.isAgg140
  z171 := Tryz.sizeOf140
  v171 := Tryz.zeroValue140
  t173 := Tryz.underlying143
  a173 := Tryz.isAgg143
  z173 := Tryz.sizeOf143
  v173 := Tryz.zeroValue143
  t212 := Tryz.underlying158
  a212 := Tryz.isAgg158
  z212 := Tryz.sizeOf158
  v212 := Tryz.zeroValue158
  t213 := Tryz.underlying160
  a213 := Tryz.isAgg160
  z213 := Tryz.sizeOf160
  t232 := Tryz.underlying164
  a232 := Tryz.isAgg164
  z232 := Tryz.sizeOf164
  v232 := Tryz.zeroValue164
  t233 := Tryz.underlying165
  a233 := Tryz.isAgg165
  z233 := Tryz.sizeOf165
  v233 := Tryz.zeroValue165
  g17 := by kernel_rfl
  g18 := by kernel_rfl
  g19 := by kernel_rfl
  i0 := by kernel_rfl
  i2 := by kernel_rfl
  i3 := by kernel_rfl
  i4 := by kernel_rfl
  i5 := by kernel_rfl
  i9 := by kernel_rfl
  i20 := by kernel_rfl
  i37 := by kernel_rfl
  i46 := by kernel_rfl
  i51 := by kernel_rfl
  i53 := by kernel_rfl
  i171 := by kernel_rfl
  i173 := by kernel_rfl
  i212 := by kernel_rfl
  i232 := by kernel_rfl
  i233 := by kernel_rfl
  m17 := by kernel_rfl
  m18 := by kernel_rfl
  m19 := by kernel_rfl }
open Go.RowKit Go.Sort Go.Lib in
theorem Tryz.strconv_Itoa (n : Int) (h0 : -9223372036854775808 ≤ n) (h1 : n ≤ 9223372036854775807) (w : World) (htab : Lib.TabIs Tryz.prog w "internal/strconv.uint64pow10" .u64 Lib.pow10Tab) :
    Calls Tryz.prog 63 #[.int .i64 n] w fun e w' => e = .returned (.string ⟨(Lib.itoa n).toArray⟩) ∧ ∃ k os, w' = grow (w.drewN k) os := Any.strconv_Itoa Tryz.laysM171 n h0 h1 w htab
def Tryz.laysC172_ren : Go.Shelf.Ren := ⟨fun | 172 => 56 | 244 => 81 | 245 => 82 | 247 => 99 | 279 => 100 | 280 => 101 | 281 => 102 | 282 => 103 | 287 => 114 | 316 => 115 | 171 => 63 | 205 => 116 | 321 => 125 | 322 => 126 | 243 => 91 | 246 => 109 | 283 => 120 | 284 => 121 | 285 => 122 | 286 => 123 | 129 => 132 | 317 => 131 | 318 => 133 | 319 => 134 | 320 => 135 | 337 => 137 | 338 => 138 | n => n, fun | 9 => 9 | 3 => 3 | 75 => 81 | 76 => 82 | 4 => 4 | 5 => 5 | 167 => 116 | 37 => 88 | 0 => 0 | 85 => 117 | 2 => 2 | 168 => 119 | 53 => 132 | 175 => 133 | 46 => 135 | 210 => 137 | 127 => 115 | 145 => 149 | 143 => 147 | 21 => 21 | 171 => 140 | 173 => 143 | 212 => 158 | 51 => 159 | 20 => 20 | 213 => 160 | 232 => 164 | 233 => 165 | 80 => 103 | n => n, fun | 15 => 0 | 16 => 1 | 17 => 5 | 18 => 6 | 19 => 7 | n => n⟩
theorem Tryz.laysC172 : Go.Proofs.LaysC.n172 Tryz.prog Tryz.laysC172_ren := {
  mixed := by kernel_rfl
  f129 := Tryz.func132.trans (congrArg some (by kernel_rfl))
  f171 := Tryz.func63.trans (congrArg some (by kernel_rfl))
  f172 := Tryz.func56.trans (congrArg some (by kernel_rfl))
  f205 := Tryz.func116.trans (congrArg some (by kernel_rfl))
  f243 := Tryz.func91.trans (congrArg some (by kernel_rfl))
  f244 := Tryz.func81.trans (congrArg some (by kernel_rfl))
  f245 := Tryz.func82.trans (congrArg some (by kernel_rfl))
  f246 := Tryz.func109.trans (congrArg some (by kernel_rfl))
  f247 := Tryz.func99.trans (congrArg some (by kernel_rfl))
  f279 := Tryz.func100.trans (congrArg some (by kernel_rfl))
  f280 := Tryz.func101.trans (congrArg some (by kernel_rfl))
  f281 := Tryz.func102.trans (congrArg some (by kernel_rfl))
  f282 := Tryz.func103.trans (congrArg some (by kernel_rfl))
  f283 := Tryz.func120.trans (congrArg some (by kernel_rfl))
  f284 := Tryz.func121.trans (congrArg some (by kernel_rfl))
  f285 := Tryz.func122.trans (congrArg some (by kernel_rfl))
  f286 := Tryz.func123.trans (congrArg some (by kernel_rfl))
  f287 := Tryz.func114.trans (congrArg some (by kernel_rfl))
  f316 := Tryz.func115.trans (congrArg some (by kernel_rfl))
  f317 := Tryz.func131.trans (congrArg some (by kernel_rfl))
  f318 := Tryz.func133.trans (congrArg some (by kernel_rfl))
  f319 := Tryz.func134.trans (congrArg some (by kernel_rfl))
  f320 := Tryz.func135.trans (congrArg some (by kernel_rfl))
  f321 := Tryz.func125.trans (congrArg some (by kernel_rfl))
  f322 := Tryz.func126.trans (congrArg some (by kernel_rfl))
  f337 := Tryz.func137.trans (congrArg some (by kernel_rfl))
  f338 := Tryz.func138.trans (congrArg some (by kernel_rfl))
  t0 := Tryz.underlying0
  a0 := Tryz.isAgg0
  z0 := Tryz.sizeOf0
  v0 := Tryz.zeroValue0
  t2 := Tryz.underlying2
  a2 := Tryz.isAgg2
  z2 := Tryz.sizeOf2
  v2 := Tryz.zeroValue2
  t3 := Tryz.underlying3
  a3 := Tryz.isAgg3
  z3 := Tryz.sizeOf3
  v3 := Tryz.zeroValue3
  t4 := Tryz.underlying4
  a4 := Tryz.isAgg4
  z4 := Tryz.sizeOf4
  v4 := Tryz.zeroValue4
  t5 := Tryz.underlying5
  a5 := Tryz.isAgg5
  z5 := Tryz.sizeOf5
  v5 := Tryz.zeroValue5
  t9 := Tryz.underlying9
  a9 := Tryz.isAgg9
  z9 := Tryz.sizeOf9
  v9 := Tryz.zeroValue9
  t20 := Tryz.underlying20
  a20 := Tryz.isAgg20
  z20 := Tryz.sizeOf20
  v20 := Tryz.zeroValue20
  t21 := Tryz.underlying21
  a21 := Tryz.isAgg21
  z21 := Tryz.sizeOf21
  v21 := Tryz.zeroValue21
  t37 := Tryz.underlying88
  a37 := Tryz.isAgg88
  z37 := Tryz.sizeOf88
  v37 := Tryz.zeroValue88
  t46 := Tryz.underlying135
  a46 := Tryz.isAgg135
  z46 := Tryz.sizeOf135
  v46 := Tryz.zeroValue135
  t51 := Tryz.underlying159
  a51 := Tryz.isAgg159
  z51 := Tryz.sizeOf159
  v51 := Tryz.zeroValue159
  t53 := Tryz.underlying132
  a53 := Tryz.isAgg132
  z53 := Tryz.sizeOf132
  v53 := Tryz.zeroValue132
  t75 := Tryz.underlying81
  a75 := Tryz.isAgg81
  z75 := Tryz.sizeOf81
  v75 := Tryz.zeroValue81
  t76 := Tryz.underlying82
  a76 := Tryz.isAgg82
  z76 := Tryz.sizeOf82
  v76 := Tryz.zeroValue82
  t85 := Tryz.underlying117
  a85 := Tryz.isAgg117
  z85 := Tryz.sizeOf117
  v85 := Tryz.zeroValue117
  t127 := Tryz.underlying115
  a127 := Tryz.isAgg115
  z127 := Tryz.sizeOf115
  v127 := Tryz.zeroValue115
  t143 := Tryz.underlying147
  a143 := Tryz.isAgg147
  z143 := Tryz.sizeOf147
  v143 := Tryz.zeroValue147
  t145 := Tryz.underlying149
  a145 := Tryz.isAgg149
  z145 := Tryz.sizeOf149
  v145 := Tryz.zeroValue149
  t167 := Tryz.underlying116
  a167 := Tryz.isAgg116
  z167 := Tryz.sizeOf116
  v167 := Tryz.zeroValue116
  t168 := Tryz.underlying119
  a168 := Tryz.isAgg119
  z168 := Tryz.sizeOf119
  v168 := Tryz.zeroValue119
  t171 := Tryz.underlying140
  a171 := Tryz.isAgg140
  z171 := Tryz.sizeOf140
  v171 := Tryz.zeroValue140
  t173 := Tryz.underlying143
  a173 := Tryz.isAgg143
  z173 := Tryz.sizeOf143
  v173 := Tryz.zeroValue143
  t175 := Tryz.underlying133
  a175 := Tryz.isAgg133
  z175 := Tryz.sizeOf133
  v175 := Tryz.zeroValue133
  t210 := Tryz.underlying137
  a210 := Tryz.isAgg137
  z210 := Tryz.sizeOf137
  v210 := Tryz.zeroValue137
  t212 := Tryz.underlying158
  a212 := Tryz.isAgg158
  z212 := Tryz.sizeOf158
  v212 := Tryz.zeroValue158
  t213 := Tryz.underlying160
  a213 := Tryz.isAgg160
  z213 := Tryz.sizeOf160
  t232 := Tryz.underlying164
  a232 := Tryz.isAgg164
  z232 := Tryz.sizeOf164
  v232 := Tryz.zeroValue164
  t233 := Tryz.underlying165
  a233 := Tryz.isAgg165
  z233 := Tryz.sizeOf165
  v233 := Tryz.zeroValue165
  g15 := by kernel_rfl
  g16 := by kernel_rfl
  g17 := by kernel_rfl
  g18 := by kernel_rfl
  g19 := by kernel_rfl
  t80 := Tryz.underlying103
  a80 := Tryz.isAgg103
  z80 := Tryz.sizeOf103
  v80 := Tryz.zeroValue103
  i0 := by kernel_rfl
  i2 := by kernel_rfl
  i3 := by kernel_rfl
  i4 := by kernel_rfl
  i5 := by kernel_rfl
  i9 := by kernel_rfl
  i20 := by kernel_rfl
  i21 := by kernel_rfl
  i37 := by kernel_rfl
  i46 := by kernel_rfl
  i51 := by kernel_rfl
  i53 := by kernel_rfl
  i75 := by kernel_rfl
  i76 := by kernel_rfl
  i80 := by kernel_rfl
  i85 := by kernel_rfl
  i127 := by kernel_rfl
  i143 := by kernel_rfl
  i145 := by kernel_rfl
  i167 := by kernel_rfl
  i168 := by kernel_rfl
  i171 := by kernel_rfl
  i173 := by kernel_rfl
  i175 := by kernel_rfl
  i210 := by kernel_rfl
  i212 := by kernel_rfl
  i232 := by kernel_rfl
  i233 := by kernel_rfl
  m15 := by kernel_rfl
  m16 := by kernel_rfl
  m17 := by kernel_rfl
  m18 := by kernel_rfl
  m19 := by kernel_rfl
  c0 := by kernel_rfl
  c2 := by kernel_rfl
  c3 := by kernel_rfl
  c4 := by kernel_rfl
  c5 := by kernel_rfl
  c9 := by kernel_rfl
  c20 := by kernel_rfl
  c21 := by kernel_rfl
  c37 := by kernel_rfl
  c46 := by kernel_rfl
  c51 := by kernel_rfl
  c53 := by kernel_rfl
  c75 := by kernel_rfl
  c76 := by kernel_rfl
  c80 := by kernel_rfl
  c85 := by kernel_rfl
  c127 := by kernel_rfl
  c143 := by kernel_rfl
  c145 := by kernel_rfl
  c167 := by kernel_rfl
  c168 := by kernel_rfl
  c171 := by kernel_rfl
  c173 := by kernel_rfl
  c175 := by kernel_rfl
  c210 := by kernel_rfl
  c212 := by kernel_rfl
  c213 := by kernel_rfl
  c232 := by kernel_rfl
  c233 := by kernel_rfl }
open Go.RowKit in
theorem Tryz.strconv_Atoi_ok (s : ByteArray) (hmax : s.size ≤ 9223372036854775806) (v : Int) (h : Lib.atoiAll s.data.toList = .ok v) (w : World) :
    Calls Tryz.prog 56 #[.string s] w fun e w' => e = .returned (.tuple #[.int .i64 v, .nilIface]) ∧ (w' = w ∨ ∃ t, w' = Lib.bytesWorld w 5 t) := Any.strconv_Atoi_ok Tryz.laysC172 s hmax v h w
def Tryz.lays101_ren : Go.Shelf.Ren := ⟨fun | 101 => 61 | 208 => 83 | 206 => 104 | n => n, fun | 9 => 9 | 4 => 4 | 3 => 3 | n => n, fun | n => n⟩
theorem Tryz.lays101 : Go.Proofs.Lays.n101 Tryz.prog Tryz.lays101_ren := {
  mixed := by kernel_rfl
  f101 := Tryz.func61.trans (congrArg some (by kernel_rfl))
  f206 := Tryz.func104.trans (congrArg some (by kernel_rfl))
  f208 := Tryz.func83.trans (congrArg some (by kernel_rfl))
  t3 := Tryz.underlying3
  a3 := Tryz.isAgg3
  z3 := Tryz.sizeOf3
  v3 := Tryz.zeroValue3
  t4 := Tryz.underlying4
  a4 := Tryz.isAgg4
  z4 := Tryz.sizeOf4
  v4 := Tryz.zeroValue4
  t9 := Tryz.underlying9
  a9 := Tryz.isAgg9
  z9 := Tryz.sizeOf9
  v9 := Tryz.zeroValue9 }
open Go.RowKit Go.Lib in
theorem Tryz.strings_TrimPrefix (s p : ByteArray) (w : World) :
    Calls Tryz.prog 61 #[.string s, .string p] w fun e w' => e = .returned (.string ⟨(Lib.trimPrefix s.data.toList p.data.toList).toArray⟩) ∧ w' = w := Any.strings_TrimPrefix Tryz.lays101 s p w
end Go.Proofs
set_option linter.unusedVariables false
namespace Go.Proofs.YtpkfnclbcmnckaaGreatDoor.Mem
open Go Go.RowKit Go.Proofs.YtpkfnclbcmnckaaGreatDoor.Dec Go.Proofs.YtpkfnclbcmnckaaGreatDoor.Wid
theorem bytesWorld_below (w : World) (e : TypeId) (s : ByteArray) : Below w.heap.size w (Lib.bytesWorld w e s) :=
  ⟨rfl, rfl, rfl, by simp [Lib.bytesWorld, World.freeze, World.alloc, World.drew, -World.alloc_eq, -World.drew_eq], fun k hk => Lib.bytesWorld_at_old w e s k hk⟩
/-- Digits, read by the library. -/
theorem parse_digits (l : List UInt8) (acc : Nat) (hd : ∀ c ∈ l, isDig c = true) (hb : acc * 10 ^ l.length + 10 ^ l.length ≤ 1000000000000000000) : Lib.parseUint10 acc l = .ok (acc * 10 ^ l.length + val l) := by
  induction l generalizing acc with
  | nil => simp [Lib.parseUint10]
  | cons c r ih =>
    have hc := (isDig_iff c).1 (hd c (by simp))
    have hp : 1 ≤ 10 ^ r.length := Nat.one_le_pow _ _ (by decide)
    rw [List.length_cons, Nat.pow_succ] at hb
    have ha : acc * (10 ^ r.length * 10) = acc * 10 * 10 ^ r.length := by rw [Nat.mul_comm (10 ^ r.length) 10, Nat.mul_assoc]
    have hacc : acc * 10 * 1 ≤ acc * 10 * 10 ^ r.length := Nat.mul_le_mul_left _ hp
    rw [ha] at hb
    have hle : (acc * 10 + (c.toNat - 48)) * 10 ^ r.length + 10 ^ r.length ≤ 1000000000000000000 := by
      have h9 : (c.toNat - 48) * 10 ^ r.length ≤ 9 * 10 ^ r.length := Nat.mul_le_mul_right _ (by omega)
      rw [Nat.add_mul]
      omega
    have hr := ih (acc * 10 + (c.toNat - 48)) (fun x hx => hd x (by simp [hx])) hle
    have h1 : (acc * 10 + (c.toNat - 48)) * 1 ≤ (acc * 10 + (c.toNat - 48)) * 10 ^ r.length := Nat.mul_le_mul_left _ hp
    rw [Lib.parseUint10, if_pos hc, if_neg (by omega), if_neg (by omega), hr, val_cons, List.length_cons, Nat.pow_succ, ha, Nat.add_mul]
    congr 1
    omega
theorem atoiAll_digits (l : List UInt8) (h0 : l ≠ []) (hd : ∀ c ∈ l, isDig c = true) (hl : l.length ≤ 18) : Lib.atoiAll l = .ok (val l : Int) := by
  cases l with
  | nil => exact absurd rfl h0
  | cons c r =>
    have hc := (isDig_iff c).1 (hd c (by simp))
    have hp : 10 ^ (c :: r).length ≤ 1000000000000000000 := Nat.le_trans (Nat.pow_le_pow_right (by decide) hl) (by decide)
    have hv := val_lt (c :: r) hd
    have hm : Lib.parseMag (c :: r) = .ok (val (c :: r)) := by
      rw [Lib.parseMag, if_neg (by simp), parse_digits _ _ hd (by omega)]
      simp
    unfold Lib.atoiAll
    simp only
    rw [if_neg (by omega), hm]
    simp only
    rw [if_neg (by omega), if_neg (by omega), if_neg (by omega)]
theorem atoiAll_neg (l : List UInt8) (h0 : l ≠ []) (hd : ∀ c ∈ l, isDig c = true) (hl : l.length ≤ 18) : Lib.atoiAll (45 :: l) = .ok (-(val l : Int)) := by
  have hp : 10 ^ l.length ≤ 1000000000000000000 := Nat.le_trans (Nat.pow_le_pow_right (by decide) hl) (by decide)
  have hv := val_lt l hd
  have hm : Lib.parseMag l = .ok (val l) := by
    rw [Lib.parseMag, if_neg h0, parse_digits _ _ hd (by omega)]
    simp
  unfold Lib.atoiAll
  have e : (45 : UInt8).toNat = 45 := rfl
  simp only [e]
  rw [if_pos (Or.inr trivial), hm]
  simp only
  rw [if_neg (by simp), if_neg (by omega)]
  simp
theorem atoi_ok (s : ByteArray) (v : Int) (hs : s.size ≤ 9223372036854775806) (h : Lib.atoiAll s.data.toList = .ok v) (w : World) :
    Calls Tryz.prog 56 #[.string s] w fun e w' => e = .returned (.tuple #[.int .i64 v, .nilIface]) ∧ Below w.heap.size w w' :=
  (Tryz.strconv_Atoi_ok s hs v h w).mono fun _ _ ⟨he, hw⟩ => ⟨he, by
    rcases hw with rfl | ⟨t, rfl⟩
    · exact Below.refl _ _
    · exact bytesWorld_below _ _ _⟩
theorem size_list (s : ByteArray) : s.size = s.data.toList.length := Lib.size_eq s
/-- Is it a row of 1 to 18 digits? -/
def DigS (s : ByteArray) : Prop := s.data.toList ≠ [] ∧ (∀ c ∈ s.data.toList, isDig c = true) ∧ s.data.toList.length ≤ 18
theorem atoi_dig (s : ByteArray) (h : DigS s) (w : World) :
    Calls Tryz.prog 56 #[.string s] w fun e w' => e = .returned (.tuple #[.int .i64 (val s.data.toList), .nilIface]) ∧ Below w.heap.size w w' :=
  atoi_ok s _ (by rw [size_list]; have := h.2.2; omega) (atoiAll_digits _ h.1 h.2.1 h.2.2) w
theorem trim_minus (s : ByteArray) : Lib.trimPrefix s.data.toList [45] = mag s.data.toList := by
  unfold Lib.trimPrefix mag Lib.hasPrefix
  cases s.data.toList with
  | nil => rfl
  | cons c l =>
    by_cases h : c = 45
    · subst h; simp
    · have : ¬ (45 = c) := fun e => h e.symm
      simp [h, this]
/-- Without the minus sign. -/
def magS (s : ByteArray) : ByteArray := ⟨(mag s.data.toList).toArray⟩
theorem trim_any (s : ByteArray) (w : World) : Calls Tryz.prog 61 #[.string s, .string ⟨#[45]⟩] w fun e w' => e = .returned (.string (magS s)) ∧ w' = w :=
  (Tryz.strings_TrimPrefix s ⟨#[45]⟩ w).mono fun _ _ ⟨he, hw⟩ => ⟨by rw [he, magS, ← trim_minus], hw⟩
/-- The table that the library's writer of numbers reads. -/
def Tab (w : World) : Prop := Lib.TabIs Tryz.prog w "internal/strconv.uint64pow10" .u64 Lib.pow10Tab
end Go.Proofs.YtpkfnclbcmnckaaGreatDoor.Mem
set_option linter.unusedVariables false
namespace Go.Proofs.YtpkfnclbcmnckaaGreatDoor.Mem
open Go Go.RowKit Go.Proofs.YtpkfnclbcmnckaaGreatDoor.Dec Go.Proofs.YtpkfnclbcmnckaaGreatDoor.Wid
theorem zero_wide (x : Bool) : Tryz.zeroCells73.setIfInBounds 0 (.bool x) = wcell x 0 (List.replicate 232 0) := by
  cases x <;> kernel_rfl
theorem isX_new (w : World) (x : Bool) : IsX (w.alloc (.cells (Tryz.zeroCells73.setIfInBounds 0 (.bool x)) 73)) w.heap.size x 0 (List.replicate 232 0) :=
  ⟨List.length_replicate, by rw [zero_wide]; simp [World.alloc, -World.alloc_eq]⟩
theorem chunk_ok (l : List UInt8) (t : ByteArray) (f : Nat) (ht : t.data.toList = l.take t.size) (hf : f ≤ t.size) (h9 : t.size ≤ f + 9) (h0 : 0 < t.size) (hlt : f < t.size) (hd : ∀ c ∈ l, isDig c = true) :
    DigS (t.extract f t.size) ∧ (t.extract f t.size).data.toList = (l.take t.size).drop f := by
  have e : (t.extract f t.size).data.toList = (l.take t.size).drop f := by
    rw [Lib.extract_data, List.take_of_length_le (by rw [List.length_drop, ← size_list]; exact Nat.le_refl _), ← ht]
  have hlen : (l.take t.size).length = t.size := by rw [← ht, ← size_list]
  refine ⟨⟨?_, ?_, ?_⟩, e⟩
  · rw [e]; intro h; have := congrArg List.length h; rw [List.length_drop, hlen] at this; simp at this; omega
  · rw [e]; intro c hc; exact hd c (List.mem_of_mem_take (List.mem_of_mem_drop hc))
  · rw [e, List.length_drop, hlen]; omega
theorem front_ok (l : List UInt8) (t : ByteArray) (f : Nat) (ht : t.data.toList = l.take t.size) (hf : f ≤ t.size) : (t.extract 0 f).size = f ∧ (t.extract 0 f).data.toList = l.take f := by
  have e : (t.extract 0 f).data.toList = l.take f := by
    rw [Lib.extract_data, ht, List.drop_zero, Nat.sub_zero, List.take_take, Nat.min_eq_left hf]
  refine ⟨?_, e⟩
  have h1 : t.size ≤ l.length := by
    have := congrArg List.length ht
    rw [← size_list, List.length_take] at this
    omega
  rw [size_list, e, List.length_take]
  omega
theorem head_byte (s : ByteArray) (h : 0 < s.size) : s.data.toList.head? = some (s[0]'h) := by
  obtain ⟨⟨l⟩⟩ := s
  cases l with
  | nil => simp [ByteArray.size] at h
  | cons c l => rfl
theorem sign_of_canon (s : ByteArray) (hs : canon s.data.toList) (h : 0 < s.size) {x : Bool} (hx : (((s[0]'h).toNat : Int) == 45) = x) : decide (iv s < 0) = x := by
  subst hx
  have hb := head_byte s h
  unfold iv ival
  rw [hb]
  by_cases e : s[0]'h = 45
  · have hp := canonN_pos hs.1 (hs.2 (by rw [hb, e]))
    rw [if_pos (by rw [e]), e]
    have : -(val (mag s.data.toList) : Int) < 0 := by omega
    rw [decide_eq_true this]; decide
  · have e2 : ¬ ((s[0]'h).toNat : Int) = 45 := fun e3 => e (u8_toNat (by show _ = 45; omega))
    rw [if_neg (by simpa using e)]
    have : ¬ ((val (mag s.data.toList) : Int) < 0) := by omega
    rw [decide_eq_false this]; exact (beq_eq_false_iff_ne.2 e2).symm
theorem abs_of_canon (s : ByteArray) (l : List UInt8) (h : mag s.data.toList = l) : (iv s).natAbs = val l := by
  rw [← h]; exact ival_abs _
theorem grown_below {w w' : World} {b B : Nat} (hb : B ≤ b) (hg : w.grownBy w' (some b)) (hB : B ≤ w.heap.size) : Below B w w' :=
  (Below.refl B w).grown hg hB (fun k hk => by cases hk; exact hb)
set_option maxRecDepth 100000 in
set_option maxHeartbeats 1000000 in
theorem read_any (s : ByteArray) (w : World) (hs : canon s.data.toList) (hl : s.size ≤ 2000) :
    Calls Tryz.prog 42 #[.string s] w fun e w' => ∃ b, e = .returned (.pointer (some ⟨b, 0, none⟩)) ∧ w.heap.size ≤ b ∧ IsW w' b (decide (iv s < 0)) (iv s).natAbs ∧ Below w.heap.size w w' := by
  have h1 : 0 < s.size := by
    rw [size_list]
    have := mag_le s.data.toList
    have := List.length_pos_iff.2 hs.1.1
    omega
  obtain ⟨x, hx⟩ : ∃ x : Bool, (((s[0]'h1).toNat : Int) == 45) = x := ⟨_, rfl⟩
  have HX0 := isX_new w x
  have HB0 : Below w.heap.size w (w.alloc (.cells (Tryz.zeroCells73.setIfInBounds 0 (.bool x)) 73)) := (Below.refl _ _).alloc (Nat.le_refl _) _
  have hms : (magS s).data.toList = mag s.data.toList := rfl
  have hml : (magS s).size ≤ 2000 := by rw [size_list, hms]; have := mag_le s.data.toList; rw [size_list] at hl; omega
  have hmd : Hid (∀ c ∈ mag s.data.toList, isDig c = true) := hs.1.2.1
  have hmm : Hid ((magS s).data.toList = mag s.data.toList) := rfl
  clear hms
  obtain ⟨l, hlst⟩ : ∃ l, mag s.data.toList = l := ⟨_, rfl⟩
  rw [hlst] at hmd hmm
  have HL := Hid.mk' hlst
  have HS := Hid.mk' hs
  clear hlst hs
  go_enter Tryz.func42, Tryz.ntmps42
  go_wp2_with fail
  refine (trim_any s _).mono ?_
  rintro e w' ⟨rfl, rfl⟩
  have hxc : Hid _ := hx
  clear hx
  obtain ⟨t0, ht0⟩ : ∃ t, magS s = t := ⟨_, rfl⟩
  rw [ht0] at hml hmm ⊢
  clear ht0
  have hl0 : Hid (l.length = t0.size) := by show _ = _; rw [size_list, hmm.out]
  obtain ⟨W0, hW0⟩ : ∃ W0, w.alloc (.cells (Tryz.zeroCells73.setIfInBounds 0 (.bool x)) 73) = W0 := ⟨_, rfl⟩
  rw [hW0] at HX0 HB0 ⊢
  clear hW0
  obtain ⟨b, hb⟩ : ∃ b, w.heap.size = b := ⟨_, rfl⟩
  go_wp2_with fail
  rw [hb] at HX0 HB0
  have HBE : Hid (w.heap.size = b) := hb
  clear hb
  go_loopg [3] (t0.size + 1) (fun g s3 wr => ∃ (n : Nat) (ws : List Int) (t : ByteArray), s3 = .string t ∧ t.size + 1 ≤ g ∧ t.size ≤ 2000 ∧ Hid (t.data.toList = l.take t.size) ∧ IsX wr b x n ws ∧ Below b w wr ∧ Hid (n + 0 ≤ 232) ∧ Hid (RInv l t.size n ws))
  case atStart => exact ⟨0, List.replicate 232 0, t0, rfl, Nat.le_refl _, hml, hmm.out.trans (by rw [← hl0.out, List.take_length]), HX0, HB0, (by show _ ≤ _; omega), by show RInv _ _ _ _; rw [← hl0.out]; exact RInv.start l⟩
  case round =>
    obtain ⟨n, ws, t, rfl, hg, h2000, htl, hm, hB, HN, HR⟩ := hrel
    rcases Nat.eq_zero_or_pos t.size with h0 | h0
    · have g0 : ¬ (0 : Int) < (t.size : Int) := by omega
      have H := Hid.mk' hm
      have HB := Hid.mk' hB
      have HR2 : Hid (RInv l 0 n ws) := by show RInv _ _ _ _; rw [← h0]; exact HR.out
      clear hm hB HR h0
      obtain ⟨e1, e2⟩ := HR2.out.end (by have := hl0.out; omega)
      have hn : n ≤ 232 ∨ True := .inr trivial
      have H2 : Hid (IsX wr b x n (W (val l))) := by show IsX _ _ _ _ _; rw [← e1]; exact H.out
      have hn2 : n ≤ 232 := by have := HN.out; omega
      clear e1
      go_wp2_with fail
      refine (trimmed_any b x n (val l) _ H2.out e2 hn2).mono ?_
      rintro e w' ⟨rfl, hw, hg2⟩
      go_wp2_with fail
      go_ret
      exact ⟨b, rfl, Nat.le_of_eq HBE.out, by rw [sign_of_canon s HS.out h1 hxc.out, abs_of_canon s l HL.out]; exact hw, by rw [HBE.out]; exact Below.trans HB.out (grown_below (Nat.le_refl _) hg2 (by have := HB.out.size; have := HBE.out; omega))⟩
    · have g0 : (0 : Int) < (t.size : Int) := by omega
      obtain ⟨HR2, hn⟩ := HR.out.round (by have := hl0.out; omega) hmd.out h0
      have c1 := hm.cell1
      have f1 := hm.free 1
      have cw := hm.cellw n hn
      have fw := hm.free (2 + n)
      have hbs := hm.size
      have H := Hid.mk' hm
      have HB := Hid.mk' hB
      have R2 := Hid.mk' HR2
      obtain ⟨f, hf⟩ : ∃ f, t.size - 9 = f := ⟨_, rfl⟩
      have hmx : max 0 ((t.size : Int) - 9) = (f : Int) := by omega
      have hf1 : f ≤ t.size := by omega
      have hft : Hid (t.size ≤ f + 9) := by show _ ≤ _; omega
      have hch : Hid (DigS (t.extract f t.size) ∧ (t.extract f t.size).data.toList = (l.take t.size).drop f) := chunk_ok l t f htl.out hf1 hft.out h0 (by omega) hmd.out
      rw [hf] at R2
      have hne : (⟨b, 2 + n, none⟩ : Addr) ≠ ⟨b, 1, none⟩ := by intro e; simp only [Addr.mk.injEq, and_true] at e; omega
      have hn0 : (0 : Int) ≤ (n : Int) := by omega
      have hn1 : (n : Int) < 232 := by omega
      have hlt : Hid (f < t.size) := by show _ < _; omega
      clear hm hB HR HR2 hf
      go_wp2_with fail
      go_region_held3 (fun w' => w'.cell? ⟨b, 1, none⟩ = some (.int .i64 (n : Int))) (first | go_keep | (rw [World.cell?_setCell_other _ _ _ _ hne]; assumption)) (first | (go_at_call 56; refine (atoi_dig _ hch.out.1 _).mono ?_; rintro e w1 ⟨rfl, hb1⟩; have k1 : w1.cell? ⟨b, 1, none⟩ = some (.int .i64 (n : Int)) := (hb1.cell (p := ⟨b, 1, none⟩) hbs).trans c1; have k2 : w1.cell? ⟨b, 2 + n, none⟩ = some (.int .i64 (ws.getD n 0)) := (hb1.cell (p := ⟨b, 2 + n, none⟩) hbs).trans cw; have k3 : w1.frozen? ⟨b, 2 + n, none⟩ = false := (hb1.frozen (p := ⟨b, 2 + n, none⟩) hbs).trans fw; have k4 : w1.frozen? ⟨b, 1, none⟩ = false := (hb1.frozen (p := ⟨b, 1, none⟩) hbs).trans f1; have k5 := Hid.mk' (IsX.below (IsX.drew1 H.out) hb1 hbs); have k6 := Hid.mk' (Below.trans (Below.drew HB.out) (Below.mono hb1 (Nat.le_of_lt hbs))); clear hb1))
      have hv : val (List.take (t.size - f) (List.drop f t.data.toList)) = val ((l.take t.size).drop f) := by rw [← hch.out.2, Lib.extract_data]
      obtain ⟨z, hz⟩ : ∃ z, val (List.take (t.size - f) (List.drop f t.data.toList)) = z := ⟨_, rfl⟩
      have k7 : (w1.setCell ⟨b, 2 + n, none⟩ (.int .i64 (z : Int))).frozen? ⟨b, 1, none⟩ = false := (k5.out.setw n z).free 1
      have k8 := Hid.mk' ((k5.out.setw n z).set1 (n + 1))
      have k9 : (w1.setCell ⟨b, 2 + n, none⟩ (.int .i64 (z : Int))).cell? ⟨b, 1, none⟩ = some (.int .i64 (n : Int)) := (k5.out.setw n z).cell1
      have hsz := Hid.mk' (front_ok l t f htl.out hf1)
      rw [← hv, hz] at R2
      rw [hz]
      clear hv hz c1 cw fw f1 k1 k2 k3 k4
      go_wp2_with fail
      go_roundg (f + 1)
      case measure => have := hlt.out; omega
      case rel => exact ⟨n + 1, ws.set n z, t.extract 0 f, rfl, by rw [hsz.out.1]; exact Nat.le_refl _, by rw [hsz.out.1]; omega, by show _ = _; rw [hsz.out.1]; exact hsz.out.2, k8.out, ((Below.setCell k6.out (Nat.le_refl _) _).setCell (Nat.le_refl _) _), by show _ ≤ _; omega, by show RInv _ _ _ _; rw [hsz.out.1]; exact R2.out⟩
end Go.Proofs.YtpkfnclbcmnckaaGreatDoor.Mem
set_option linter.unusedVariables false
namespace Go.Proofs.YtpkfnclbcmnckaaGreatDoor.Mem
open Go Go.RowKit Go.Proofs.YtpkfnclbcmnckaaGreatDoor.Dec Go.Proofs.YtpkfnclbcmnckaaGreatDoor.Wid
/-- The signed number of a sign and a magnitude. -/
def sv (l : Bool) (v : Nat) : Int := if l then -(v : Int) else v
theorem info_wide : (Tryz.prog.info? 73).map (·.size) = some 234 := by kernel_rfl
theorem wcell_size (l : Bool) (n : Nat) (ws : List Int) (h : ws.length = 232) : (wcell l n ws).size = 234 := by simp [wcell, h]
theorem wcell_one (l : Bool) (n : Nat) (ws : List Int) : (wcell l n ws).all (·.oneCell') = true := by
  rw [Array.all_eq_true_iff_forall_mem]
  intro x hx
  simp only [wcell, List.mem_toArray, List.mem_cons, List.mem_map] at hx
  rcases hx with rfl | rfl | ⟨y, _, rfl⟩ <;> rfl
theorem setRow_heap (w : World) (g : Nat) (c : Array Value) {old : Array Value} {t : TypeId} {f : Nat × Nat} (h : w.heap[g]? = some (.cells old t f)) : (w.setRow g c).heap[g]? = some (.cells c t f) := by
  simp [World.setRow, Array.getElem?_modify, h]
theorem setRow_other (w : World) (g : Nat) (c : Array Value) (k : Nat) (h : k ≠ g) : (w.setRow g c).heap[k]? = w.heap[k]? := by
  simp only [World.setRow, Array.getElem?_modify]
  rw [if_neg (fun e => h e.symm)]
theorem setRow_size (w : World) (g : Nat) (c : Array Value) : (w.setRow g c).heap.size = w.heap.size := by simp [World.setRow]
theorem isX_alloc_new (w : World) (l : Bool) (n : Nat) (ws : List Int) (h : ws.length = 232) : IsX (w.alloc (.cells (wcell l n ws) 73)) w.heap.size l n ws :=
  ⟨h, by simp [World.alloc, -World.alloc_eq]⟩
theorem IsX.setRow {w : World} {b : Nat} {l l2 : Bool} {n n2 : Nat} {ws ws2 : List Int} (h : IsX w b l n ws) (h2 : ws2.length = 232) : IsX (w.setRow b (wcell l2 n2 ws2)) b l2 n2 ws2 :=
  ⟨h2, setRow_heap w b _ h.2⟩
theorem grown_setRow {w w1 : World} {b : Nat} (h : w.grownBy w1 (some b)) (c : Array Value) : w.grownBy (w1.setRow b c) (some b) :=
  ⟨h.os, h.tape, h.output, by rw [setRow_size]; exact h.size, fun k hk hr => by rw [setRow_other _ _ _ _ (fun e => hr (by rw [e]))]; exact h.block k hk hr⟩
theorem grown_alloc {w w1 : World} {row : Option Nat} (h : w.grownBy w1 row) (o : Obj) : w.grownBy (w1.alloc o) row :=
  ⟨h.os, h.tape, h.output, by have := h.size; simp; omega, fun k hk hr => by rw [Below.heap_alloc w1 o k (Nat.lt_of_lt_of_le hk h.size)]; exact h.block k hk hr⟩
/-- A block that was made later is written: nothing that was there. -/
theorem grown_new {w w1 w2 : World} {row : Option Nat} {c : Nat} (h : w.grownBy w1 row) (hc : w.heap.size ≤ c) (h2 : w1.grownBy w2 (some c)) : w.grownBy w2 row :=
  ⟨h2.os.trans h.os, h2.tape.trans h.tape, h2.output.trans h.output, Nat.le_trans h.size h2.size, fun k hk hr => (h2.block k (Nat.lt_of_lt_of_le hk h.size) (by simp; omega)).trans (h.block k hk hr)⟩
theorem fits_le {a b : Nat} (h : Fits b) (hab : a ≤ b) : Fits a := Nat.lt_of_le_of_lt hab h
theorem up0 (vx vy : Nat) (f : Int) (v : Nat) (h : (v : Int) = vx + f * vy) : (v : Int) = vx + f * vy * (B : Int) ^ 0 := by rw [Int.pow_zero, Int.mul_one]; exact h
/-- What 'plus' leaves. -/
def PlusPost (b : Nat) (lx : Bool) (vx : Nat) (ly : Bool) (vy : Nat) (w : World) (e : Ending) (w' : World) : Prop :=
  e = .returned (.tuple #[]) ∧ (∃ l v, IsW w' b l v ∧ sv l v = sv lx vx + sv ly vy ∧ v ≤ vx + vy) ∧ w.grownBy w' (some b)
theorem PlusPost.mk {b : Nat} {lx : Bool} {vx : Nat} {ly : Bool} {vy : Nat} {w : World} {e : Ending} {w' : World} (l : Bool) (v : Nat) (he : e = .returned (.tuple #[])) (hw : IsW w' b l v) (hs : sv l v = sv lx vx + sv ly vy) (hv : v ≤ vx + vy) (hg : w.grownBy w' (some b)) : PlusPost b lx vx ly vy w e w' :=
  ⟨he, ⟨l, v, hw, hs, hv⟩, hg⟩
theorem sv_same (l : Bool) (a b : Nat) : sv l (a + b) = sv l a + sv l b := by unfold sv; cases l <;> simp <;> omega
theorem sv_lt {lx ly : Bool} {a b : Nat} (h : ¬ lx = ly) (hl : a ≤ b) : sv ly (b - a) = sv lx a + sv ly b := by unfold sv; cases lx <;> cases ly <;> simp_all <;> omega
theorem sv_ge {lx ly : Bool} {a b : Nat} (h : ¬ lx = ly) (hl : b ≤ a) : sv lx (a - b) = sv lx a + sv ly b := by unfold sv; cases lx <;> cases ly <;> simp_all <;> omega
set_option maxRecDepth 100000 in
set_option maxHeartbeats 2000000 in
theorem plus_any (b c : Nat) (hne : b ≠ c) (lx ly : Bool) (vx vy : Nat) (w : World) (hx : IsW w b lx vx) (hy : IsW w c ly vy) (fx : Fits vx) (fy : Fits vy) (fs : Fits (vx + vy)) :
    Calls Tryz.prog 74 #[.pointer (some ⟨b, 0, none⟩), .pointer (some ⟨c, 0, none⟩)] w (PlusPost b lx vx ly vy w) := by
  have c0 := hx.cell0
  have d0 := hy.cell0
  have hup : 0 + nw vy ≤ 232 := by have := nw_le_of_fits fy; omega
  have hup2 : 0 + nw vx ≤ 232 := by have := nw_le_of_fits fx; omega
  have HX := Hid.mk' hx
  have HY := Hid.mk' hy
  have HN := Hid.mk' hne
  clear hx hy hne
  by_cases hl : lx = ly
  · subst hl
    go_enter Tryz.func74, Tryz.ntmps74
    go_wp2_with fail
    go_quiet (fail)
    go_wp2_with fail
    refine (carry_any b c HN.out lx lx vx vy 1 0 _ (HX.out.drew _) (HY.out.drew _) fx fy hup (by decide) (by decide) (vx + vy) (up0 _ _ _ _ (by omega)) fs).mono ?_
    rintro e w' ⟨rfl, hw, hg⟩
    go_wp2_with fail
    refine bodyPost_ret (results_none rfl _ _ _) rfl ?_
    exact PlusPost.mk lx (vx + vy) rfl hw (sv_same _ _ _) (Nat.le_refl _) (grown_trans (grown_drewN (grown_refl _ _) _) hg)
  · have gl : (lx == ly) = false := beq_eq_false_iff_ne.2 hl
    have HL := Hid.mk' hl
    clear hl
    rcases Nat.lt_or_ge vx vy with hlt | hge
    · have HC : Hid (cmpW vx vy < 0) := by
        show _ < _
        have := (cmpW_nonneg vx vy)
        have : ¬ (0 ≤ cmpW vx vy) := fun h => by have := this.1 h; omega
        omega
      obtain ⟨r, hr⟩ : ∃ r, cmpW vx vy = r := ⟨_, rfl⟩
      rw [hr] at HC
      have gr : r < 0 := HC.out
      go_enter Tryz.func74, Tryz.ntmps74
      go_wp2_with fail
      go_quiet (fail)
      go_wp2_with fail
      refine (beyond_any b c lx ly vx vy _ (HX.out.drew _) (HY.out.drew _) fx fy).mono ?_
      rintro e w' ⟨rfl, k, rfl⟩
      rw [hr]
      clear hr
      generalize hW : (w.drewN _).drewN _ = W1
      have X1 : Hid (IsX W1 b lx (nw vx) (W vx)) := by rw [← hW]; exact HX.out
      have Y1 : Hid (IsX W1 c ly (nw vy) (W vy)) := by rw [← hW]; exact HY.out
      have G1 : Hid (w.grownBy W1 (some b)) := by rw [← hW]; exact grown_drewN (grown_drewN (grown_refl _ _) _) _
      clear hW c0 d0 gl
      go_wp2_with (first | (refine wpList_load_row rfl 73 _ rfl c rfl 73 (wcell ly (nw vy) (W vy)) (0, 0) _ Y1.out.2 Tryz.underlying73 rfl (by rw [wcell_size _ _ _ (W_length _)]; exact info_wide) ?_) | (refine wpList_store_row rfl 73 _ _ rfl W1.heap.size (wcell ly (nw vy) (W vy)) rfl rfl 73 Tryz.zeroCells73 (heap_alloc_last _ _) (by rw [wcell_size _ _ _ (W_length _)]; exact info_wide) (by rw [wcell_size _ _ _ (W_length _)]; kernel_rfl) (wcell_one _ _ _) ?_))
      rw [World.setRow_alloc_new]
      obtain ⟨z, hz⟩ : ∃ z, W1.heap.size = z := ⟨_, rfl⟩
      have hbz : b < W1.heap.size := X1.out.size
      have hwz : w.heap.size ≤ W1.heap.size := G1.out.size
      have Z2 := isX_alloc_new W1 ly (nw vy) (W vy) (W_length _)
      have X2 := X1.out.alloc (.cells (wcell ly (nw vy) (W vy)) 73)
      have G2 := grown_alloc G1.out (.cells (wcell ly (nw vy) (W vy)) 73)
      rw [hz] at Z2 hbz hwz ⊢
      refine (carry_any z b (by omega) ly lx vy vx (-1) 0 _ Z2 X2 fy fx hup2 (by decide) (by decide) (vy - vx) (up0 _ _ _ _ (by omega)) (fits_le fy (by omega))).mono ?_
      rintro e w3 ⟨rfl, hw, hg⟩
      have X3 : Hid (IsX w3 b lx (nw vx) (W vx)) := X2.grown hg (by simp; omega)
      have Z3 := Hid.mk' hw
      have G3 : Hid (w.grownBy w3 (some b)) := grown_new G2 hwz hg
      clear hw hg Z2 X2 G2 X1 Y1 G1 hz
      go_wp2_with (first | (refine wpList_load_row rfl 73 _ rfl z rfl 73 (wcell ly (nw (vy - vx)) (W (vy - vx))) (0, 0) _ Z3.out.2 Tryz.underlying73 rfl (by rw [wcell_size _ _ _ (W_length _)]; exact info_wide) ?_) | (refine wpList_store_row rfl 73 _ _ rfl b (wcell ly (nw (vy - vx)) (W (vy - vx))) rfl rfl 73 (wcell lx (nw vx) (W vx)) X3.out.2 (by rw [wcell_size _ _ _ (W_length _)]; exact info_wide) (by rw [wcell_size _ _ _ (W_length _), wcell_size _ _ _ (W_length _)]) (wcell_one _ _ _) ?_))
      go_end0
      exact PlusPost.mk ly (vy - vx) rfl (X3.out.setRow (W_length _)) (sv_lt HL.out (Nat.le_of_lt hlt)) (by omega) (grown_setRow G3.out _)
    · have HC : Hid (0 ≤ cmpW vx vy) := (cmpW_nonneg vx vy).2 hge
      obtain ⟨r, hr⟩ : ∃ r, cmpW vx vy = r := ⟨_, rfl⟩
      rw [hr] at HC
      have gr : 0 ≤ r := HC.out
      go_enter Tryz.func74, Tryz.ntmps74
      go_wp2_with fail
      go_quiet (fail)
      go_wp2_with fail
      refine (beyond_any b c lx ly vx vy _ (HX.out.drew _) (HY.out.drew _) fx fy).mono ?_
      rintro e w' ⟨rfl, k, rfl⟩
      rw [hr]
      clear hr
      generalize hW : (w.drewN _).drewN _ = W1
      have X1 : Hid (IsX W1 b lx (nw vx) (W vx)) := by rw [← hW]; exact HX.out
      have Y1 : Hid (IsX W1 c ly (nw vy) (W vy)) := by rw [← hW]; exact HY.out
      have G1 : Hid (w.grownBy W1 (some b)) := by rw [← hW]; exact grown_drewN (grown_drewN (grown_refl _ _) _) _
      clear hW c0 d0 gl
      go_wp2_with fail
      refine (carry_any b c HN.out lx ly vx vy (-1) 0 _ X1.out Y1.out fx fy hup (by decide) (by decide) (vx - vy) (up0 _ _ _ _ (by omega)) (fits_le fx (by omega))).mono ?_
      rintro e w' ⟨rfl, hw, hg⟩
      go_wp2_with fail
      refine bodyPost_ret (results_none rfl _ _ _) rfl ?_
      exact PlusPost.mk lx (vx - vy) rfl hw (sv_ge HL.out hge) (by omega) (grown_trans G1.out hg)
end Go.Proofs.YtpkfnclbcmnckaaGreatDoor.Mem
set_option linter.unusedVariables false
namespace Go.Proofs.YtpkfnclbcmnckaaGreatDoor.Mem
open Go Go.RowKit Go.Proofs.YtpkfnclbcmnckaaGreatDoor.Dec Go.Proofs.YtpkfnclbcmnckaaGreatDoor.Wid
/-- A new wide is handed back. -/
def MadeW (l : Bool) (v : Nat) (w : World) (e : Ending) (w' : World) : Prop := ∃ o, e = .returned (.pointer (some ⟨o, 0, none⟩)) ∧ w.heap.size ≤ o ∧ IsW w' o l v ∧ Below w.heap.size w w'
theorem MadeW.mk {l : Bool} {v : Nat} {w : World} {e : Ending} {w' : World} (o : Nat) (he : e = .returned (.pointer (some ⟨o, 0, none⟩))) (ho : w.heap.size ≤ o) (hw : IsW w' o l v) (hb : Below w.heap.size w w') : MadeW l v w e w' := ⟨o, he, ho, hw, hb⟩
theorem room_times (vx vy i : Nat) (h : Fits (vx * vy)) (hx : Fits vx) (hy : Fits vy) (hi : i < nw vy) : i + nw vx ≤ 232 := by
  by_cases h0 : vx = 0
  · subst h0
    have := nw_le_of_fits hy
    rw [nw_zero]; omega
  · have hp := nw_pos.2 (Nat.pos_of_ne_zero h0)
    have h1 := le_of_nw (v := vx) (n := nw vx - 1) (by omega)
    have h2 := le_of_nw (v := vy) (n := i) hi
    have h3 : B ^ (nw vx - 1) * B ^ i ≤ vx * vy := Nat.mul_le_mul h1 h2
    rw [← Nat.pow_add] at h3
    have h4 : B ^ (nw vx - 1 + i) < B ^ 232 := Nat.lt_of_le_of_lt h3 h
    have := (Nat.pow_lt_pow_iff_right (by decide : 1 < B)).1 h4
    omega
theorem part_fits (vx vy i : Nat) (h : Fits (vx * vy)) : Fits (vx * (vy % B ^ i)) := fits_le h (Nat.mul_le_mul_left _ (Nat.mod_le _ _))
theorem part_step (vx vy i : Nat) : ((vx * (vy % B ^ (i + 1)) : Nat) : Int) = ((vx * (vy % B ^ i) : Nat) : Int) + (word vy i : Int) * (vx : Int) * (B : Int) ^ i := by
  rw [mod_succ, Nat.mul_add, Int.natCast_add, ← Int.natCast_pow, ← Int.natCast_mul, ← Int.natCast_mul]
  congr 2
  rw [Nat.mul_comm (B ^ i), ← Nat.mul_assoc, Nat.mul_comm vx]
theorem part_zero (vx vy : Nat) : vx * (vy % B ^ 0) = 0 := by rw [Nat.pow_zero, Nat.mod_one, Nat.mul_zero]
theorem W_zero : W 0 = List.replicate 232 0 := (W_of_wsum (fun x hx => by rw [List.eq_of_mem_replicate hx]; decide) List.length_replicate (wsum_zero 232)).symm
set_option maxRecDepth 100000 in
set_option maxHeartbeats 2000000 in
theorem times_any (b c : Nat) (lx ly : Bool) (vx vy : Nat) (w : World) (hx : IsW w b lx vx) (hy : IsW w c ly vy) (fx : Fits vx) (fy : Fits vy) (fp : Fits (vx * vy)) :
    Calls Tryz.prog 43 #[.pointer (some ⟨b, 0, none⟩), .pointer (some ⟨c, 0, none⟩)] w (MadeW (lx != ly) (vx * vy) w) := by
  have c0 := hx.cell0
  have d0 := hy.cell0
  have d1 : ∀ o, (w.alloc o).cell? ⟨c, 1, none⟩ = some (.int .i64 (nw vy : Int)) := fun o => (hy.alloc o).cell1
  obtain ⟨x, hxy⟩ : ∃ x, (!(lx == ly)) = x := ⟨_, rfl⟩
  have X0 := Hid.mk' (isX_new w x)
  have B0 : Hid (Below w.heap.size w (w.alloc (.cells (Tryz.zeroCells73.setIfInBounds 0 (.bool x)) 73)).drew) := ((Below.refl _ _).alloc (Nat.le_refl _) _).drew
  have HX := Hid.mk' hx
  have HY := Hid.mk' hy
  have hbw := Hid.mk' hx.size
  have hcw := Hid.mk' hy.size
  clear hx hy
  go_enter Tryz.func43, Tryz.ntmps43
  go_wp2_with fail
  go_still_tail 10, (by kernel_rfl)
  change wpList _ _ _ _ _ w.drew
  go_wp2_with fail
  have hxp : Hid ((lx != ly) = x) := hxy
  obtain ⟨o, ho⟩ : ∃ o, w.heap.size = o := ⟨_, rfl⟩
  have HO := Hid.mk' ho
  generalize hW0 : (w.alloc (.cells (Tryz.zeroCells73.setIfInBounds 0 (.bool x)) 73)).drew = W0 at B0 ⊢
  have X1 : Hid (IsX W0 o x 0 (List.replicate 232 0)) := by rw [← hW0, ← ho]; exact X0.out
  clear X0 c0 d0 d1 hW0
  rw [ho]
  rw [ho] at B0 hbw hcw
  clear ho hxy
  go_loopg [22] (nw vy) (fun g s22 wr => ∃ i : Nat, s22 = .int .i64 i ∧ nw vy ≤ i + g ∧ i ≤ nw vy ∧ IsW wr o x (vx * (vy % B ^ i)) ∧ Below o w wr)
  case atStart => exact ⟨0, rfl, by omega, Nat.zero_le _, by show IsX _ _ _ _ _; rw [part_zero, nw_zero, W_zero]; exact X1.out, B0.out⟩
  case round =>
    obtain ⟨i, rfl, hg, hi, hm, hB⟩ := hrel
    have HM := Hid.mk' hm
    have HB := Hid.mk' hB
    have nb := nw_le_of_fits fy
    rcases Nat.lt_or_ge i (nw vy) with hlt | hge
    · have g1 : (i : Int) < (nw vy : Int) := by omega
      have cw := (HY.out.below hB (by have := hcw.out; omega)).cellw i (by omega)
      rw [W_get _ i (by omega)] at cw
      have hwl := Hid.mk' (word_lt vy i)
      have hrm := Hid.mk' (room_times vx vy i fp fx fy hlt)
      have hst := Hid.mk' (part_step vx vy i)
      have HXr := Hid.mk' (HX.out.below hB (by have := hbw.out; omega))
      have hbo : Hid (o ≠ b) := by show _ ≠ _; have := hbw.out; omega
      clear hm hB
      obtain ⟨y, hy⟩ : ∃ y, word vy i = y := ⟨_, rfl⟩
      rw [hy] at cw hwl hst
      clear hy
      go_wp2_with fail
      refine (carry_any o b hbo.out x lx (vx * (vy % B ^ i)) vx (y : Int) i _ HM.out HXr.out (part_fits _ _ _ fp) fx hrm.out (by omega) (by have := hwl.out; unfold B at this; omega) (vx * (vy % B ^ (i + 1))) hst.out (part_fits _ _ _ fp)).mono ?_
      rintro e w' ⟨rfl, hw, hg2⟩
      have HM2 := Hid.mk' hw
      have HB2 : Hid (Below o w w') := Below.trans HB.out (grown_below (Nat.le_refl _) hg2 (by have := HB.out.size; have := HO.out; omega))
      clear hw hg2
      go_wp2_with fail
      go_roundg (nw vy - (i + 1))
      case measure => omega
      case rel => exact ⟨i + 1, by go_num, by omega, hlt, HM2.out, HB2.out⟩
    · have g1 : ¬ (i : Int) < (nw vy : Int) := by omega
      obtain rfl : i = nw vy := by omega
      clear hm hB
      go_wp2_with fail
      go_ret
      exact MadeW.mk o rfl (Nat.le_of_eq HO.out) (by rw [hxp.out]; have := HM.out; rw [mod_of_nw (Nat.le_refl _)] at this; exact this) (by rw [HO.out]; exact HB.out)
end Go.Proofs.YtpkfnclbcmnckaaGreatDoor.Mem
set_option linter.unusedVariables false
namespace Go.Proofs.YtpkfnclbcmnckaaGreatDoor.Mem
open Go Go.RowKit Go.Proofs.YtpkfnclbcmnckaaGreatDoor.Dec Go.Proofs.YtpkfnclbcmnckaaGreatDoor.Wid
/-- The digits of the quotient so far. -/
structure QInv (v k n : Nat) (ws : List Int) : Prop where
  len : ws.length = 232
  words : ∀ j, j < 232 → ws.getD j 0 = if k ≤ j then (word v j : Int) else 0
  zero : ∀ j, n ≤ j → ws.getD j 0 = 0
  nhi : n ≤ 232
theorem QInv.start (vx vy : Nat) (fx : Fits vx) : QInv (vx / vy) (nw vx) 0 (List.replicate 232 0) where
  len := List.length_replicate
  words j hj := by
    have h0 : (List.replicate 232 (0 : Int)).getD j 0 = 0 := by rw [List.getD_eq_getElem?_getD, List.getElem?_replicate]; split <;> rfl
    rw [h0]
    split
    · rw [word_zero (Nat.le_trans (nw_mono (Nat.div_le_self _ _)) (by assumption))]; rfl
    · rfl
  zero j _ := by rw [List.getD_eq_getElem?_getD, List.getElem?_replicate]; split <;> rfl
  nhi := by omega
theorem QInv.step {v i n : Nat} {ws : List Int} (h : QInv v (i + 1) n ws) (hi : i < 232) : QInv v i (max n (i + 1)) (ws.set i (word v i : Int)) where
  len := by rw [List.length_set]; exact h.len
  words j hj := by
    by_cases e : i = j
    · subst e
      rw [if_pos (Nat.le_refl _), List.getD_eq_getElem?_getD, List.getElem?_set_self (by rw [h.len]; exact hj)]; rfl
    · rw [List.getD_eq_getElem?_getD, List.getElem?_set_ne e, ← List.getD_eq_getElem?_getD, h.words j hj]
      by_cases e2 : i ≤ j
      · rw [if_pos (by omega), if_pos e2]
      · rw [if_neg (by omega), if_neg e2]
  zero j hj := by
    rw [List.getD_eq_getElem?_getD, List.getElem?_set_ne (by omega), ← List.getD_eq_getElem?_getD]
    exact h.zero j (by omega)
  nhi := by have := h.nhi; omega
theorem QInv.end {v n : Nat} {ws : List Int} (h : QInv v 0 n ws) (hv : Fits v) : ws = W v ∧ nw v ≤ n := by
  have hw : ws = W v := by
    apply List.ext_getElem (by rw [h.len, W_length])
    intro j h1 h2
    have := h.words j (by rw [← h.len]; exact h1)
    rw [if_pos (Nat.zero_le _), List.getD_eq_getElem?_getD, List.getElem?_eq_getElem h1, Option.getD_some] at this
    rw [this]
    simp [W]
  refine ⟨hw, ?_⟩
  rcases Nat.lt_or_ge n (nw v) with h1 | h1
  · exfalso
    have h2 := h.zero (nw v - 1) (by omega)
    rw [hw, W_getD _ _ hv] at h2
    exact word_top (v := v) (nw_pos.1 (by omega)) (by omega)
  · exact h1
/-- The list of a wide's cells. -/
def wlist (l : Bool) (n : Nat) (ws : List Int) : List Value := Value.bool l :: Value.int .i64 n :: ws.map (Value.int .i64)
theorem splice_wide (l : Bool) (r : Nat) (hr : nw r ≤ 231) : splice (wlist l (nw r) (W r)) 3 (((W r).take (nw r)).map (Value.int .i64)) = wlist l (nw r) ((word r 0 : Int) :: (W r).take 231) := by
  have e0 : (W r) = (word r 0 : Int) :: (W r).drop 1 := by
    apply List.ext_getElem (by simp)
    intro j h1 h2
    cases j with
    | zero => simp [W]
    | succ j => simp
  have e1 : (W r).take (nw r) ++ (W r).drop (nw r + 1) = (W r).take 231 := by
    apply List.ext_getElem
    · simp; omega
    · intro j h1 h2
      have hj : j < 231 := by simpa using h2
      rw [List.getElem_take]
      by_cases h3 : j < nw r
      · rw [List.getElem_append_left (by simp; omega), List.getElem_take]
      · rw [List.getElem_append_right (by simp; omega), List.getElem_drop]
        have z1 : (W r)[j]'(by simp; omega) = 0 := by
          have := W_get r j (by omega)
          rw [word_zero (by omega), List.getD_eq_getElem?_getD, List.getElem?_eq_getElem (by simp; omega)] at this
          exact this
        have z2 : ∀ (i : Nat) (h : i < (W r).length), nw r ≤ i → (W r)[i]'h = 0 := by
          intro i h hi
          have := W_get r i (by simpa using h)
          rw [word_zero hi, List.getD_eq_getElem?_getD, List.getElem?_eq_getElem h] at this
          exact this
        rw [z1]
        exact z2 _ _ (by simp; omega)
  unfold splice wlist
  have hlen : (((W r).take (nw r)).map (Value.int .i64)).length = nw r := by simp; omega
  rw [hlen]
  conv => lhs; rw [e0]
  simp only [List.map_cons, List.take_succ_cons, List.take_zero, List.cons_append, List.nil_append]
  rw [show 3 + nw r = nw r + 1 + 1 + 1 from by omega]
  simp only [List.drop_succ_cons]
  rw [← e1, List.map_append, List.map_drop, ← e0]
  congr 4
  rw [← List.drop_drop, List.map_drop, List.map_drop]
  simp [Nat.add_comm]
theorem IsX.list {w : World} {b : Nat} {l : Bool} {n : Nat} {ws : List Int} (h : IsX w b l n ws) : w.heap[b]? = some (.cells (wlist l n ws).toArray 73 (0, 0)) := h.2
theorem IsX.ofList {w : World} {b : Nat} {l : Bool} {n : Nat} {ws : List Int} (hl : ws.length = 232) (h : w.heap[b]? = some (.cells (wlist l n ws).toArray 73 (0, 0))) : IsX w b l n ws := ⟨hl, h⟩
/-- What 'divided' leaves. -/
def DivPost (vx vy : Nat) (w : World) (e : Ending) (w' : World) : Prop :=
  ∃ q r, e = .returned (.tuple #[.pointer (some ⟨q, 0, none⟩), .pointer (some ⟨r, 0, none⟩)]) ∧ w.heap.size ≤ q ∧ w.heap.size ≤ r ∧ q ≠ r ∧ IsW w' q false (vx / vy) ∧ IsW w' r false (vx % vy) ∧ Below w.heap.size w w'
theorem DivPost.mk {vx vy : Nat} {w : World} {e : Ending} {w' : World} (q r : Nat) (he : e = .returned (.tuple #[.pointer (some ⟨q, 0, none⟩), .pointer (some ⟨r, 0, none⟩)])) (hq : w.heap.size ≤ q) (hr : w.heap.size ≤ r) (hne : q ≠ r) (h1 : IsW w' q false (vx / vy)) (h2 : IsW w' r false (vx % vy)) (hb : Below w.heap.size w w') : DivPost vx vy w e w' :=
  ⟨q, r, he, hq, hr, hne, h1, h2, hb⟩
theorem shift_fits {r v vy : Nat} (hr : r < vy) (hv : v < B) (h : Fits (vy * B)) : Fits (r * B + v) := by
  have h1 : (r + 1) * B ≤ vy * B := Nat.mul_le_mul_right _ hr
  rw [Nat.add_mul] at h1
  exact Nat.lt_of_lt_of_le (by omega) (Nat.le_of_lt (Nat.lt_of_le_of_lt h1 h))
theorem shift_lt {r v vy : Nat} (hr : r < vy) (hv : v < B) : r * B + v < vy * B := by
  have h1 : (r + 1) * B ≤ vy * B := Nat.mul_le_mul_right _ hr
  rw [Nat.add_mul] at h1
  omega
theorem div_end {d vy s R : Nat} (h : d * vy + s = R) (hs : s < vy) : R / vy = d ∧ R % vy = s := by
  subst h
  constructor
  · rw [Nat.mul_comm, Nat.mul_add_div (by omega), Nat.div_eq_of_lt hs, Nat.add_zero]
  · rw [Nat.mul_comm, Nat.mul_add_mod, Nat.mod_eq_of_lt hs]
theorem digit_room {d s R E vy : Nat} (h : d * vy + s = R) (he : E * vy ≤ s) (hR : R < vy * B) : d + E < B := by
  have h1 : (d + E) * vy < B * vy := by rw [Nat.add_mul, Nat.mul_comm B]; omega
  exact Nat.lt_of_mul_lt_mul_right h1
theorem sub_int {s E vy : Nat} (he : E * vy ≤ s) : ((s - E * vy : Nat) : Int) = (s : Int) + -(E : Int) * (vy : Int) * (B : Int) ^ 0 := by
  rw [Int.pow_zero, Int.mul_one, Int.neg_mul, ← Int.natCast_mul]
  generalize E * vy = t at *
  omega
theorem sub_lt {s E vy : Nat} (h1 : 1 ≤ E) (hp : 0 < vy) (hs : vy ≤ s) : s - E * vy < s := by
  have : 1 * 1 ≤ E * vy := Nat.mul_le_mul h1 hp
  omega
theorem pwd_below_drewN {B : Nat} {w W : World} (h : Below B w W) (n : Nat) : Below B w (W.drewN n) := ⟨h.os, h.tape, h.output, h.size, h.block⟩
theorem src_cells (w : World) (b r : Nat) (h : IsX w b false (nw r) (W r)) (hr : nw r ≤ 231) : ∀ j v, (((W r).take (nw r)).map (Value.int .i64))[j]? = some v → w.cell? ((⟨b, 2, none⟩ : Addr).add j) = some v := by
  intro j v hj
  have hlt : j < nw r := by
    have := (List.getElem?_eq_some_iff.1 hj).1
    simp at this; omega
  have hadd : (⟨b, 2, none⟩ : Addr).add j = ⟨b, 2 + j, none⟩ := by unfold Addr.add; split <;> simp_all
  rw [hadd, h.cellw j (by omega)]
  rw [List.getElem?_map, List.getElem?_take, if_pos hlt, List.getElem?_eq_getElem (by simp; omega)] at hj
  simp only [Option.map_some, Option.some.injEq] at hj
  rw [← hj, List.getD_eq_getElem?_getD, List.getElem?_eq_getElem (by simp; omega)]
  rfl
theorem cs_len (r : Nat) (h : nw r ≤ 231) : (((W r).take (nw r)).map (Value.int .i64)).length = nw r := by simp; omega
theorem cs_len2 (r : Nat) (h : nw r ≤ 231) : (((W r).take (nw r)).map (Value.int .i64)).length = Nat.min (nw r) 231 := by
  rw [cs_len r h]
  show _ = min _ _
  rw [Nat.min_eq_left h]
theorem one_cells (l : List Int) : ∀ v ∈ l.map (Value.int .i64), v.oneCell' = true := by
  intro v hv
  rw [List.mem_map] at hv
  obtain ⟨x, _, rfl⟩ := hv
  rfl
theorem zero_plain : Tryz.zeroCells73 = wcell false 0 (List.replicate 232 0) := by kernel_rfl
theorem info_int : (Tryz.prog.info? 3).map (·.size) = some 1 := by kernel_rfl
set_option maxRecDepth 100000 in
set_option maxHeartbeats 2000000 in
theorem divided_any (b c : Nat) (lx ly : Bool) (vx vy : Nat) (w : World) (hx : IsW w b lx vx) (hy : IsW w c ly vy) (fx : Fits vx) (fy : Fits (vy * B)) (hp : 0 < vy) :
    Calls Tryz.prog 50 #[.pointer (some ⟨b, 0, none⟩), .pointer (some ⟨c, 0, none⟩)] w (DivPost vx vy w) := by
  have nx := nw_le_of_fits fx
  have fy0 : Fits vy := fits_le fy (by have := B_pos; exact Nat.le_mul_of_pos_right _ this)
  have hbw := Hid.mk' hx.size
  have hcw := Hid.mk' hy.size
  have c1 : ∀ o, (w.alloc o).cell? ⟨b, 1, none⟩ = some (.int .i64 (nw vx : Int)) := fun o => (hx.alloc o).cell1
  have c2 : ∀ o p, ((w.alloc o).alloc p).cell? ⟨b, 1, none⟩ = some (.int .i64 (nw vx : Int)) := fun o p => ((hx.alloc o).alloc p).cell1
  have X0 : Hid (IsX ((w.alloc (.cells Tryz.zeroCells73 73)).alloc (.cells Tryz.zeroCells73 73)) w.heap.size false 0 (List.replicate 232 0)) := by
    show IsX _ _ _ _ _
    rw [zero_plain]
    exact (isX_alloc_new w false 0 _ List.length_replicate).alloc _
  have Y0 : Hid (IsX ((w.alloc (.cells Tryz.zeroCells73 73)).alloc (.cells Tryz.zeroCells73 73)) (w.heap.size + 1) false 0 (List.replicate 232 0)) := by
    show IsX _ _ _ _ _
    rw [zero_plain]
    have := isX_alloc_new (w.alloc (.cells (wcell false 0 (List.replicate 232 0)) 73)) false 0 _ (List.length_replicate (n := 232) (a := 0))
    rw [World.size_alloc] at this
    exact this
  have B0 : Hid (Below w.heap.size w ((w.alloc (.cells Tryz.zeroCells73 73)).alloc (.cells Tryz.zeroCells73 73))) := ((Below.refl _ _).alloc (Nat.le_refl _) _).alloc (by simp) _
  have HX := Hid.mk' hx
  have HY := Hid.mk' hy
  clear hx hy
  go_enter Tryz.func50, Tryz.ntmps50
  go_wp2_with fail
  obtain ⟨o, ho⟩ : ∃ o, w.heap.size = o := ⟨_, rfl⟩
  have HO := Hid.mk' ho
  generalize hW0 : (w.alloc (.cells Tryz.zeroCells73 73)).alloc (.cells Tryz.zeroCells73 73) = W0 at B0 X0 Y0 ⊢
  clear hW0 c1 c2
  rw [ho]
  rw [ho] at B0 X0 Y0 hbw hcw
  clear ho
  go_loopg [8] (nw vx) (fun g s8 wr => ∃ (k n : Nat) (z : Int) (ws : List Int), s8 = .int .i64 z ∧ z + 1 = (k : Int) ∧ k ≤ g ∧ k ≤ 232 ∧ IsX wr o false n ws ∧ Hid (QInv (vx / vy) k n ws) ∧ IsW wr (o + 1) false (vx / B ^ k % vy) ∧ Below o w wr)
  case atStart => exact ⟨nw vx, 0, (nw vx : Int) - 1, _, rfl, by omega, Nat.le_refl _, nx, X0.out, QInv.start vx vy fx, by show IsX _ _ _ _ _; rw [Nat.div_eq_of_lt (lt_nw vx), Nat.zero_mod, nw_zero, W_zero]; exact Y0.out, B0.out⟩
  case round =>
    obtain ⟨k, n, z, ws, rfl, hz, hg, hk, hq, HQ, hr, hB⟩ := hrel
    have HM := Hid.mk' hq
    have HR := Hid.mk' hr
    have HB := Hid.mk' hB
    clear hq hr hB X0 Y0 B0
    rcases Nat.eq_zero_or_pos k with h0 | h0
    · subst h0
      obtain rfl : z = -1 := by omega
      clear hz
      obtain ⟨e1, e2⟩ := HQ.out.end (fits_le fx (Nat.div_le_self _ _))
      have H2 : Hid (IsX wr o false n (W (vx / vy))) := by show IsX _ _ _ _ _; rw [← e1]; exact HM.out
      have e3 := Hid.mk' e2
      have e4 : Hid (n ≤ 232) := HQ.out.nhi
      clear e1 e2
      go_wp2_with fail
      refine (trimmed_any o false n (vx / vy) _ H2.out e3.out e4.out).mono ?_
      rintro e w' ⟨rfl, hw, hg2⟩
      have HW := Hid.mk' hw
      have HR2 : Hid (IsW w' (o + 1) false (vx % vy)) := by
        have h5 : IsW w' (o + 1) false (vx / B ^ 0 % vy) := HR.out.grown hg2 (by simp)
        rw [Nat.pow_zero, Nat.div_one] at h5
        exact h5
      have HB2 : Hid (Below o w w') := Below.trans HB.out (grown_below (Nat.le_refl _) hg2 (by have := HB.out.size; have := HO.out; omega))
      clear hw hg2
      go_wp2_with fail
      go_ret2
      exact DivPost.mk o (o + 1) rfl (by have := HO.out; omega) (by have := HO.out; omega) (by omega) HW.out HR2.out (by rw [HO.out]; exact HB2.out)
    · obtain ⟨i, rfl⟩ : ∃ i, k = i + 1 := ⟨k - 1, by omega⟩
      obtain rfl : z = (i : Int) := by omega
      clear hz h0
      obtain ⟨r, hr⟩ : ∃ r, vx / B ^ (i + 1) % vy = r := ⟨_, rfl⟩
      have hrl : r < vy := by rw [← hr]; exact Nat.mod_lt _ hp
      have hds := Hid.mk' (div_step vx vy i hp)
      rw [hr] at HR hds
      clear hr
      have hnr : nw r ≤ 231 := by
        have h1 := nw_mono (Nat.le_of_lt hrl)
        have h2 : nw vy ≤ 231 := (nw_le_iff vy 231).2 (by have := fy; unfold Fits at this; rw [Nat.pow_succ] at this; exact Nat.lt_of_mul_lt_mul_right this)
        omega
      have q1 := HR.out.cell1
      have hn0 : (0 : Int) ≤ (nw r : Int) := by omega
      have hn1 : (nw r : Int) ≤ 232 := by omega
      have hn2 : (nw r : Int) ≤ 231 := by omega
      go_wp2_with fail
      go_still_tail 12, (by kernel_rfl)
      change wpList _ _ _ _ _ wr.drew
      have hv : word vx i < B := word_lt vx i
      obtain ⟨v, hvv⟩ : ∃ v, word vx i = v := ⟨_, rfl⟩
      rw [hvv] at hv hds
      have fR : Fits (r * B + v) := shift_fits hrl hv fy
      have hlen : (((W r).take (nw r)).map (Value.int .i64)).length = Nat.min (nw r) 231 := cs_len2 r hnr
      refine wpList_copy_splice rfl (.tmp 27) (.tmp 35) 96 96 rfl 3 Tryz.underlying96 info_int (some ⟨o + 1, 3, none⟩) (some ⟨o + 1, 2, none⟩) 231 231 (nw r) 232 rfl rfl (o + 1) 3 (wlist false (nw r) (W r)) 73 (HR.out.list) (((W r).take (nw r)).map (Value.int .i64)) hlen (fun _ => ⟨rfl, _, rfl, src_cells wr.drew (o + 1) r HR.out hnr⟩) (by rw [cs_len r hnr]; simp [wlist]; omega) (one_cells _) (o + 1) wr.drew (Below.refl _ _) (Nat.le_refl _) ?_
      intro w2 hw2 hb2
      have Z1 : Hid (IsX w2 (o + 1) false (nw r) ((word r 0 : Int) :: (W r).take 231)) := IsX.ofList (by simp) (by rw [← splice_wide false r hnr]; exact hw2.out)
      have HM2 := Hid.mk' (IsX.below (IsX.drew1 HM.out) hb2 (Nat.lt_succ_self o))
      have HB2 : Hid (Below o w w2) := Below.trans (Below.drew HB.out) (Below.mono hb2 (Nat.le_succ o))
      have a1 := (HX.out.below HB2.out (by have := hbw.out; omega)).cellw i (by omega)
      rw [W_get _ i (by omega), hvv] at a1
      have a2 : ∃ y, w2.cell? ⟨o + 1, 2, none⟩ = some y := ⟨_, Z1.out.cellw 0 (by omega)⟩
      obtain ⟨y2, a2⟩ := a2
      have a3 := Z1.out.free 2
      have hi0 : (0 : Int) ≤ (i : Int) := by omega
      have hi1 : (i : Int) < 232 := by omega
      have S1 : Hid (IsX (w2.setCell ⟨o + 1, 2, none⟩ (.int .i64 (v : Int))) (o + 1) false (nw r) (W (r * B + v))) := by
        show IsX _ _ _ _ _
        rw [← W_shift r v hv fR]
        exact Z1.out.setw 0 v
      have s1 : (w2.setCell ⟨o + 1, 2, none⟩ (.int .i64 (v : Int))).cell? ⟨o + 1, 1, none⟩ = some (.int .i64 (nw r : Int)) := S1.out.cell1
      have s2 : (w2.setCell ⟨o + 1, 2, none⟩ (.int .i64 (v : Int))).frozen? ⟨o + 1, 1, none⟩ = false := S1.out.free 1
      have S2 := Hid.mk' (S1.out.set1 (nw r + 1))
      clear q1 hvv hw2 hb2 Z1 hlen hn2 hn0 hn1
      go_wp2_with fail
      go_still_tail 10, (by kernel_rfl)
      change wpList _ _ _ _ _ w2.drew
      go_wp2_with fail
      refine (trimmed_any (o + 1) false (nw r + 1) (r * B + v) _ (IsX.drew1 S2.out) (nw_shift r v hv) (by omega)).mono ?_
      rintro e w3 ⟨rfl, hw3, hg3⟩
      obtain ⟨R, hR⟩ : ∃ R, r * B + v = R := ⟨_, rfl⟩
      rw [hR] at hw3 fR hds
      have hRl : Hid (R < vy * B) := by rw [← hR]; exact shift_lt hrl hv
      have hb3 : Below (o + 1) w2 w3 := Below.trans (((Below.setCell (Below.refl (o + 1) w2) (p := ⟨o + 1, 2, none⟩) (Nat.le_refl _) _).setCell (p := ⟨o + 1, 1, none⟩) (Nat.le_refl _) _).drew) (grown_below (Nat.le_refl _) hg3 (by have := S2.out.size; simp at this ⊢; omega))
      have HM3 := Hid.mk' (HM2.out.below hb3 (Nat.lt_succ_self o))
      have HB3 : Hid (Below o w w3) := Below.trans HB2.out (hb3.mono (Nat.le_succ o))
      have HR3 := Hid.mk' hw3
      clear hw3 hg3 hb3 hR S1 S2 s1 s2 a1 a2 a3 HM2 HB2 HB HM hi0 hi1 HR
      obtain ⟨y2, rfl⟩ : ∃ y : Unit, y = () := ⟨(), rfl⟩
      go_wp2_with fail
      go_loopg [9] R (fun g s9 wr => ∃ (d s : Nat), s9 = .int .i64 (d : Int) ∧ s ≤ g ∧ Hid (d * vy + s = R) ∧ IsW wr (o + 1) false s ∧ w3.grownBy wr (some (o + 1)))
      case atStart => exact ⟨0, R, rfl, Nat.le_refl _, by show _ = _; omega, HR3.out, grown_refl _ _⟩
      case round =>
        obtain ⟨d, s, rfl, hsg, hds2, hs, hgr⟩ := hrel
        have HS := Hid.mk' hs
        have HG := Hid.mk' hgr
        clear hs hgr HR3
        have YS : Hid (IsW wr c ly vy) := IsX.grown (HY.out.below HB3.out (by have := hcw.out; omega)) HG.out (by simp; have := hcw.out; omega)
        have hsR : s ≤ R := by have := hds2.out; omega
        have fS : Fits s := fits_le fR hsR
        rcases Nat.lt_or_ge s vy with hlt | hge
        · have HC : Hid (cmpW s vy < 0) := by
            show _ < _
            have := (cmpW_nonneg s vy)
            have : ¬ (0 ≤ cmpW s vy) := fun h => by have := this.1 h; omega
            omega
          obtain ⟨rr, hrr⟩ : ∃ rr, cmpW s vy = rr := ⟨_, rfl⟩
          rw [hrr] at HC
          have gdec : decide ((0 : Int) ≤ rr) = false := decide_eq_false (by have : rr < 0 := HC.out; omega)
          have hdv := div_end hds2.out hlt
          have QQ := Hid.mk' (HQ.out.step (by omega : i < 232))
          have hd : word (vx / vy) i = d := by rw [hds.out.2, hdv.1]
          have hsv : vx / B ^ i % vy = s := by rw [hds.out.1, hdv.2]
          rw [hd] at QQ
          have HD := Hid.mk' hsv
          have HBr : Hid (Below o w wr) := Below.trans HB3.out (grown_below (Nat.le_succ o) HG.out (by have := HB3.out.size; have := HO.out; omega))
          have hnn : n ≤ 232 := HQ.out.nhi
          clear hd hdv hsv hds hds2 hsg
          go_wp2_with fail
          refine (beyond_any (o + 1) c false ly s vy _ HS.out YS.out fS fy0).mono ?_
          rintro e w4 ⟨rfl, kk, rfl⟩
          rw [hrr]
          clear hrr
          generalize hW4 : wr.drewN kk = w4
          have QM : Hid (IsX w4 o false n ws) := by rw [← hW4]; exact HM3.out.grown (grown_drewN HG.out kk) (by simp)
          have S4 : Hid (IsW w4 (o + 1) false s) := by rw [← hW4]; exact HS.out
          have B4 : Hid (Below o w w4) := by rw [← hW4]; exact pwd_below_drewN HBr.out kk
          clear hW4 HS HG HBr HM3 HB3 YS
          have q3 := QM.out.cellw i (by omega)
          have q4 := QM.out.free (2 + i)
          have Q5 := Hid.mk' (QM.out.setw i (d : Int))
          have q1 : (w4.setCell ⟨o, 2 + i, none⟩ (.int .i64 (d : Int))).cell? ⟨o, 1, none⟩ = some (.int .i64 (n : Int)) := Q5.out.cell1
          have q2 : (w4.setCell ⟨o, 2 + i, none⟩ (.int .i64 (d : Int))).frozen? ⟨o, 1, none⟩ = false := Q5.out.free 1
          have S6 : ∀ m : Nat, Hid (IsW ((w4.setCell ⟨o, 2 + i, none⟩ (.int .i64 (d : Int))).setCell ⟨o, 1, none⟩ (.int .i64 (m : Int))) (o + 1) false s) := fun m => (S4.out.other o _ _ (by omega)).other o _ _ (by omega)
          have B6 : ∀ m : Nat, Hid (Below o w ((w4.setCell ⟨o, 2 + i, none⟩ (.int .i64 (d : Int))).setCell ⟨o, 1, none⟩ (.int .i64 (m : Int)))) := fun m => (B4.out.setCell (p := ⟨o, 2 + i, none⟩) (Nat.le_refl _) _).setCell (p := ⟨o, 1, none⟩) (Nat.le_refl _) _
          have S7 := Hid.mk' S6
          have B7 := Hid.mk' B6
          clear S6 B6 S4 B4 QM
          have hmx : max (n : Int) ((i : Int) + 1) = ((max n (i + 1) : Nat) : Int) := by omega
          go_wp2_with fail
          go_roundg i
          case measure => omega
          case rel => exact ⟨i, max n (i + 1), (i : Int) - 1, _, rfl, by omega, Nat.le_refl _, by omega, Q5.out.set1 _, QQ.out, by rw [HD.out]; exact (S7.out _).out, (B7.out _).out⟩
        · have HC : Hid (0 ≤ cmpW s vy) := (cmpW_nonneg s vy).2 hge
          obtain ⟨rr, hrr⟩ : ∃ rr, cmpW s vy = rr := ⟨_, rfl⟩
          rw [hrr] at HC
          have grr : 0 ≤ rr := HC.out
          obtain ⟨e1, e2, e3⟩ := est_ok s vy hp hge
          obtain ⟨E, hE⟩ : ∃ E, est s vy = E := ⟨_, rfl⟩
          rw [hE] at e1 e2 e3
          unfold B at e2
          have hdE := Hid.mk' (digit_room hds2.out e3 hRl.out)
          have hdE1 : d + E ≤ 999999999 := by have := hdE.out; unfold B at this; omega
          have e3' := Hid.mk' e3
          have hup : Hid (0 + nw vy ≤ 232) := by show _ ≤ _; have := nw_le_of_fits fy0; omega
          have hsub : Hid (((s - E * vy : Nat) : Int) = (s : Int) + -(E : Int) * (vy : Int) * (B : Int) ^ 0) := sub_int e3
          have hnew : Hid ((d + E) * vy + (s - E * vy) = R) := by show _ = _; have := hds2.out; rw [Nat.add_mul]; omega
          have hEv : Hid (s - E * vy < s) := sub_lt e1 hp hge
          clear e3 hds hds2
          go_wp2_with fail
          refine (beyond_any (o + 1) c false ly s vy _ HS.out YS.out fS fy0).mono ?_
          rintro e w4 ⟨rfl, kk, rfl⟩
          rw [hrr]
          clear hrr
          go_wp2_with fail
          refine (estimate_any (o + 1) c false ly s vy _ (HS.out.drew _) (YS.out.drew _) fS fy0 hp).mono ?_
          rintro e w4 ⟨rfl, k2, rfl⟩
          rw [hE]
          clear hE
          generalize hW4 : (wr.drewN _).drewN _ = w4
          have S4 : Hid (IsW w4 (o + 1) false s) := by rw [← hW4]; exact HS.out
          have Y4 : Hid (IsW w4 c ly vy) := by rw [← hW4]; exact YS.out
          have G4 : Hid (w3.grownBy w4 (some (o + 1))) := by rw [← hW4]; exact grown_drewN (grown_drewN HG.out _) _
          clear hW4
          go_wp2_with fail
          refine (carry_any (o + 1) c (by have := hcw.out; omega) false ly s vy (-(E : Int)) 0 _ S4.out Y4.out fS fy0 hup.out (by omega) (by omega) (s - E * vy) hsub.out (fits_le fS (Nat.sub_le _ _))).mono ?_
          rintro e w5 ⟨rfl, hw5, hg5⟩
          have S5 := Hid.mk' hw5
          have G5 := Hid.mk' (grown_trans G4.out hg5)
          clear hw5 hg5
          go_wp2_with fail
          go_roundg (s - E * vy)
          case measure => have := hEv.out; omega
          case rel => exact ⟨d + E, s - E * vy, by go_num, Nat.le_refl _, hnew, S5.out, G5.out⟩
end Go.Proofs.YtpkfnclbcmnckaaGreatDoor.Mem
set_option linter.unusedVariables false
namespace Go.Proofs.YtpkfnclbcmnckaaGreatDoor.Mem
open Go Go.RowKit Go.Proofs.YtpkfnclbcmnckaaGreatDoor.Dec Go.Proofs.YtpkfnclbcmnckaaGreatDoor.Wid
theorem sizeBuilder : (Tryz.prog.info? 101).map (·.size) = some 2 := by kernel_rfl
theorem infoByte : (Tryz.prog.info? 5).map (fun i => (i.zero, i.size, i.bytes)) = some (some (.int .u8 0), 1, 1) := by kernel_rfl
set_option maxHeartbeats 1000000 in
set_option maxRecDepth 100000 in
theorem copyCheck_used (b : Nat) (w : World) (h0 : w.cell? ⟨b, 0, none⟩ = some (.pointer (some ⟨b, 0, none⟩))) :
    Calls Tryz.prog 98 #[.pointer (some ⟨b, 0, none⟩)] w fun e w' => e = .returned (.tuple #[]) ∧ w' = w := by
  obtain ⟨j, hj, _⟩ := Option.map_eq_some_iff.1 sizeBuilder
  go_enter Tryz.func98, Tryz.ntmps98
  go_wp2
  rw [Lib.run_neq_ptr_same w _ Tryz.underlying99 hj]
  go_wp2
  go_end0
  exact ⟨rfl, rfl⟩
set_option maxHeartbeats 1000000 in
set_option maxRecDepth 100000 in
theorem copyCheck_fresh (b : Nat) (w : World) (h0 : w.cell? ⟨b, 0, none⟩ = some (.pointer none)) (hsh : w.shape? b = some (101, 2)) (hfz : w.frozen? ⟨b, 0, none⟩ = false) :
    Calls Tryz.prog 98 #[.pointer (some ⟨b, 0, none⟩)] w fun e w' => e = .returned (.tuple #[]) ∧ w' = w.setCell ⟨b, 0, none⟩ (.pointer (some ⟨b, 0, none⟩)) := by
  obtain ⟨j, hj, hjs⟩ := Option.map_eq_some_iff.1 sizeBuilder
  go_enter Tryz.func98, Tryz.ntmps98
  go_wp2
  rw [Lib.run_to_unsafe w ⟨b, 0, none⟩ Tryz.underlying99 Tryz.underlying130 hj (by rw [hjs]; decide) hsh (Nat.zero_lt_succ 1)]
  simp only [Result.andThen]
  rw [Oper.upon_value]
  go_wp2
  rw [run_callFunc_extern Tryz.func113 (by kernel_rfl) (by kernel_rfl) (by kernel_rfl) (e := Extern.AbiNoEscape.same) (by kernel_rfl)]
  rw [Lib.run_noEscape]
  simp only [Result.andThen]
  rw [Oper.upon_value]
  go_wp2
  rw [Lib.run_from_unsafe w ⟨b, 0, none⟩ Tryz.underlying130 Tryz.underlying99 hj hsh (by kernel_rfl)]
  simp only [Result.andThen]
  rw [Oper.upon_value]
  go_wp2
  go_end0
  exact ⟨rfl, rfl⟩
theorem copyCheck_any (B b : Nat) (bs : List Value) (w : World) (h : Lib.IsBuilder 101 5 B b bs w) :
    Calls Tryz.prog 98 #[.pointer (some ⟨b, 0, none⟩)] w fun e w' => e = .returned (.tuple #[]) ∧ (Lib.BuilderAt 101 5 B b (.pointer (some ⟨b, 0, none⟩)) bs w' ∧ Below B w w') := by
  rcases h with h | h
  · refine (copyCheck_fresh b w h.cell0 h.shape h.frozen0).mono ?_
    rintro e w' ⟨rfl, rfl⟩
    exact ⟨rfl, h.used _, (Below.refl B w).setCell (p := ⟨b, 0, none⟩) h.1 _⟩
  · refine (copyCheck_used b w h.cell0).mono ?_
    rintro e w' ⟨rfl, rfl⟩
    exact ⟨rfl, h, Below.refl B _⟩
set_option maxHeartbeats 2000000 in
set_option maxRecDepth 100000 in
theorem writeByte_any (B b : Nat) (bs : List Value) (c : Int) (w : World) (h : Lib.IsBuilder 101 5 B b bs w) (hlen : bs.length + 1 ≤ 140737488355328) (hBw : B ≤ w.heap.size) :
    Calls Tryz.prog 78 #[.pointer (some ⟨b, 0, none⟩), .int .u8 c] w fun e w' => e = .returned .nilIface ∧ (Lib.BuilderAt 101 5 B b (.pointer (some ⟨b, 0, none⟩)) (bs ++ [.int .u8 c]) w' ∧ Below B w w') := by
  obtain ⟨i0, hi, hz0, hz1, hz2⟩ := info_parts infoByte
  go_enter Tryz.func78, Tryz.ntmps78
  go_wp2_with (go_at_call 98; refine (copyCheck_any B b bs _ h).mono ?_)
  rintro e w1 ⟨rfl, h1, hb1⟩
  obtain ⟨hB, v, hbk, hown, hne⟩ := h1
  have c0 : w1.cell? ⟨b, 0, none⟩ = some (.pointer (some ⟨b, 0, none⟩)) := by rw [Lib.cell_of_heap hbk]; rfl
  have c1 : w1.cell? ⟨b, 1, none⟩ = some v := by rw [Lib.cell_of_heap hbk]; rfl
  go_wp2_with (at_builtin; refine wpList_append_own _ rfl _ _ 88 rfl B 5 i0 (.int .u8 0) 1 1 Tryz.underlying88 hi hz0 hz1 hz2 rfl (by decide) _ _ _ rfl (hown.alloc _) ⟨w1.heap.size, 0, none⟩ 1 1 [.int .u8 c] rfl rfl ?c1 ?c2 ?c3 ?c4 ?c5 ?_)
  case c1 =>
    intro j u hj
    match j, hj with
    | 0, hj => simp at hj; subst hj; simp [Addr.add]
  case c2 => intro u hu; simp at hu; subst hu; rfl
  case c3 => unfold maxLen; omega
  case c4 => omega
  case c5 => have := hb1.size; simp; omega
  intro v' w2 hown' hgrow _
  have hlt : b < w1.heap.size := by
    rcases Nat.lt_or_ge b w1.heap.size with h' | h'
    · exact h'
    · simp [Array.getElem?_eq_none h'] at hbk
  have hb2 : w2.heap[b]? = some (.cells #[.pointer (some ⟨b, 0, none⟩), v] 101 (0, 0)) := by
    rw [hgrow.block b (by simp; omega) (fun e => hne e.symm), Lib.alloc_old w1 _ b hlt]
    exact hbk
  have d0 : w2.cell? ⟨b, 0, none⟩ = some (.pointer (some ⟨b, 0, none⟩)) := by rw [Lib.cell_of_heap hb2]; rfl
  have d1 : w2.cell? ⟨b, 1, none⟩ = some v := by rw [Lib.cell_of_heap hb2]; rfl
  have f1 : w2.frozen? ⟨b, 1, none⟩ = false := Lib.frozen_of_heap hb2 1
  obtain ⟨g, cap, rfl⟩ : ∃ g cap, v' = .slice (some ⟨g, 0, none⟩) (bs.length + 1) cap := by
    rcases hown'.2 with ⟨_, h0⟩ | ⟨g, cap, cur, hv, _⟩
    · omega
    · exact ⟨g, cap, hv⟩
  go_wp2
  go_ret
  refine ⟨rfl, ?_, ?_⟩
  · exact Lib.BuilderAt.put (T := 101) (e := 5) hB hb2 (bs' := bs ++ [.int .u8 c]) (by simpa using hown') (by decide)
  · exact ((hb1.alloc (by have := hb1.size; omega) _).grown hgrow (by have := hb1.size; simp; omega) (fun k hk => (hown.lt k hk).1)).setCell (p := ⟨b, 1, none⟩) hB _
set_option maxHeartbeats 2000000 in
set_option maxRecDepth 100000 in
theorem writeString_any (B b : Nat) (bs : List Value) (s : ByteArray) (w : World) (h : Lib.IsBuilder 101 5 B b bs w) (hlen : bs.length + s.size ≤ 140737488355328) (hBw : B ≤ w.heap.size) :
    Calls Tryz.prog 79 #[.pointer (some ⟨b, 0, none⟩), .string s] w fun e w' => e = .returned (.tuple #[.int .i64 s.size, .nilIface]) ∧ (Lib.BuilderAt 101 5 B b (.pointer (some ⟨b, 0, none⟩)) (bs ++ Lib.strCells s) w' ∧ Below B w w') := by
  obtain ⟨i0, hi, hz0, hz1, hz2⟩ := info_parts infoByte
  go_enter Tryz.func79, Tryz.ntmps79
  go_wp2_with (go_at_call 98; refine (copyCheck_any B b bs _ h).mono ?_)
  rintro e w1 ⟨rfl, h1, hb1⟩
  obtain ⟨hB, v, hbk, hown, hne⟩ := h1
  have c0 : w1.cell? ⟨b, 0, none⟩ = some (.pointer (some ⟨b, 0, none⟩)) := by rw [Lib.cell_of_heap hbk]; rfl
  have c1 : w1.cell? ⟨b, 1, none⟩ = some v := by rw [Lib.cell_of_heap hbk]; rfl
  go_wp2_with (at_builtin; refine Lib.wpList_append_own_string _ rfl _ _ 88 9 rfl B 5 i0 Tryz.underlying88 Tryz.underlying9 hi hz0 hz1 hz2 _ _ _ rfl hown s rfl ?c3 ?c4 ?c5 ?_)
  case c3 => unfold maxLen; omega
  case c4 => omega
  case c5 => have := hb1.size; omega
  intro v' w2 hown' hgrow _
  have hlt : b < w1.heap.size := by
    rcases Nat.lt_or_ge b w1.heap.size with h' | h'
    · exact h'
    · simp [Array.getElem?_eq_none h'] at hbk
  have hb2 : w2.heap[b]? = some (.cells #[.pointer (some ⟨b, 0, none⟩), v] 101 (0, 0)) := by
    rw [hgrow.block b hlt (fun e => hne e.symm)]
    exact hbk
  have d0 : w2.cell? ⟨b, 0, none⟩ = some (.pointer (some ⟨b, 0, none⟩)) := by rw [Lib.cell_of_heap hb2]; rfl
  have d1 : w2.cell? ⟨b, 1, none⟩ = some v := by rw [Lib.cell_of_heap hb2]; rfl
  have f1 : w2.frozen? ⟨b, 1, none⟩ = false := Lib.frozen_of_heap hb2 1
  obtain ⟨ao, n', cap, rfl⟩ : ∃ ao n' cap, v' = .slice ao n' cap := by
    rcases hown'.2 with ⟨hv, _⟩ | ⟨g, cap, cur, hv, _⟩
    · exact ⟨_, _, _, hv⟩
    · exact ⟨_, _, _, hv⟩
  go_wp2
  go_ret2
  refine ⟨rfl, ?_, ?_⟩
  · exact Lib.BuilderAt.put (T := 101) (e := 5) hB hb2 (bs' := bs ++ Lib.strCells s) (by simpa [Lib.strCells_length] using hown') (by decide)
  · exact (hb1.grown hgrow (by have := hb1.size; omega) (fun k hk => (hown.lt k hk).1)).setCell (p := ⟨b, 1, none⟩) hB _
end Go.Proofs.YtpkfnclbcmnckaaGreatDoor.Mem
set_option linter.unusedVariables false
namespace Go.Proofs.YtpkfnclbcmnckaaGreatDoor.Mem
open Go Go.RowKit Go.Proofs.YtpkfnclbcmnckaaGreatDoor.Dec Go.Proofs.YtpkfnclbcmnckaaGreatDoor.Wid
theorem tabNamed : Tryz.prog.globalNamed "internal/strconv.uint64pow10" = some 5 := by kernel_rfl
theorem Tab.below {w w' : World} (h : Tab w) (hb : Below w.heap.size w w') : Tab w' := by
  have h0 : w.var? Tryz.prog "internal/strconv.uint64pow10" = some (Lib.pow10Tab.map fun z => Value.int .u64 z).toArray := h
  have hg : 5 < w.heap.size := by
    rcases Nat.lt_or_ge 5 w.heap.size with h1 | h1
    · exact h1
    · unfold World.var? at h0
      rw [tabNamed, Option.bind_some, Array.getElem?_eq_none h1] at h0
      cases h0
  exact var?_below hb tabNamed hg h0
theorem itoa_any (n : Int) (h0 : -9223372036854775808 ≤ n) (h1 : n ≤ 9223372036854775807) (w : World) (ht : Tab w) :
    Calls Tryz.prog 63 #[.int .i64 n] w fun e w' => e = .returned (.string (dec n)) ∧ Below w.heap.size w w' :=
  (Tryz.strconv_Itoa n h0 h1 w ht).mono fun _ _ ⟨he, hw⟩ => ⟨he, by
    obtain ⟨k, os, rfl⟩ := hw
    exact Lib.below_grow _ w (Nat.le_refl _) k os⟩
theorem builder_below {T e : TypeId} {B b : Nat} {p : Value} {bs : List Value} {w w' : World} (h : Lib.BuilderAt T e B b p bs w) (hb : Below w.heap.size w w') : Lib.BuilderAt T e B b p bs w' := by
  have hlt := h.lt
  obtain ⟨h1, v, h2, h3, h4⟩ := h
  exact ⟨h1, v, by rw [hb.block b hlt]; exact h2, h3.kept (grown_of_below hb none) (by cases v.ownBlock <;> simp), h4⟩
theorem builder_new (w : World) (T e : TypeId) : Lib.IsBuilder T e w.heap.size w.heap.size [] (w.alloc (.cells #[.pointer none, .slice none 0 0] T)) :=
  .inl ⟨Nat.le_refl _, .slice none 0 0, by simp [World.alloc, -World.alloc_eq], ⟨by simp, .inl ⟨rfl, rfl⟩⟩, by simp [Value.ownBlock]⟩
theorem digits_gen {v m : Nat} (hm : 0 < m) (h : v < 10 ^ m) (k : Nat) : (Lib.decDigits (v / B ^ k)).length ≤ m := by
  rw [Lib.decDigits_length, nDigits_le_iff _ _ hm]
  exact Nat.lt_of_le_of_lt (Nat.div_le_self _ _) h
theorem digits_le {v : Nat} (h : Fits v) (k : Nat) : (Lib.decDigits (v / B ^ k)).length ≤ 2088 :=
  digits_gen (m := 9 * 232) (by decide) (by rw [← B_pow 232]; exact h) k
theorem isb_below {T e : TypeId} {B b : Nat} {bs : List Value} {w w' : World} (h : Lib.IsBuilder T e B b bs w) (hb : Below w.heap.size w w') : Lib.IsBuilder T e B b bs w' := by
  rcases h with h | h
  · exact .inl (builder_below h hb)
  · exact .inr (builder_below h hb)
/-- What stands in front. -/
def pre (l : Bool) : List UInt8 := if l then [45] else []
theorem pre_le (l : Bool) : (pre l).length ≤ 1 := by cases l <;> decide
theorem pre_room (l : Bool) {s : ByteArray} (h : s.size ≤ 9) : (Lib.byteCells (pre l)).length + s.size ≤ 140737488355328 := by
  rw [Lib.byteCells_length]; have := pre_le l; omega
theorem itoa_sv (l : Bool) (v : Nat) (h : 0 < v) : Lib.itoa (sv l v) = pre l ++ Lib.decDigits v := by
  unfold Lib.itoa sv pre
  cases l
  · rw [if_neg (by simp)]; simp
  · rw [if_pos (by simp; omega)]; simp
theorem zeros_pad (s : ByteArray) (w : Nat) (hs : s.data.toList = Lib.decDigits w) (hw : w < B) :
    Lib.strCells ((⟨#[48, 48, 48, 48, 48, 48, 48, 48, 48]⟩ : ByteArray).extract s.size 9 ++ s) = Lib.byteCells (pad9 w) := by
  have hl := len_word hw
  have hz : s.size = (Lib.decDigits w).length := by rw [size_list, hs]
  rw [Lib.strCells_eq]
  congr 1
  rw [ByteArray.data_append, Array.toList_append, Lib.extract_data, hs, hz, pad9]
  congr 1
  have e : (⟨#[48, 48, 48, 48, 48, 48, 48, 48, 48]⟩ : ByteArray).data.toList = List.replicate 9 48 := rfl
  rw [e, List.drop_replicate, List.take_replicate, Nat.min_self]
theorem bytes_dig (n : Nat) : Lib.strCells (dec (n : Int)) = Lib.byteCells (Lib.decDigits n) := by
  rw [Lib.strCells_eq, dec_list]
  unfold Lib.itoa
  rw [if_neg (by omega)]; simp
theorem ret_str {a b : ByteArray} (h : a = b) : Ending.returned (.string a) = .returned (.string b) := by rw [h]
theorem dec_sv_zero (l : Bool) : dec (sv l 0) = ⟨#[48]⟩ := by
  have : sv l 0 = 0 := by cases l <;> rfl
  rw [this]; unfold dec; rw [itoa_zero]
set_option maxRecDepth 100000 in
set_option maxHeartbeats 4000000 in
theorem text_any (b : Nat) (l : Bool) (v : Nat) (w : World) (hx : IsW w b l v) (fv : Fits v) (ht : Tab w) :
    Calls Tryz.prog 51 #[.pointer (some ⟨b, 0, none⟩)] w fun e w' => e = .returned (.string (dec (sv l v))) ∧ Below w.heap.size w w' := by
  have c0 := hx.cell0
  have c1 := hx.cell1
  have nv := nw_le_of_fits fv
  rcases Nat.eq_zero_or_pos v with hv | hv
  · subst hv
    rw [nw_zero] at c1
    have c1' : w.cell? ⟨b, 1, none⟩ = some (.int .i64 0) := c1
    clear hx c1
    go_enter Tryz.func51, Tryz.ntmps51
    go_wp2_with fail
    go_ret
    exact ⟨ret_str (dec_sv_zero l).symm, Below.refl _ _⟩
  · have hn := nw_pos.2 hv
    have gn : ((nw v : Int) == 0) = false := beq_eq_false_iff_ne.2 (by omega)
    have HT := Hid.mk' ht
    have hbw := hx.size
    have HX := Hid.mk' hx
    clear hx ht
    have hv0 := Hid.mk' hv
    cases l
    · have HN := Hid.mk' (builder_new w 101 5)
      have HB0 : Hid (Below w.heap.size w (w.alloc (.cells #[.pointer none, .slice none 0 0] 101))) := (Below.refl _ _).alloc (Nat.le_refl _) _
      go_enter Tryz.func51, Tryz.ntmps51
      go_wp2_with fail
      generalize hW0 : w.alloc (.cells #[.pointer none, .slice none 0 0] 101) = W0 at HN HB0 ⊢
      clear hW0
      obtain ⟨W1, hW1⟩ : ∃ W1, W0 = W1 := ⟨_, rfl⟩
      rw [hW1] at HN HB0 ⊢
      clear hW1
      have HD : Hid (Lib.IsBuilder 101 5 w.heap.size w.heap.size (Lib.byteCells (pre false)) W1) := HN.out
      have HB := Hid.mk' HB0.out
      clear HN HB0
      have k1 : W1.cell? ⟨b, 1, none⟩ = some (.int .i64 (nw v : Int)) := (HX.out.below HB.out hbw).cell1
      obtain ⟨m, hm⟩ : ∃ m, nw v = m + 1 := ⟨nw v - 1, by omega⟩
      have hmm := Hid.mk' hm
      have hmb : m + 1 ≤ 232 := by omega
      have k2 := (HX.out.below HB.out hbw).cellw m (by omega)
      rw [W_get _ m (by omega)] at k2
      have hyl := word_lt v m
      unfold B at hyl
      have HY : Hid (Lib.decDigits (word v m) = Lib.decDigits (v / B ^ m)) := by
        have := top_word hv0.out
        rw [hm, Nat.add_sub_cancel] at this
        show _ = _
        rw [this]
      obtain ⟨y, hy⟩ : ∃ y, word v m = y := ⟨_, rfl⟩
      rw [hy] at k2 hyl HY
      have k1' : W1.cell? ⟨b, 1, none⟩ = some (.int .i64 ((m : Int) + 1)) := by rw [k1, hm]; rfl
      have ht1 := HT.out.below HB.out
      have HT1 := Hid.mk' ht1
      have hlw := Hid.mk' HB.out.size
      have hbW : b < W1.heap.size := Nat.lt_of_lt_of_le hbw HB.out.size
      have g1 : IntKind.i64.wrap ((m : Int) + 1 - 1) = (m : Int) := by rw [IntWalk.i64_in _ ⟨by omega, by omega⟩]; omega
      have g1' : IntKind.i64.wrap (m : Int) = (m : Int) := IntWalk.i64_in _ ⟨by omega, by omega⟩
      have g2 : (0 : Int) ≤ (m : Int) := by omega
      have g3 : (m : Int) < 232 := by omega
      have y0 : (0 : Int) ≤ (y : Int) := by omega
      obtain ⟨sd, hsd⟩ : ∃ sd, dec (y : Int) = sd := ⟨_, rfl⟩
      have HS : Hid (Lib.strCells sd = Lib.byteCells (Lib.decDigits y)) := by show _ = _; rw [← hsd]; exact bytes_dig y
      have hsz : Hid (sd.size ≤ 9) := by show _ ≤ _; rw [← hsd, size_list, dec_list, Lib.itoa, if_neg (by omega), Int.toNat_natCast]; exact len_word hyl
      clear k1 ht1 hy gn hm hn
      go_region_held3 (fun w' => w'.cell? ⟨b, 1, none⟩ = some (.int .i64 ((m : Int) + 1)) ∧ w'.cell? ⟨b, 2 + m, none⟩ = some (.int .i64 (y : Int))) (first | go_keep | assumption) (first | (go_at_call 63; refine (itoa_any _ (by omega) (by omega) _ (by exact HT1.out)).mono ?_; rw [hsd]; rintro e w5 ⟨rfl, hb5⟩; have k3 : w5.cell? ⟨b, 1, none⟩ = some (.int .i64 ((m : Int) + 1)) := (hb5.cell (p := ⟨b, 1, none⟩) hbW).trans k1'; have k4 : w5.cell? ⟨b, 2 + m, none⟩ = some (.int .i64 (y : Int)) := (hb5.cell (p := ⟨b, 2 + m, none⟩) hbW).trans k2; have h5 : Hid (Below W1.heap.size W1 w5) := Below.trans ((Below.refl _ W1).drew) hb5; clear hb5) | (go_at_call 79; refine (writeString_any w.heap.size w.heap.size (Lib.byteCells (pre false)) sd w5 (isb_below HD.out h5.out) (pre_room false hsz.out) (Nat.le_trans hlw.out h5.out.size)).mono ?_; rintro e w6 ⟨rfl, hb6, hb7⟩; have k5 : w6.cell? ⟨b, 1, none⟩ = some (.int .i64 ((m : Int) + 1)) := (hb7.cell (p := ⟨b, 1, none⟩) hbw).trans k3; have k6 : w6.cell? ⟨b, 2 + m, none⟩ = some (.int .i64 (y : Int)) := (hb7.cell (p := ⟨b, 2 + m, none⟩) hbw).trans k4; have D6 := Hid.mk' hb6; have B6 := Hid.mk' hb7; clear hb6 hb7))
      have HB6 := Hid.mk' (Below.trans (Below.trans HB.out (h5.out.mono hlw.out)) B6.out)
      have D7 : Hid (Lib.IsBuilder 101 5 w.heap.size w.heap.size (Lib.byteCells (pre false ++ Lib.decDigits (v / B ^ m))) w6) := by
        have := D6.out
        rw [HS.out, HY.out, ← Lib.byteCells_append] at this
        exact .inr this
      clear D6 HS hsz HD HB HT1 HY B6 k1' k2 k3 k4 g1 g1' g3 h5 hbW hlw y0 hyl k6 hsd
      go_wp2_with fail
      go_loopg [4] (m + 1) (fun g s4 wr => ∃ (k : Nat) (z : Int), s4 = .int .i64 z ∧ z + 1 = (k : Int) ∧ k + 1 ≤ g ∧ k ≤ m ∧ Hid (Lib.IsBuilder 101 5 w.heap.size w.heap.size (Lib.byteCells (pre false ++ Lib.decDigits (v / B ^ k))) wr) ∧ Below w.heap.size w wr)
      case atStart => exact ⟨m, _, rfl, by have := hmm.out; omega, Nat.le_refl _, Nat.le_refl _, D7.out, HB6.out⟩
      case round =>
        obtain ⟨k, z, rfl, hz, hg, hk, HD, hB⟩ := hrel
        have HB := Hid.mk' hB
        clear hB k5 D7 HB6
        rcases Nat.eq_zero_or_pos k with h0 | h0
        · subst h0
          obtain rfl : z = -1 := by omega
          have HL : Hid (dec (sv false v) = ⟨(pre false ++ Lib.decDigits (v / B ^ 0)).toArray⟩) := by show _ = _; unfold dec; rw [itoa_sv _ _ hv0.out, Nat.pow_zero, Nat.div_one]
          clear hz
          go_wp2_with fail
          refine (Tryz.Builder_String_any w.heap.size w.heap.size (pre false ++ Lib.decDigits (v / B ^ 0)) wr HD.out HB.out.size).mono ?_
          rintro e w7 ⟨rfl, hb7⟩
          have HB7 := Hid.mk' (Below.trans HB.out hb7)
          clear hb7
          go_wp2_with fail
          go_ret
          exact ⟨ret_str (by rw [HL.out, Nat.pow_zero, Nat.div_one]), HB7.out⟩
        · obtain ⟨i, rfl⟩ : ∃ i, k = i + 1 := ⟨k - 1, by omega⟩
          obtain rfl : z = (i : Int) := by omega
          clear hz h0
          have hm1 := hmm.out
          have a1 := (HX.out.below HB.out hbw).cellw i (by omega)
          rw [W_get _ i (by omega)] at a1
          have hyl := Hid.mk' (word_lt v i)
          have hy9 : word v i ≤ 999999999 := by have := hyl.out; unfold B at this; omega
          have hdn := Hid.mk' (decDigits_down v i (le_of_nw (by omega)))
          obtain ⟨y, hy⟩ : ∃ y, word v i = y := ⟨_, rfl⟩
          rw [hy] at a1 hyl hdn hy9
          have HT1 := Hid.mk' (HT.out.below HB.out)
          obtain ⟨sd2, hsd⟩ : ∃ sd, dec (y : Int) = sd := ⟨_, rfl⟩
          have hsl : sd2.data.toList = Lib.decDigits y := by rw [← hsd, dec_list, Lib.itoa, if_neg (by omega), Int.toNat_natCast]
          have hsz : sd2.size ≤ 9 := by rw [size_list, hsl]; exact len_word hyl.out
          have hsi : (sd2.size : Int) ≤ 9 := by omega
          have HS := Hid.mk' (zeros_pad sd2 y hsl hyl.out)
          have hdl := Hid.mk' (digits_le fv (i + 1))
          have hi2 : (i : Int) < 232 := by omega
          have hi0 : (0 : Int) ≤ (i : Int) := by omega
          clear hy hsl hm1
          go_wp2_with fail
          refine (itoa_any _ (by omega) (by omega) wr HT1.out).mono ?_
          rw [hsd]
          clear hsd
          rintro e w7 ⟨rfl, hb7⟩
          have HD7 := Hid.mk' (isb_below HD.out hb7)
          have HB7 := Hid.mk' (Below.trans HB.out (hb7.mono HB.out.size))
          clear hb7
          go_wp2_with fail
          refine (writeString_any w.heap.size w.heap.size (Lib.byteCells (pre false ++ Lib.decDigits (v / B ^ (i + 1)))) _ w7 HD7.out ?_ HB7.out.size).mono ?_
          · have h9 := congrArg List.length HS.out
            rw [Lib.strCells_length, Lib.byteCells_length, pad9_length hyl.out] at h9
            rw [h9, Lib.byteCells_length, List.length_append]
            have := pre_le false
            have := hdl.out
            omega
          · rintro e w8 ⟨rfl, hb8, hb9⟩
            have D8 : Hid (Lib.IsBuilder 101 5 w.heap.size w.heap.size (Lib.byteCells (pre false ++ Lib.decDigits (v / B ^ i))) w8) := by
              have := hb8
              rw [HS.out, ← Lib.byteCells_append, List.append_assoc, ← hdn.out] at this
              exact .inr this
            have HB8 := Hid.mk' (Below.trans HB7.out hb9)
            clear hb8 hb9
            go_wp2_with fail
            go_roundg (i + 1)
            case measure => omega
            case rel => exact ⟨i, (i : Int) - 1, rfl, by omega, Nat.le_refl _, by omega, D8.out, HB8.out⟩
    · have HN := Hid.mk' (builder_new w 101 5)
      have HB0 : Hid (Below w.heap.size w (w.alloc (.cells #[.pointer none, .slice none 0 0] 101))) := (Below.refl _ _).alloc (Nat.le_refl _) _
      go_enter Tryz.func51, Tryz.ntmps51
      go_wp2_with fail
      generalize hW0 : w.alloc (.cells #[.pointer none, .slice none 0 0] 101) = W0 at HN HB0 ⊢
      clear hW0
      refine (writeByte_any w.heap.size w.heap.size [] 45 W0 HN.out (by decide) (by have := HB0.out.size; omega)).mono ?_
      rintro e W1 ⟨rfl, hb1, hb2⟩
      have HD : Hid (Lib.IsBuilder 101 5 w.heap.size w.heap.size (Lib.byteCells (pre true)) W1) := .inr hb1
      have HB := Hid.mk' (Below.trans HB0.out hb2)
      clear hb1 hb2 HN HB0
      have k1 : W1.cell? ⟨b, 1, none⟩ = some (.int .i64 (nw v : Int)) := (HX.out.below HB.out hbw).cell1
      go_wp2_with fail
      obtain ⟨m, hm⟩ : ∃ m, nw v = m + 1 := ⟨nw v - 1, by omega⟩
      have hmm := Hid.mk' hm
      have hmb : m + 1 ≤ 232 := by omega
      have k2 := (HX.out.below HB.out hbw).cellw m (by omega)
      rw [W_get _ m (by omega)] at k2
      have hyl := word_lt v m
      unfold B at hyl
      have HY : Hid (Lib.decDigits (word v m) = Lib.decDigits (v / B ^ m)) := by
        have := top_word hv0.out
        rw [hm, Nat.add_sub_cancel] at this
        show _ = _
        rw [this]
      obtain ⟨y, hy⟩ : ∃ y, word v m = y := ⟨_, rfl⟩
      rw [hy] at k2 hyl HY
      have k1' : W1.cell? ⟨b, 1, none⟩ = some (.int .i64 ((m : Int) + 1)) := by rw [k1, hm]; rfl
      have ht1 := HT.out.below HB.out
      have HT1 := Hid.mk' ht1
      have hlw := Hid.mk' HB.out.size
      have hbW : b < W1.heap.size := Nat.lt_of_lt_of_le hbw HB.out.size
      have g1 : IntKind.i64.wrap ((m : Int) + 1 - 1) = (m : Int) := by rw [IntWalk.i64_in _ ⟨by omega, by omega⟩]; omega
      have g1' : IntKind.i64.wrap (m : Int) = (m : Int) := IntWalk.i64_in _ ⟨by omega, by omega⟩
      have g2 : (0 : Int) ≤ (m : Int) := by omega
      have g3 : (m : Int) < 232 := by omega
      have y0 : (0 : Int) ≤ (y : Int) := by omega
      obtain ⟨sd, hsd⟩ : ∃ sd, dec (y : Int) = sd := ⟨_, rfl⟩
      have HS : Hid (Lib.strCells sd = Lib.byteCells (Lib.decDigits y)) := by show _ = _; rw [← hsd]; exact bytes_dig y
      have hsz : Hid (sd.size ≤ 9) := by show _ ≤ _; rw [← hsd, size_list, dec_list, Lib.itoa, if_neg (by omega), Int.toNat_natCast]; exact len_word hyl
      clear k1 ht1 hy gn hm hn
      go_region_held3 (fun w' => w'.cell? ⟨b, 1, none⟩ = some (.int .i64 ((m : Int) + 1)) ∧ w'.cell? ⟨b, 2 + m, none⟩ = some (.int .i64 (y : Int))) (first | go_keep | assumption) (first | (go_at_call 63; refine (itoa_any _ (by omega) (by omega) _ (by exact HT1.out)).mono ?_; rw [hsd]; rintro e w5 ⟨rfl, hb5⟩; have k3 : w5.cell? ⟨b, 1, none⟩ = some (.int .i64 ((m : Int) + 1)) := (hb5.cell (p := ⟨b, 1, none⟩) hbW).trans k1'; have k4 : w5.cell? ⟨b, 2 + m, none⟩ = some (.int .i64 (y : Int)) := (hb5.cell (p := ⟨b, 2 + m, none⟩) hbW).trans k2; have h5 : Hid (Below W1.heap.size W1 w5) := Below.trans ((Below.refl _ W1).drew) hb5; clear hb5) | (go_at_call 79; refine (writeString_any w.heap.size w.heap.size (Lib.byteCells (pre true)) sd w5 (isb_below HD.out h5.out) (pre_room true hsz.out) (Nat.le_trans hlw.out h5.out.size)).mono ?_; rintro e w6 ⟨rfl, hb6, hb7⟩; have k5 : w6.cell? ⟨b, 1, none⟩ = some (.int .i64 ((m : Int) + 1)) := (hb7.cell (p := ⟨b, 1, none⟩) hbw).trans k3; have k6 : w6.cell? ⟨b, 2 + m, none⟩ = some (.int .i64 (y : Int)) := (hb7.cell (p := ⟨b, 2 + m, none⟩) hbw).trans k4; have D6 := Hid.mk' hb6; have B6 := Hid.mk' hb7; clear hb6 hb7))
      have HB6 := Hid.mk' (Below.trans (Below.trans HB.out (h5.out.mono hlw.out)) B6.out)
      have D7 : Hid (Lib.IsBuilder 101 5 w.heap.size w.heap.size (Lib.byteCells (pre true ++ Lib.decDigits (v / B ^ m))) w6) := by
        have := D6.out
        rw [HS.out, HY.out, ← Lib.byteCells_append] at this
        exact .inr this
      clear D6 HS hsz HD HB HT1 HY B6 k1' k2 k3 k4 g1 g1' g3 h5 hbW hlw y0 hyl k6 hsd
      go_wp2_with fail
      go_loopg [4] (m + 1) (fun g s4 wr => ∃ (k : Nat) (z : Int), s4 = .int .i64 z ∧ z + 1 = (k : Int) ∧ k + 1 ≤ g ∧ k ≤ m ∧ Hid (Lib.IsBuilder 101 5 w.heap.size w.heap.size (Lib.byteCells (pre true ++ Lib.decDigits (v / B ^ k))) wr) ∧ Below w.heap.size w wr)
      case atStart => exact ⟨m, _, rfl, by have := hmm.out; omega, Nat.le_refl _, Nat.le_refl _, D7.out, HB6.out⟩
      case round =>
        obtain ⟨k, z, rfl, hz, hg, hk, HD, hB⟩ := hrel
        have HB := Hid.mk' hB
        clear hB k5 D7 HB6
        rcases Nat.eq_zero_or_pos k with h0 | h0
        · subst h0
          obtain rfl : z = -1 := by omega
          have HL : Hid (dec (sv true v) = ⟨(pre true ++ Lib.decDigits (v / B ^ 0)).toArray⟩) := by show _ = _; unfold dec; rw [itoa_sv _ _ hv0.out, Nat.pow_zero, Nat.div_one]
          clear hz
          go_wp2_with fail
          refine (Tryz.Builder_String_any w.heap.size w.heap.size (pre true ++ Lib.decDigits (v / B ^ 0)) wr HD.out HB.out.size).mono ?_
          rintro e w7 ⟨rfl, hb7⟩
          have HB7 := Hid.mk' (Below.trans HB.out hb7)
          clear hb7
          go_wp2_with fail
          go_ret
          exact ⟨ret_str (by rw [HL.out, Nat.pow_zero, Nat.div_one]), HB7.out⟩
        · obtain ⟨i, rfl⟩ : ∃ i, k = i + 1 := ⟨k - 1, by omega⟩
          obtain rfl : z = (i : Int) := by omega
          clear hz h0
          have hm1 := hmm.out
          have a1 := (HX.out.below HB.out hbw).cellw i (by omega)
          rw [W_get _ i (by omega)] at a1
          have hyl := Hid.mk' (word_lt v i)
          have hy9 : word v i ≤ 999999999 := by have := hyl.out; unfold B at this; omega
          have hdn := Hid.mk' (decDigits_down v i (le_of_nw (by omega)))
          obtain ⟨y, hy⟩ : ∃ y, word v i = y := ⟨_, rfl⟩
          rw [hy] at a1 hyl hdn hy9
          have HT1 := Hid.mk' (HT.out.below HB.out)
          obtain ⟨sd2, hsd⟩ : ∃ sd, dec (y : Int) = sd := ⟨_, rfl⟩
          have hsl : sd2.data.toList = Lib.decDigits y := by rw [← hsd, dec_list, Lib.itoa, if_neg (by omega), Int.toNat_natCast]
          have hsz : sd2.size ≤ 9 := by rw [size_list, hsl]; exact len_word hyl.out
          have hsi : (sd2.size : Int) ≤ 9 := by omega
          have HS := Hid.mk' (zeros_pad sd2 y hsl hyl.out)
          have hdl := Hid.mk' (digits_le fv (i + 1))
          have hi2 : (i : Int) < 232 := by omega
          have hi0 : (0 : Int) ≤ (i : Int) := by omega
          clear hy hsl hm1
          go_wp2_with fail
          refine (itoa_any _ (by omega) (by omega) wr HT1.out).mono ?_
          rw [hsd]
          clear hsd
          rintro e w7 ⟨rfl, hb7⟩
          have HD7 := Hid.mk' (isb_below HD.out hb7)
          have HB7 := Hid.mk' (Below.trans HB.out (hb7.mono HB.out.size))
          clear hb7
          go_wp2_with fail
          refine (writeString_any w.heap.size w.heap.size (Lib.byteCells (pre true ++ Lib.decDigits (v / B ^ (i + 1)))) _ w7 HD7.out ?_ HB7.out.size).mono ?_
          · have h9 := congrArg List.length HS.out
            rw [Lib.strCells_length, Lib.byteCells_length, pad9_length hyl.out] at h9
            rw [h9, Lib.byteCells_length, List.length_append]
            have := pre_le true
            have := hdl.out
            omega
          · rintro e w8 ⟨rfl, hb8, hb9⟩
            have D8 : Hid (Lib.IsBuilder 101 5 w.heap.size w.heap.size (Lib.byteCells (pre true ++ Lib.decDigits (v / B ^ i))) w8) := by
              have := hb8
              rw [HS.out, ← Lib.byteCells_append, List.append_assoc, ← hdn.out] at this
              exact .inr this
            have HB8 := Hid.mk' (Below.trans HB7.out hb9)
            clear hb8 hb9
            go_wp2_with fail
            go_roundg (i + 1)
            case measure => omega
            case rel => exact ⟨i, (i : Int) - 1, rfl, by omega, Nat.le_refl _, by omega, D8.out, HB8.out⟩
end Go.Proofs.YtpkfnclbcmnckaaGreatDoor.Mem
set_option linter.unusedVariables false
namespace Go.Proofs.YtpkfnclbcmnckaaGreatDoor
open Go Go.RowKit Go.Proofs.YtpkfnclbcmnckaaGreatDoor.Dec Go.Proofs.YtpkfnclbcmnckaaGreatDoor.Mem
/-- What the package-level variables hold. -/
def Env (w : World) : Prop := Tab w ∧ ∃ ev, w.cell? ⟨1, 0, none⟩ = some ev ∧ (ev = .nilIface ∨ ∃ te pe, ev = .iface te pe)
theorem cell_lt {w : World} {a : Addr} {v : Value} (h : w.cell? a = some v) : a.block < w.heap.size := by
  rcases Nat.lt_or_ge a.block w.heap.size with h1 | h1
  · exact h1
  · unfold World.cell? at h
    rw [Array.getElem?_eq_none h1] at h
    cases h
theorem Env.below {w w' : World} (h : Env w) (hb : Below w.heap.size w w') : Env w' := by
  obtain ⟨h1, ev, h2, h3⟩ := h
  exact ⟨h1.below hb, ev, (hb.cell (p := ⟨1, 0, none⟩) (cell_lt h2)).trans h2, h3⟩
theorem not_empty (l : List UInt8) : (!l.isEmpty) = (l != []) := by cases l <;> rfl
def strings_TrimPrefix.f (a b : ByteArray) : Option ByteArray := if b.data.toList = [45] then some (magS a) else none
theorem strings_TrimPrefix.calls (a0 a1 : ByteArray) (r : ByteArray) (w : World) (h : strings_TrimPrefix.f a0 a1 = some r) :
    Calls Tryz.prog 61 #[.string a0, .string a1] w fun e w' => e = .returned (.string r) ∧ Below w.heap.size w w' := by
  unfold strings_TrimPrefix.f at h
  split at h
  · rename_i h1
    obtain rfl : a1 = ⟨#[45]⟩ := bytes_ext h1
    cases h
    exact (trim_any a0 w).mono fun _ _ ⟨he, hw⟩ => ⟨he, by rw [hw]; exact Below.refl _ _⟩
  · cases h
/-- Are all bytes digits? (strings.Trim with all digits, asked for its emptiness alone.) -/
def digs : ByteArray := ⟨#[48, 49, 50, 51, 52, 53, 54, 55, 56, 57]⟩
def strings_Trim.f (a b : ByteArray) : Option ByteArray := if b.data.toList = digs.data.toList ∧ a.size ≤ 9223372036854775807 then some ⟨(Lib.trimS a.data.toList digs.data.toList).toArray⟩ else none
set_option maxRecDepth 100000 in
theorem strings_Trim.calls (a0 a1 : ByteArray) (r : ByteArray) (w : World) (h : strings_Trim.f a0 a1 = some r) :
    Calls Tryz.prog 62 #[.string a0, .string a1] w fun e w' => e = .returned (.string r) ∧ Below w.heap.size w w' := by
  unfold strings_Trim.f at h
  split at h
  · rename_i h1
    obtain ⟨h1, h2⟩ := h1
    obtain rfl : a1 = digs := bytes_ext h1
    cases h
    exact Any.strings_Trim_laid Tryz.lays160 (by kernel_rfl) a0 digs w h2 (by decide) (ascii_of_all (l := digs.data.toList) (by kernel_rfl))
  · cases h
theorem dig_set (c : UInt8) : digs.data.toList.contains c = isDig c := by
  have h : ∀ n : Fin 256, digs.data.toList.contains (UInt8.ofNat n.1) = isDig (UInt8.ofNat n.1) := by decide +kernel
  have := h ⟨c.toNat, c.toNat_lt⟩
  simpa using this
theorem dropWhile_nil {α : Type} (p : α → Bool) : ∀ l : List α, l.dropWhile p = [] ↔ l.all p = true
  | [] => by simp
  | a :: l => by
    rw [List.dropWhile_cons, List.all_cons]
    cases h : p a
    · simp
    · simpa using dropWhile_nil p l
theorem trimS_digs (l : List UInt8) : Lib.trimS l digs.data.toList = [] ↔ l.all isDig = true := by
  unfold Lib.trimS Lib.trimLeftS Lib.trimRightS
  have he : (fun c : UInt8 => digs.data.toList.contains c) = isDig := funext dig_set
  rw [he, dropWhile_nil]
  constructor
  · intro h
    have h2 : (l.reverse.dropWhile isDig).all isDig = true := by rw [← List.all_reverse]; exact h
    have h3 : l.reverse.dropWhile isDig = [] := by
      cases hd : l.reverse.dropWhile isDig with
      | nil => rfl
      | cons c t =>
        have := List.head?_dropWhile_not (p := isDig) l.reverse
        rw [hd] at this h2
        simp at this h2
        rw [this] at h2
        simp at h2
    have := (dropWhile_nil isDig l.reverse).1 h3
    rwa [List.all_reverse] at this
  · intro h
    have := (dropWhile_nil isDig l.reverse).2 (by rwa [List.all_reverse])
    rw [this]; rfl
def strconv_Itoa.f (n : Int) : Option ByteArray := if -9223372036854775808 ≤ n ∧ n ≤ 9223372036854775807 then some (dec n) else none
theorem strconv_Itoa.calls (a0 : Int) (r : ByteArray) (w : World) (h : strconv_Itoa.f a0 = some r) (HE : Env w) :
    Calls Tryz.prog 63 #[.int .i64 a0] w fun e w' => e = .returned (.string r) ∧ Below w.heap.size w w' := by
  unfold strconv_Itoa.f at h
  split at h
  · rename_i h1
    cases h
    exact itoa_any a0 h1.1 h1.2 w HE.1
  · cases h
def strings_Compare.f (a b : ByteArray) : Option Int := some (Lib.compareBytes a.data.toList b.data.toList)
end Go.Proofs.YtpkfnclbcmnckaaGreatDoor
namespace Go.Proofs.YtpkfnclbcmnckaaGreatDoor.ZC
open Go.RowKit Go.Proofs.YtpkfnclbcmnckaaGreatDoorW.PrintWords Go.Proofs.YtpkfnclbcmnckaaGreatDoorW.PrintLast Go.Proofs.YtpkfnclbcmnckaaGreatDoorW.PrintMore
attribute [local go_sem] max2_int min2_int max_two min_two max_three min_three max_four min_four   -- for this text's walks alone
set_option linter.unusedVariables false
set_option linter.unusedSimpArgs false
def errW : Option Int → Value
  | none => .nilIface
  | some c => .iface 0 (.int .i64 c)
theorem errW_none : errW none = .nilIface := rfl
theorem errW_some (c : Int) : errW (some c) = .iface 0 (.int .i64 c) := rfl
end Go.Proofs.YtpkfnclbcmnckaaGreatDoor.ZC
namespace Go.Proofs.YtpkfnclbcmnckaaGreatDoor.ZC
open Go.RowKit Go.Proofs.YtpkfnclbcmnckaaGreatDoorW.PrintWords Go.Proofs.YtpkfnclbcmnckaaGreatDoorW.PrintLast Go.Proofs.YtpkfnclbcmnckaaGreatDoorW.PrintMore
attribute [local go_sem] max2_int min2_int max_two min_two max_three min_three max_four min_four   -- for this text's walks alone
set_option linter.unusedVariables false
set_option linter.unusedSimpArgs false
mutual
def whole_Check.j0 : Nat → ByteArray → ByteArray → Bool → Option (Int)
  | 0, _, _, _ => none
  | k + 1, x0, x3, x6 => if x6 = true then (some 3) else (if 0 < (x3.size : Int) then (if (bt x3 0) = 48 then (whole_Check.j1 k x3 (x0.toList != ([48] : List UInt8))) else (whole_Check.j1 k x3 false)) else (none))
def whole_Check.j1 : Nat → ByteArray → Bool → Option (Int)
  | 0, _, _ => none
  | k + 1, x3, x14 => if x14 = true then (some 3) else (if (x3.size : Int) > 1024 then (some 11) else (some 0))
end
def whole_Check.f (k : Nat) (a0 : ByteArray) : Option (Int) := (strings_TrimPrefix.f a0 (⟨#[45]⟩ : ByteArray)).bind fun t101 => (if t101.toList = ([] : List UInt8) then (whole_Check.j0 k a0 t101 true) else ((strings_Trim.f t101 (⟨#[48, 49, 50, 51, 52, 53, 54, 55, 56, 57]⟩ : ByteArray)).bind fun t102 => (whole_Check.j0 k a0 t101 (t102.toList != ([] : List UInt8)))))
theorem whole_Check.mono_l : ∀ k, (∀ y0 y1 y2, LeO (whole_Check.j0 k y0 y1 y2) (whole_Check.j0 (k + 1) y0 y1 y2)) ∧ (∀ y0 y1, LeO (whole_Check.j1 k y0 y1) (whole_Check.j1 (k + 1) y0 y1))
  | 0 => ⟨fun _ _ _ r h => by simp [whole_Check.j0] at h, fun _ _ r h => by simp [whole_Check.j1] at h⟩
  | k + 1 => by
    obtain ⟨ih0, ih1⟩ := whole_Check.mono_l k
    refine ⟨?_, ?_⟩
    · intro y0 y1 y2
      unfold whole_Check.j0
      repeat' first
      | (with_reducible exact ih0 _ _ _)
      | (with_reducible exact ih1 _ _)
      | (with_reducible exact LeO.refl _)
      | (with_reducible exact LeO.none _)
      | (with_reducible refine LeO.ite ?_ ?_)
      | (with_reducible refine LeO.bind ?_ (fun _ => ?_))
      | exact ih0 _ _ _
      | exact ih1 _ _
      | exact LeO.none _
      | refine LeO.ite ?_ ?_
      | refine LeO.bind ?_ (fun _ => ?_)
    · intro y0 y1
      unfold whole_Check.j1
      repeat' first
      | (with_reducible exact ih0 _ _ _)
      | (with_reducible exact ih1 _ _)
      | (with_reducible exact LeO.refl _)
      | (with_reducible exact LeO.none _)
      | (with_reducible refine LeO.ite ?_ ?_)
      | (with_reducible refine LeO.bind ?_ (fun _ => ?_))
      | exact ih0 _ _ _
      | exact ih1 _ _
      | exact LeO.none _
      | refine LeO.ite ?_ ?_
      | refine LeO.bind ?_ (fun _ => ?_)
theorem whole_Check.mono : ∀ a0 k, LeO (whole_Check.f k a0) (whole_Check.f (k + 1) a0) := by
  intro a0 k
  obtain ⟨ih0, ih1⟩ := whole_Check.mono_l k
  unfold whole_Check.f
  repeat' first
      | (with_reducible exact ih0 _ _ _)
      | (with_reducible exact ih1 _ _)
      | (with_reducible exact LeO.refl _)
      | (with_reducible exact LeO.none _)
      | (with_reducible refine LeO.ite ?_ ?_)
      | (with_reducible refine LeO.bind ?_ (fun _ => ?_))
      | exact ih0 _ _ _
      | exact ih1 _ _
      | exact LeO.none _
      | refine LeO.ite ?_ ?_
      | refine LeO.bind ?_ (fun _ => ?_)
set_option maxHeartbeats 8000000 in
set_option maxRecDepth 100000 in
theorem whole_Check.calls (k : Nat) (a0 : ByteArray) (r : Int) (w : World) (h : whole_Check.f k a0 = some r) :
    Calls Tryz.prog 28 #[.string a0] w fun e w' => e = .returned (.int .i64 r) ∧ Below w.heap.size w w' := by
  have HB := Aside0.mk (Below.refl w.heap.size w)
  have H : ((strings_TrimPrefix.f a0 (⟨#[45]⟩ : ByteArray)).bind fun t101 => (if t101.toList = ([] : List UInt8) then (whole_Check.j0 k a0 t101 true) else ((strings_Trim.f t101 (⟨#[48, 49, 50, 51, 52, 53, 54, 55, 56, 57]⟩ : ByteArray)).bind fun t102 => (whole_Check.j0 k a0 t101 (t102.toList != ([] : List UInt8)))))) = some r := h
  clear h
  replace H := Option.bind_eq_some_iff.mp H
  obtain ⟨t101, A20, H⟩ := H
  replace H : (if t101.toList = ([] : List UInt8) then (whole_Check.j0 k a0 t101 true) else ((strings_Trim.f t101 (⟨#[48, 49, 50, 51, 52, 53, 54, 55, 56, 57]⟩ : ByteArray)).bind fun t102 => (whole_Check.j0 k a0 t101 (t102.toList != ([] : List UInt8))))) = some r := H
  have A2 := Aside0.mk A20
  clear A20
  have HC3 := Aside0.mk H
  clear H
  go_enter Tryz.func28, Tryz.ntmps28
  go_upto_region 2 with (first | ((with_reducible refine gate_callee (f := 61) rfl ?_); refine goesL_ (some 5) rfl rfl Tryz.func61 (by kernel_rfl) rfl #[.string a0, .string (⟨#[45]⟩ : ByteArray)] rfl (by (try simp only [List.map_toArray, List.map_cons, List.map_nil]); first | done | rfl | (simp only [List.length_drop, List.length_take]; rfl)) ?_; (with_reducible refine (strings_TrimPrefix.calls a0 (⟨#[45]⟩ : ByteArray) t101 _ A2.out).mono ?_); rintro e w4 ⟨rfl, hb⟩; refine ⟨_, rfl, ?_⟩; have n0_ := Aside0.mk (below_step (by repeat (first | (with_reducible first | exact HB.out | apply below_alloc | apply pw_below_drewN | apply below_drew1) | exact HB.out)) hb); clear HB; have HB := n0_; clear n0_; (try clear hb); (try clear hb2); (try clear hk); (try clear hi)))
  (try simp only [Act.put, List.setIfInBounds_toArray, List.set_cons_zero, List.set_cons_succ])
  go_cut [6] (fun v6 wc => ∃ (kq : Nat) (x6_2 : Bool), v6 = .bool x6_2 ∧ Aside0 (whole_Check.j0 kq a0 t101 x6_2 = some r) ∧ Aside0 (kq ≤ k) ∧ Aside0 (Below w.heap.size w wc))
  case first =>
    have H := HC3.out
    clear HC3
    by_cases c5 : t101.toList = ([] : List UInt8)
    · rw [if_pos c5] at H
      have c5b0 : (t101.toList == ([] : List UInt8)) = true := beq_iff_eq.mpr c5
      have c5b1 : (t101.toList != ([] : List UInt8)) = false := bne_eq_false_iff_eq.mpr c5
      clear c5
      (first | rw [c5b0] | (simp only [i64_w, i32_w]; rw [c5b0]) | skip)
      have H' := Aside0.mk H
      clear H
      go_wp2
      go_meet
      case rel => exact ⟨_, (true), (by first | rfl | exact congrArg Value.bool (not_empty _) | exact congrArg Value.bool (is_empty _) | (simp; done) | (simp [*]; done)), H', ⟨by first | omega | exact Nat.le_refl _⟩, ⟨by repeat (first | (with_reducible first | exact HB.out | apply below_alloc | apply pw_below_drewN | apply below_drew1) | exact HB.out)⟩⟩
    · rw [if_neg c5] at H
      have c5b0 : (t101.toList == ([] : List UInt8)) = false := beq_eq_false_iff_ne.mpr c5
      have c5b1 : (t101.toList != ([] : List UInt8)) = true := bne_iff_ne.mpr c5
      (first | rw [c5b0] | (simp only [i64_w, i32_w]; rw [c5b0]) | skip)
      replace H := Option.bind_eq_some_iff.mp H
      obtain ⟨t102, A60, H⟩ := H
      replace H : (whole_Check.j0 k a0 t101 (t102.toList != ([] : List UInt8))) = some r := H
      have A6 := Aside0.mk A60
      clear A60
      have H' := Aside0.mk H
      clear H
      go_wp2_with (first | (go_at_call 62; (with_reducible refine (strings_Trim.calls t101 (⟨#[48, 49, 50, 51, 52, 53, 54, 55, 56, 57]⟩ : ByteArray) t102 _ A6.out).mono ?_); rintro e w7 ⟨rfl, hb⟩; have n0_ := Aside0.mk (below_step (by repeat (first | (with_reducible first | exact HB.out | apply below_alloc | apply pw_below_drewN | apply below_drew1) | exact HB.out)) hb); clear HB; have HB := n0_; clear n0_; (try clear hb); (try clear hb2); (try clear hk); (try clear hi)))
      go_meet
      case rel => exact ⟨_, ((t102.toList != ([] : List UInt8))), (by first | rfl | exact congrArg Value.bool (not_empty _) | exact congrArg Value.bool (is_empty _) | (simp; done) | (simp [*]; done)), H', ⟨by first | omega | exact Nat.le_refl _⟩, ⟨by repeat (first | (with_reducible first | exact HB.out | apply below_alloc | apply pw_below_drewN | apply below_drew1) | exact HB.out)⟩⟩
  case rest =>
    clear HC3
    try clear c2
    try clear p2
    try clear c5
    try clear c5b0
    try clear c5b1
    try clear c6
    obtain ⟨kq, x6_2, rfl, HA, HJ2, HB⟩ := hcut
    cases kq with
    | zero => exact absurd HA.out (by simp [whole_Check.j0])
    | succ kj2 =>
      have H := HA.out
      clear HA
      simp only [whole_Check.j0] at H
      by_cases c8 : x6_2 = true
      · subst c8
        have H1 : (some 3) = some r := by rw [if_pos rfl] at H; exact H
        clear H
        have H := H1
        clear H1
        obtain rfl := Option.some.inj H
        go_wp2
        go_ret
        exact ⟨by first | rfl | (simp [errW_none, errW_some] <;> rfl) | (simp [*, errW_none, errW_some] <;> rfl), by repeat (first | (with_reducible first | exact HB.out | apply below_alloc | apply pw_below_drewN | apply below_drew1) | exact HB.out)⟩
      · replace c8 := Bool.eq_false_iff.mpr c8
        subst c8
        have H1 : (if 0 < (t101.size : Int) then (if (bt t101 0) = 48 then (whole_Check.j1 kj2 t101 (a0.toList != ([48] : List UInt8))) else (whole_Check.j1 kj2 t101 false)) else (none)) = some r := by rw [if_neg (show ¬ (false = true) by decide)] at H; exact H
        clear H
        have H := H1
        clear H1
        have HC9 := Aside0.mk H
        clear H
        go_upto_region 4 with (fail)
        go_cut [14] (fun v14 wc => ∃ (kq : Nat) (x14_8 : Bool), v14 = .bool x14_8 ∧ Aside0 (whole_Check.j1 kq t101 x14_8 = some r) ∧ Aside0 (kq ≤ kj2) ∧ Aside0 (Below w.heap.size w wc))
        case first =>
          have H := HC9.out
          clear HC9
          by_cases c10 : 0 < (t101.size : Int)
          · rw [if_pos c10] at H
            have c10b0 : decide (0 < (t101.size : Int)) = true := decide_eq_true c10
            have c10b1 : decide (0 < t101.size) = true := decide_eq_true (by omega)
            clear c10
            (first | rw [c10b0] | (simp only [i64_w, i32_w]; rw [c10b0]) | skip)
            by_cases c12 : (bt t101 0) = 48
            · rw [if_pos c12] at H
              have c12b0 : ((bt t101 0) == 48) = true := beq_iff_eq.mpr c12
              have c12b1 : ((bt t101 0) != 48) = false := bne_eq_false_iff_eq.mpr c12
              clear c12
              have H' := Aside0.mk H
              clear H
              have p11 : 0 ≤ (0 : Int) := (by omega)
              have q11 : 0 < t101.size := (by have : (0 : Int) < (t101.size : Int) := of_decide_eq_true (by first | (with_reducible assumption) | assumption); omega)
              have hx11 : ∀ h : 0 < t101.size, ((t101[0]'h).toNat : Int) = bt t101 0 := bt_at t101 0
              clear p11
              have qi11 : (0 < (t101.size : Int)) = True := eq_true (of_decide_eq_true (by first | (with_reducible assumption) | assumption))
              replace q11 := eq_true q11
              go_wp2
              go_meet
              case rel => exact ⟨_, ((a0.toList != ([48] : List UInt8))), (by first | rfl | exact congrArg Value.bool (not_empty _) | exact congrArg Value.bool (is_empty _) | (simp; done) | (simp [*]; done)), H', ⟨by have := HJ2.out; first | omega | exact Nat.le_refl _⟩, ⟨by repeat (first | (with_reducible first | exact HB.out | apply below_alloc | apply pw_below_drewN | apply below_drew1) | exact HB.out)⟩⟩
            · rw [if_neg c12] at H
              have c12b0 : ((bt t101 0) == 48) = false := beq_eq_false_iff_ne.mpr c12
              have c12b1 : ((bt t101 0) != 48) = true := bne_iff_ne.mpr c12
              have H' := Aside0.mk H
              clear H
              have p11 : 0 ≤ (0 : Int) := (by omega)
              have q11 : 0 < t101.size := (by have : (0 : Int) < (t101.size : Int) := of_decide_eq_true (by first | (with_reducible assumption) | assumption); omega)
              have hx11 : ∀ h : 0 < t101.size, ((t101[0]'h).toNat : Int) = bt t101 0 := bt_at t101 0
              clear p11
              have qi11 : (0 < (t101.size : Int)) = True := eq_true (of_decide_eq_true (by first | (with_reducible assumption) | assumption))
              replace q11 := eq_true q11
              go_wp2
              go_meet
              case rel => exact ⟨_, (false), (by first | rfl | exact congrArg Value.bool (not_empty _) | exact congrArg Value.bool (is_empty _) | (simp; done) | (simp [*]; done)), H', ⟨by have := HJ2.out; first | omega | exact Nat.le_refl _⟩, ⟨by repeat (first | (with_reducible first | exact HB.out | apply below_alloc | apply pw_below_drewN | apply below_drew1) | exact HB.out)⟩⟩
          · rw [if_neg c10] at H
            exact absurd H (by simp)
        case rest =>
          clear HC9
          try clear c1
          try clear p1
          try clear q1
          try clear hx1
          try clear qi1
          try clear c2
          try clear p2
          try clear c5
          try clear c5b0
          try clear c5b1
          try clear c6
          try clear c8
          try clear c10
          try clear c10b0
          try clear c10b1
          try clear p11
          try clear q11
          try clear hx11
          try clear qi11
          try clear c12
          try clear c12b0
          try clear c12b1
          try clear p11
          try clear p2
          try clear q11
          obtain ⟨kq, x14_8, rfl, HA, HJ8, HB⟩ := hcut
          cases kq with
          | zero => exact absurd HA.out (by simp [whole_Check.j1])
          | succ kj8 =>
            have H := HA.out
            clear HA
            simp only [whole_Check.j1] at H
            by_cases c13 : x14_8 = true
            · subst c13
              have H1 : (some 3) = some r := by rw [if_pos rfl] at H; exact H
              clear H
              have H := H1
              clear H1
              obtain rfl := Option.some.inj H
              go_wp2
              go_ret
              exact ⟨by first | rfl | (simp [errW_none, errW_some] <;> rfl) | (simp [*, errW_none, errW_some] <;> rfl), by repeat (first | (with_reducible first | exact HB.out | apply below_alloc | apply pw_below_drewN | apply below_drew1) | exact HB.out)⟩
            · replace c13 := Bool.eq_false_iff.mpr c13
              subst c13
              have H1 : (if (t101.size : Int) > 1024 then (some 11) else (some 0)) = some r := by rw [if_neg (show ¬ (false = true) by decide)] at H; exact H
              clear H
              have H := H1
              clear H1
              by_cases c14 : (t101.size : Int) > 1024
              · rw [if_pos c14] at H
                have c14b0 : decide (1024 < (t101.size : Int)) = true := decide_eq_true c14
                have c14b1 : decide (1024 < t101.size) = true := decide_eq_true (by omega)
                clear c14
                obtain rfl := Option.some.inj H
                go_wp2
                go_ret
                exact ⟨by first | rfl | (simp [errW_none, errW_some] <;> rfl) | (simp [*, errW_none, errW_some] <;> rfl), by repeat (first | (with_reducible first | exact HB.out | apply below_alloc | apply pw_below_drewN | apply below_drew1) | exact HB.out)⟩
              · rw [if_neg c14] at H
                have c14b0 : decide (1024 < (t101.size : Int)) = false := decide_eq_false c14
                have c14b1 : decide (1024 < t101.size) = false := decide_eq_false (by omega)
                clear c14
                obtain rfl := Option.some.inj H
                go_wp2
                go_ret
                exact ⟨by first | rfl | (simp [errW_none, errW_some] <;> rfl) | (simp [*, errW_none, errW_some] <;> rfl), by repeat (first | (with_reducible first | exact HB.out | apply below_alloc | apply pw_below_drewN | apply below_drew1) | exact HB.out)⟩
def whole_all.l0 : Nat → List ByteArray → Int → Int → Option (Int)
  | 0, _, _, _ => none
  | k + 1, x6, x7, x8 => if x8 < x7 then (if 0 ≤ x8 then (if x8 < (x6.length : Int) then ((whole_Check.f k (rdOf ByteArray.empty x6 x8)).bind fun t104 => (if t104 = 0 then (whole_all.l0 k x6 x7 (wrap64 (x8 + 1))) else (some t104))) else (none)) else (none)) else (some 0)
def whole_all.f (k : Nat) (l0 : List ByteArray) : Option (Int) := whole_all.l0 k l0 (l0.length : Int) 0
theorem whole_all.mono_l : ∀ k, (∀ y0 y1 y2, LeO (whole_all.l0 k y0 y1 y2) (whole_all.l0 (k + 1) y0 y1 y2))
  | 0 => fun _ _ _ r h => by simp [whole_all.l0] at h
  | k + 1 => by
    have ih0 := whole_all.mono_l k
    · intro y0 y1 y2
      unfold whole_all.l0
      repeat' first
      | (with_reducible exact ih0 _ _ _)
      | (with_reducible exact whole_Check.mono _ _)
      | (with_reducible exact LeO.refl _)
      | (with_reducible exact LeO.none _)
      | (with_reducible refine LeO.ite ?_ ?_)
      | (with_reducible refine LeO.bind ?_ (fun _ => ?_))
      | exact ih0 _ _ _
      | exact whole_Check.mono _ _
      | exact LeO.none _
      | refine LeO.ite ?_ ?_
      | refine LeO.bind ?_ (fun _ => ?_)
theorem whole_all.mono : ∀ a0 k, LeO (whole_all.f k a0) (whole_all.f (k + 1) a0) := by
  intro a0 k
  have ih0 := whole_all.mono_l k
  unfold whole_all.f
  repeat' first
      | (with_reducible exact ih0 _ _ _)
      | (with_reducible exact whole_Check.mono _ _)
      | (with_reducible exact LeO.refl _)
      | (with_reducible exact LeO.none _)
      | (with_reducible refine LeO.ite ?_ ?_)
      | (with_reducible refine LeO.bind ?_ (fun _ => ?_))
      | exact ih0 _ _ _
      | exact whole_Check.mono _ _
      | exact LeO.none _
      | refine LeO.ite ?_ ?_
      | refine LeO.bind ?_ (fun _ => ?_)
set_option maxHeartbeats 8000000 in
set_option maxRecDepth 100000 in
theorem whole_all.calls (k : Nat) (A0 : Option Addr) (c0 : Nat) (l0 : List ByteArray) (r : Int) (w : World) (hr0 : Kd.C Kd.string w A0 l0.length l0) (hc0 : l0.length ≤ c0) (h : whole_all.f k l0 = some r) :
    Calls Tryz.prog 39 #[.slice A0 l0.length c0] w fun e w' => e = .returned (.int .i64 r) ∧ Below w.heap.size w w' := by
  have HR0 := Aside0.mk hr0
  have HC0 := Aside0.mk hc0
  clear hr0 hc0
  have HB := Aside0.mk (Below.refl w.heap.size w)
  have H : (whole_all.l0 k l0 (l0.length : Int) 0) = some r := h
  clear h
  have H' := Aside0.mk H
  clear H
  go_enter Tryz.func39, Tryz.ntmps39
  go_wp2
  go_loopg [8] k (fun kq v8 w' => ∃ (x8_1 : Int), v8 = .int .i64 x8_1 ∧ Aside0 (whole_all.l0 kq l0 (l0.length : Int) x8_1 = some r) ∧ Aside0 (kq ≤ k) ∧ Aside0 (Below w.heap.size w w'))
  case atStart => exact ⟨(0), (by first | rfl | exact congrArg Value.bool (not_empty _) | exact congrArg Value.bool (is_empty _) | (simp; done) | (simp [*]; done)), H', ⟨Nat.le_refl _⟩, ⟨by repeat (first | (with_reducible first | exact HB.out | apply below_alloc | apply pw_below_drewN | apply below_drew1) | exact HB.out)⟩⟩
  case round =>
    clear H'
    obtain ⟨x8_1, rfl, HA, HK1, HB⟩ := hrel
    cases gk with
    | zero => exact absurd HA.out (by simp [whole_all.l0])
    | succ k1 =>
      have H := HA.out
      clear HA
      simp only [whole_all.l0] at H
      by_cases c2 : x8_1 < (l0.length : Int)
      · rw [if_pos c2] at H
        have c2b0 : decide (x8_1 < (l0.length : Int)) = true := decide_eq_true c2
        clear c2
        by_cases c3 : 0 ≤ x8_1
        · rw [if_pos c3] at H
          have c3b0 : decide (0 ≤ x8_1) = true := decide_eq_true c3
          clear c3
          by_cases c4 : x8_1 < (l0.length : Int)
          · rw [if_pos c4] at H
            have c4b0 : decide (x8_1 < (l0.length : Int)) = true := decide_eq_true c4
            clear c4
            replace H := Option.bind_eq_some_iff.mp H
            obtain ⟨t104, A50, H⟩ := H
            replace H : (if t104 = 0 then (whole_all.l0 k1 l0 (l0.length : Int) (wrap64 (x8_1 + 1))) else (some t104)) = some r := H
            have A5 := Aside0.mk A50
            clear A50
            by_cases c6 : t104 = 0
            · rw [if_pos c6] at H
              have c6b0 : (t104 == 0) = true := beq_iff_eq.mpr c6
              have c6b1 : (t104 != 0) = false := bne_eq_false_iff_eq.mpr c6
              clear c6
              have H' := Aside0.mk H
              clear H
              have p103 : 0 ≤ (x8_1 : Int) := of_decide_eq_true (by first | (with_reducible assumption) | assumption)
              have q103 : x8_1 < (l0.length : Int) := of_decide_eq_true (by first | (with_reducible assumption) | assumption)
              obtain ⟨ad103, e103, hx103_0⟩ := Kd.at_string HR0.out x8_1 p103 q103
              cases e103
              replace hx103_0 := (HB.out.cell (World.block_lt_of_cell? w _ hx103_0)).trans hx103_0
              replace p103 := eq_true p103
              replace q103 := eq_true q103
              go_wp2_with (first | ((with_reducible refine gate_callee (f := 28) rfl ?_); refine goesL_ (some 13) rfl rfl Tryz.func28 (by kernel_rfl) rfl #[.string (rdOf ByteArray.empty l0 x8_1)] rfl (by (try simp only [List.map_toArray, List.map_cons, List.map_nil]); first | done | rfl | (simp only [List.length_drop, List.length_take]; rfl)) ?_; (with_reducible refine (whole_Check.calls k1 (rdOf ByteArray.empty l0 x8_1) t104 _ A5.out).mono ?_); rintro e w7 ⟨rfl, hb⟩; refine ⟨_, rfl, ?_⟩; have n0_ := Aside0.mk (below_step (by repeat (first | (with_reducible first | exact HB.out | apply below_alloc | apply pw_below_drewN | apply below_drew1) | exact HB.out)) hb); clear HB; have HB := n0_; clear n0_; (try clear hb); (try clear hb2); (try clear hk); (try clear hi)))
              go_roundg k1
              case measure => have := HK1.out; omega
              case rel => exact ⟨(wrap64 (x8_1 + 1)), (by first | rfl | exact congrArg Value.bool (not_empty _) | exact congrArg Value.bool (is_empty _) | (simp; done) | (simp [*]; done)), H', ⟨by have := HK1.out; omega⟩, ⟨by repeat (first | (with_reducible first | exact HB.out | apply below_alloc | apply pw_below_drewN | apply below_drew1) | exact HB.out)⟩⟩
            · rw [if_neg c6] at H
              have c6b0 : (t104 == 0) = false := beq_eq_false_iff_ne.mpr c6
              have c6b1 : (t104 != 0) = true := bne_iff_ne.mpr c6
              obtain rfl := Option.some.inj H
              have p103 : 0 ≤ (x8_1 : Int) := of_decide_eq_true (by first | (with_reducible assumption) | assumption)
              have q103 : x8_1 < (l0.length : Int) := of_decide_eq_true (by first | (with_reducible assumption) | assumption)
              obtain ⟨ad103, e103, hx103_0⟩ := Kd.at_string HR0.out x8_1 p103 q103
              cases e103
              replace hx103_0 := (HB.out.cell (World.block_lt_of_cell? w _ hx103_0)).trans hx103_0
              replace p103 := eq_true p103
              replace q103 := eq_true q103
              go_wp2_with (first | ((with_reducible refine gate_callee (f := 28) rfl ?_); refine goesL_ (some 13) rfl rfl Tryz.func28 (by kernel_rfl) rfl #[.string (rdOf ByteArray.empty l0 x8_1)] rfl (by (try simp only [List.map_toArray, List.map_cons, List.map_nil]); first | done | rfl | (simp only [List.length_drop, List.length_take]; rfl)) ?_; (with_reducible refine (whole_Check.calls k1 (rdOf ByteArray.empty l0 x8_1) t104 _ A5.out).mono ?_); rintro e w8 ⟨rfl, hb⟩; refine ⟨_, rfl, ?_⟩; have n0_ := Aside0.mk (below_step (by repeat (first | (with_reducible first | exact HB.out | apply below_alloc | apply pw_below_drewN | apply below_drew1) | exact HB.out)) hb); clear HB; have HB := n0_; clear n0_; (try clear hb); (try clear hb2); (try clear hk); (try clear hi)))
              go_ret
              exact ⟨by first | rfl | (simp [errW_none, errW_some] <;> rfl) | (simp [*, errW_none, errW_some] <;> rfl), by repeat (first | (with_reducible first | exact HB.out | apply below_alloc | apply pw_below_drewN | apply below_drew1) | exact HB.out)⟩
          · rw [if_neg c4] at H
            exact absurd H (by simp)
        · rw [if_neg c3] at H
          exact absurd H (by simp)
      · rw [if_neg c2] at H
        have c2b0 : decide (x8_1 < (l0.length : Int)) = false := decide_eq_false c2
        clear c2
        obtain rfl := Option.some.inj H
        go_wp2
        go_ret
        exact ⟨by first | rfl | (simp [errW_none, errW_some] <;> rfl) | (simp [*, errW_none, errW_some] <;> rfl), by repeat (first | (with_reducible first | exact HB.out | apply below_alloc | apply pw_below_drewN | apply below_drew1) | exact HB.out)⟩
def whole_Of.f (a0 : Int) : Option (ByteArray) := (strconv_Itoa.f a0).bind fun t105 => (some t105)
set_option maxHeartbeats 8000000 in
set_option maxRecDepth 100000 in
theorem whole_Of.calls (a0 : Int) (r : ByteArray) (w : World) (h : whole_Of.f a0 = some r) (HE_ : Env w) :
    Calls Tryz.prog 30 #[.int .i64 a0] w fun e w' => e = .returned (.string r) ∧ Below w.heap.size w w' := by
  have ENV0 := Aside0.mk HE_
  clear HE_
  have HB := Aside0.mk (Below.refl w.heap.size w)
  have H : ((strconv_Itoa.f a0).bind fun t105 => (some t105)) = some r := h
  clear h
  replace H := Option.bind_eq_some_iff.mp H
  obtain ⟨t105, A20, H⟩ := H
  replace H : (some t105) = some r := H
  have A2 := Aside0.mk A20
  clear A20
  obtain rfl := Option.some.inj H
  go_enter Tryz.func30, Tryz.ntmps30
  go_wp2_with (first | ((with_reducible refine gate_callee (f := 63) rfl ?_); refine goesL_ (some 4) rfl rfl Tryz.func63 (by kernel_rfl) rfl #[.int .i64 a0] rfl (by (try simp only [List.map_toArray, List.map_cons, List.map_nil]); first | done | rfl | (simp only [List.length_drop, List.length_take]; rfl)) ?_; (with_reducible refine (strconv_Itoa.calls a0 t105 _ A2.out (Env.below ENV0.out (by repeat (first | (with_reducible first | exact HB.out | apply below_alloc | apply pw_below_drewN | apply below_drew1) | exact HB.out)))).mono ?_); rintro e w3 ⟨rfl, hb⟩; refine ⟨_, rfl, ?_⟩; have n0_ := Aside0.mk (below_step (by repeat (first | (with_reducible first | exact HB.out | apply below_alloc | apply pw_below_drewN | apply below_drew1) | exact HB.out)) hb); clear HB; have HB := n0_; clear n0_; (try clear hb); (try clear hb2); (try clear hk); (try clear hi)))
  go_ret
  exact ⟨by first | rfl | (simp [errW_none, errW_some] <;> rfl) | (simp [*, errW_none, errW_some] <;> rfl), by repeat (first | (with_reducible first | exact HB.out | apply below_alloc | apply pw_below_drewN | apply below_drew1) | exact HB.out)⟩
def whole_result.f (a0 : Int) : Option (ByteArray × Int) := (whole_Of.f a0).bind fun t106 => (some (t106, 0))
set_option maxHeartbeats 8000000 in
set_option maxRecDepth 100000 in
theorem whole_result.calls (a0 : Int) (r1 : ByteArray) (r2 : Int) (w : World) (h : whole_result.f a0 = some (r1, r2)) (HE_ : Env w) :
    Calls Tryz.prog 41 #[.int .i64 a0] w fun e w' => e = .returned (.tuple #[.string r1, .int .i64 r2]) ∧ Below w.heap.size w w' := by
  have ENV0 := Aside0.mk HE_
  clear HE_
  have HB := Aside0.mk (Below.refl w.heap.size w)
  have H : ((whole_Of.f a0).bind fun t106 => (some (t106, 0))) = some (r1, r2) := h
  clear h
  replace H := Option.bind_eq_some_iff.mp H
  obtain ⟨t106, A20, H⟩ := H
  replace H : (some (t106, 0)) = some (r1, r2) := H
  have A2 := Aside0.mk A20
  clear A20
  simp only [Option.some.injEq, Prod.mk.injEq] at H
  obtain ⟨rfl, rfl⟩ := H
  go_enter Tryz.func41, Tryz.ntmps41
  go_wp2_with (first | ((with_reducible refine gate_callee (f := 30) rfl ?_); refine goesL_ (some 5) rfl rfl Tryz.func30 (by kernel_rfl) rfl #[.int .i64 a0] rfl (by (try simp only [List.map_toArray, List.map_cons, List.map_nil]); first | done | rfl | (simp only [List.length_drop, List.length_take]; rfl)) ?_; (with_reducible refine (whole_Of.calls a0 t106 _ A2.out (Env.below ENV0.out (by repeat (first | (with_reducible first | exact HB.out | apply below_alloc | apply pw_below_drewN | apply below_drew1) | exact HB.out)))).mono ?_); rintro e w3 ⟨rfl, hb⟩; refine ⟨_, rfl, ?_⟩; have n0_ := Aside0.mk (below_step (by repeat (first | (with_reducible first | exact HB.out | apply below_alloc | apply pw_below_drewN | apply below_drew1) | exact HB.out)) hb); clear HB; have HB := n0_; clear n0_; (try clear hb); (try clear hb2); (try clear hk); (try clear hi)))
  go_ret2
  exact ⟨by first | rfl | (simp [errW_none, errW_some] <;> rfl) | (simp [*, errW_none, errW_some] <;> rfl), by repeat (first | (with_reducible first | exact HB.out | apply below_alloc | apply pw_below_drewN | apply below_drew1) | exact HB.out)⟩
def whole_sign.f (a0 : ByteArray) : Option (Int) := if a0.toList = ([48] : List UInt8) then (some 0) else (if 0 < (a0.size : Int) then (if (bt a0 0) = 45 then (some (-1)) else (some 1)) else (none))
def whole_opposite.f (a0 : ByteArray) : Option (ByteArray) := (whole_sign.f a0).bind fun t107 => (if t107 = 0 then (some a0) else (if t107 = 1 then (if 1 + a0.size ≤ 9223372036854775807 then (some ((⟨#[45]⟩ : ByteArray) ++ a0)) else (none)) else (if 1 ≤ (a0.size : Int) then (some (a0.extract 1 a0.size)) else (none))))
def whole_Neg.f (k : Nat) (a0 : ByteArray) : Option (ByteArray × Int) := (whole_Check.f k a0).bind fun t108 => (if t108 = 0 then ((whole_opposite.f a0).bind fun t109 => (some (t109, 0))) else (some ((⟨#[]⟩ : ByteArray), t108)))
theorem whole_Neg.mono : ∀ a0 k, LeO (whole_Neg.f k a0) (whole_Neg.f (k + 1) a0) := by
  intro a0 k
  unfold whole_Neg.f
  repeat' first
      | (with_reducible exact whole_Check.mono _ _)
      | (with_reducible exact LeO.refl _)
      | (with_reducible exact LeO.none _)
      | (with_reducible refine LeO.ite ?_ ?_)
      | (with_reducible refine LeO.bind ?_ (fun _ => ?_))
      | exact whole_Check.mono _ _
      | exact LeO.none _
      | refine LeO.ite ?_ ?_
      | refine LeO.bind ?_ (fun _ => ?_)
def whole_order.f (a0 : ByteArray) (a1 : ByteArray) : Option (Int) := if (a0.size : Int) = (a1.size : Int) then ((strings_Compare.f a0 a1).bind fun t110 => (some t110)) else (if (a0.size : Int) < (a1.size : Int) then (some (-1)) else (some 1))
def whole_Compare.f (k : Nat) (a0 : ByteArray) (a1 : ByteArray) : Option (Int × Int) := (whole_all.f k (([a0, a1] : List ByteArray))).bind fun t114 => (if t114 = 0 then ((whole_sign.f a0).bind fun t115 => ((whole_sign.f a1).bind fun t116 => (if t115 < t116 then (some ((-1), 0)) else ((whole_sign.f a1).bind fun t117 => (if t115 > t117 then (some (1, 0)) else ((strings_TrimPrefix.f a0 (⟨#[45]⟩ : ByteArray)).bind fun t118 => ((strings_TrimPrefix.f a1 (⟨#[45]⟩ : ByteArray)).bind fun t119 => ((whole_order.f t118 t119).bind fun t120 => (some (wrap64 (t115 * t120), 0)))))))))) else (some (0, t114)))
theorem whole_Compare.mono : ∀ a0 a1 k, LeO (whole_Compare.f k a0 a1) (whole_Compare.f (k + 1) a0 a1) := by
  intro a0 a1 k
  unfold whole_Compare.f
  repeat' first
      | (with_reducible exact whole_all.mono _ _)
      | (with_reducible exact LeO.refl _)
      | (with_reducible exact LeO.none _)
      | (with_reducible refine LeO.ite ?_ ?_)
      | (with_reducible refine LeO.bind ?_ (fun _ => ?_))
      | exact whole_all.mono _ _
      | exact LeO.none _
      | refine LeO.ite ?_ ?_
      | refine LeO.bind ?_ (fun _ => ?_)
def whole_Sign.f (k : Nat) (a0 : ByteArray) : Option (Int × Int) := (whole_Check.f k a0).bind fun t121 => (if t121 = 0 then ((whole_sign.f a0).bind fun t122 => (some (t122, 0))) else (some (0, t121)))
theorem whole_Sign.mono : ∀ a0 k, LeO (whole_Sign.f k a0) (whole_Sign.f (k + 1) a0) := by
  intro a0 k
  unfold whole_Sign.f
  repeat' first
      | (with_reducible exact whole_Check.mono _ _)
      | (with_reducible exact LeO.refl _)
      | (with_reducible exact LeO.none _)
      | (with_reducible refine LeO.ite ?_ ?_)
      | (with_reducible refine LeO.bind ?_ (fun _ => ?_))
      | exact whole_Check.mono _ _
      | exact LeO.none _
      | refine LeO.ite ?_ ?_
      | refine LeO.bind ?_ (fun _ => ?_)
end Go.Proofs.YtpkfnclbcmnckaaGreatDoor.ZC
set_option linter.unusedVariables false
namespace Go.Proofs.YtpkfnclbcmnckaaGreatDoor
open Go Go.RowKit Go.Proofs.YtpkfnclbcmnckaaGreatDoor.Dec Go.Proofs.YtpkfnclbcmnckaaGreatDoor.Mem Go.Proofs.YtpkfnclbcmnckaaGreatDoorW.PrintWords
theorem toL (s : ByteArray) : s.toList = s.data.toList := ByteArray.toList_eq s
theorem bt_nat (s : ByteArray) (i : Nat) : bt s (i : Int) = ((s.data.toList.getD i 0).toNat : Int) := by
  unfold bt
  rw [Int.toNat_natCast]
  by_cases h : i < s.size
  · rw [dif_pos h]
    have h2 : i < s.data.toList.length := by rw [← size_list]; exact h
    rw [List.getD_eq_getElem?_getD, List.getElem?_eq_getElem h2, Option.getD_some]
    rfl
  · rw [dif_neg h]
    have h2 : s.data.toList.length ≤ i := by rw [← size_list]; omega
    rw [List.getD_eq_getElem?_getD, List.getElem?_eq_none h2]
    rfl
theorem Ev.pos {α : Type} {c : Prop} [Decidable c] {f g : Nat → Option α} {r : α} (hc : c) (h : Ev f r) : Ev (fun n => if c then f n else g n) r :=
  Ev.congr (fun n => if_pos hc) h
theorem Ev.neg {α : Type} {c : Prop} [Decidable c] {f g : Nat → Option α} {r : α} (hc : ¬ c) (h : Ev g r) : Ev (fun n => if c then f n else g n) r :=
  Ev.congr (fun n => if_neg hc) h
/-- After a given number of rounds. -/
theorem Ev.after {α : Type} {g : Nat → Option α} {r : α} (K : Nat) (h : ∀ m, g (m + K) = some r) : Ev g r :=
  ⟨K, fun k hk => by rw [← h (k - K), Nat.sub_add_cancel hk]⟩
theorem magS_list (s : ByteArray) : (magS s).data.toList = mag s.data.toList := rfl
theorem magS_size (s : ByteArray) : (magS s).size = (mag s.data.toList).length := size_list _
theorem magS_le (s : ByteArray) : (magS s).size ≤ s.size := by rw [magS_size, size_list]; exact mag_le _
theorem ev_check (s : ByteArray) (hs : s.size ≤ 9223372036854775807) : Ev (fun k => ZC.whole_Check.f k s) (chk s) := by
  have e1 : strings_TrimPrefix.f s ⟨#[45]⟩ = some (magS s) := if_pos rfl
  have e2 : strings_Trim.f (magS s) ⟨#[48, 49, 50, 51, 52, 53, 54, 55, 56, 57]⟩ = some ⟨(Lib.trimS (mag s.data.toList) digs.data.toList).toArray⟩ := if_pos ⟨rfl, Nat.le_trans (magS_le s) hs⟩
  refine Ev.after 2 fun k => ?_
  unfold ZC.whole_Check.f
  rw [e1, Option.bind_some, toL, magS_list, e2, Option.bind_some, toL]
  simp only [ZC.whole_Check.j0, ZC.whole_Check.j1]
  have hb := bt_nat (magS s) 0
  rw [magS_list] at hb
  rw [show bt (magS s) 0 = _ from hb, magS_size, toL]
  have ht := trimS_digs (mag s.data.toList)
  unfold chk
  simp only
  generalize mag s.data.toList = d at *
  by_cases h0 : d = []
  · rw [if_pos h0, if_pos trivial, if_pos (.inl h0)]
  · rw [if_neg h0]
    by_cases h1 : d.all isDig = true
    · rw [ht.2 h1, if_neg (by simp), if_neg (c := d = [] ∨ d.all isDig = false) (by rintro (h | h); exact h0 h; rw [h1] at h; cases h)]
      obtain ⟨c, t, rfl⟩ : ∃ c t, d = c :: t := by cases d with | nil => exact absurd rfl h0 | cons c t => exact ⟨c, t, rfl⟩
      rw [if_pos (by simp), List.getD_cons_zero, List.head?_cons]
      have h5 : (((c :: t : List UInt8).length : Int) > 1024) ↔ 1024 < (c :: t : List UInt8).length := by omega
      by_cases h2 : c = 48
      · subst h2
        rw [if_pos (show (((48 : UInt8).toNat : Nat) : Int) = 48 by decide)]
        by_cases h3 : s.data.toList = [48]
        · have g1 : (s.data.toList != [48]) = false := by simp [h3]
          have g2 : ¬ (some (48 : UInt8) = some 48 ∧ s.data.toList ≠ [48]) := fun h => h.2 h3
          rw [g1, if_neg (by simp), if_neg g2]
          by_cases h4 : 1024 < (48 :: t : List UInt8).length
          · rw [if_pos (h5.2 h4), if_pos h4]
          · rw [if_neg (fun h => h4 (h5.1 h)), if_neg h4]
        · have g1 : (s.data.toList != [48]) = true := by simp [h3]
          have g2 : some (48 : UInt8) = some 48 ∧ s.data.toList ≠ [48] := ⟨rfl, h3⟩
          rw [g1, if_pos rfl, if_pos g2]
      · have h2' : ¬ ((c.toNat : Int) = 48) := fun h => h2 (u8_toNat (show c.toNat = 48 by omega))
        have g2 : ¬ (some c = some 48 ∧ s.data.toList ≠ [48]) := fun h => h2 (Option.some.inj h.1)
        rw [if_neg h2', if_neg (by decide), if_neg g2]
        by_cases h4 : 1024 < (c :: t : List UInt8).length
        · rw [if_pos (h5.2 h4), if_pos h4]
        · rw [if_neg (fun h => h4 (h5.1 h)), if_neg h4]
    · have h1' : d.all isDig = false := by simpa using h1
      have g1 : (Lib.trimS d digs.data.toList != []) = true := by
        have : Lib.trimS d digs.data.toList ≠ [] := fun h => h1 (ht.1 h)
        simpa using this
      have g2 : d = [] ∨ d.all isDig = false := .inr h1'
      rw [g1, if_pos rfl, if_pos g2]
/-- The first error of some texts. -/
def errs : List ByteArray → Int
  | [] => 0
  | a :: l => if chk a = 0 then errs l else chk a
theorem ev_all_from (l : List ByteArray) (hl : l.length ≤ 9223372036854775806) (hs : ∀ s ∈ l, s.size ≤ 9223372036854775807) : ∀ (d i : Nat), l.length - i = d → i ≤ l.length →
    Ev (fun k => ZC.whole_all.l0 k l (l.length : Int) (i : Int)) (errs (l.drop i))
  | 0, i, hd, hi => by
    have : i = l.length := by omega
    subst this
    rw [List.drop_length]
    refine Ev.after 1 fun k => ?_
    simp only [ZC.whole_all.l0]
    rw [if_neg (by omega)]
    rfl
  | d + 1, i, hd, hi => by
    have hlt : i < l.length := by omega
    have hg : rdOf ByteArray.empty l (i : Int) = l[i] := by
      unfold rdOf
      rw [Int.toNat_natCast, List.getD_eq_getElem?_getD, List.getElem?_eq_getElem hlt, Option.getD_some]
    rw [List.drop_eq_getElem_cons hlt]
    refine Ev.step (f := fun k => (ZC.whole_Check.f k l[i]).bind fun t => if t = 0 then ZC.whole_all.l0 k l (l.length : Int) ((i + 1 : Nat) : Int) else some t) (fun k => ?_) ?_
    · simp only [ZC.whole_all.l0]
      rw [if_pos (by omega), if_pos (by omega), if_pos (by omega), hg, IntWalk.wrap64_in _ (by omega)]
      rfl
    · refine Ev.bind (ev_check _ (hs _ (List.getElem_mem hlt))) ?_
      unfold errs
      by_cases h : chk l[i] = 0
      · rw [if_pos h]
        exact Ev.pos h (ev_all_from l hl hs d (i + 1) (by omega) hlt)
      · rw [if_neg h]
        exact Ev.neg h (Ev.now _)
theorem ev_all (l : List ByteArray) (hl : l.length ≤ 9223372036854775806) (hs : ∀ s ∈ l, s.size ≤ 9223372036854775807) : Ev (fun k => ZC.whole_all.f k l) (errs l) := by
  have := ev_all_from l hl hs l.length 0 (by omega) (by omega)
  exact this
end Go.Proofs.YtpkfnclbcmnckaaGreatDoor
set_option linter.unusedVariables false
namespace Go.Proofs.YtpkfnclbcmnckaaGreatDoor
open Go Go.RowKit Go.Proofs.YtpkfnclbcmnckaaGreatDoor.Dec Go.Proofs.YtpkfnclbcmnckaaGreatDoor.Mem Go.Proofs.YtpkfnclbcmnckaaGreatDoor.Wid Go.Proofs.YtpkfnclbcmnckaaGreatDoorW.PrintWords
theorem check_any (s : ByteArray) (hs : s.size ≤ 9223372036854775807) (w : World) :
    Calls Tryz.prog 28 #[.string s] w fun e w' => e = .returned (.int .i64 (chk s)) ∧ Below w.heap.size w w' := by
  obtain ⟨k, h⟩ := (ev_check s hs).rounds
  exact ZC.whole_Check.calls k s _ w h
theorem atoi_canon {s : ByteArray} (hc : canon s.data.toList) (hl : (mag s.data.toList).length ≤ 18) : Lib.atoiAll s.data.toList = .ok (iv s) := by
  unfold iv ival
  have hc1 := hc.1
  by_cases h : s.data.toList.head? = some 45
  · rw [if_pos h]
    have e : s.data.toList = 45 :: mag s.data.toList := by
      unfold mag
      rw [if_pos h]
      cases hl2 : s.data.toList with
      | nil => rw [hl2] at h; cases h
      | cons c t => rw [hl2] at h; obtain rfl : c = 45 := Option.some.inj h; rfl
    rw [e, show mag (45 :: mag s.data.toList) = mag s.data.toList from rfl]
    exact atoiAll_neg _ hc1.1 hc1.2.1 hl
  · rw [if_neg h]
    have e : s.data.toList = mag s.data.toList := by unfold mag; rw [if_neg h]
    rw [← e] at hc1 hl ⊢
    exact atoiAll_digits _ hc1.1 hc1.2.1 hl
set_option maxRecDepth 100000 in
theorem small_long (a b : ByteArray) (w : World) (h : 9 < a.size ∨ 9 < b.size) :
    Calls Tryz.prog 40 #[.string a, .string b] w fun e w' => e = .returned (.tuple #[.int .i64 0, .int .i64 0, .bool false]) ∧ Below w.heap.size w w' := by
  by_cases h1 : 9 < a.size
  · have g : decide ((9 : Int) < (a.size : Int)) = true := decide_eq_true (by omega)
    clear h h1
    go_enter Tryz.func40, Tryz.ntmps40
    go_wp2_with fail
    go_ret3
    exact ⟨rfl, Below.refl _ _⟩
  · have g : decide ((9 : Int) < (a.size : Int)) = false := decide_eq_false (by omega)
    have g2 : decide ((9 : Int) < (b.size : Int)) = true := decide_eq_true (by omega)
    clear h h1
    go_enter Tryz.func40, Tryz.ntmps40
    go_wp2_with fail
    go_ret3
    exact ⟨rfl, Below.refl _ _⟩
set_option maxRecDepth 100000 in
theorem small_short (a b : ByteArray) (w : World) (ha : canon a.data.toList) (hb : canon b.data.toList) (h1 : a.size ≤ 9) (h2 : b.size ≤ 9) :
    Calls Tryz.prog 40 #[.string a, .string b] w fun e w' => e = .returned (.tuple #[.int .i64 (iv a), .int .i64 (iv b), .bool true]) ∧ Below w.heap.size w w' := by
  have g1 : decide ((9 : Int) < (a.size : Int)) = false := decide_eq_false (by omega)
  have g2 : decide ((9 : Int) < (b.size : Int)) = false := decide_eq_false (by omega)
  have la : (mag a.data.toList).length ≤ 18 := by have := mag_le a.data.toList; rw [size_list] at h1; omega
  have lb : (mag b.data.toList).length ≤ 18 := by have := mag_le b.data.toList; rw [size_list] at h2; omega
  have HA := Hid.mk' (atoi_canon ha la)
  have HBB := Hid.mk' (atoi_canon hb lb)
  have s1 : a.size ≤ 9223372036854775806 := by omega
  have s2 : b.size ≤ 9223372036854775806 := by omega
  clear ha hb h1 h2 la lb
  go_enter Tryz.func40, Tryz.ntmps40
  go_wp2_with fail
  refine (atoi_ok a _ s1 HA.out w).mono ?_
  rintro e w1 ⟨rfl, hb1⟩
  have HB1 := Hid.mk' hb1
  clear hb1
  go_wp2_with fail
  refine (atoi_ok b _ s2 HBB.out w1).mono ?_
  rintro e w2 ⟨rfl, hb2⟩
  have HB2 := Hid.mk' (Below.trans HB1.out (hb2.mono HB1.out.size))
  clear hb2
  go_wp2_with fail
  go_ret3
  exact ⟨rfl, HB2.out⟩
/-- A result, or that it is too long. -/
def lim (z : Int) : ByteArray × Int := if chk (dec z) = 0 then (dec z, 0) else (⟨#[]⟩, 11)
theorem dec_size (l : Bool) (v : Nat) (fv : Fits v) : (dec (sv l v)).size ≤ 2089 := by
  have h := mag_ge (dec (sv l v)).data.toList
  rw [size_list]
  have h2 : (mag (dec (sv l v)).data.toList).length ≤ 2088 := by
    rw [dec_list, mag_itoa, show (sv l v).natAbs = v by unfold sv; cases l <;> simp]
    have := digits_le fv 0
    rwa [Nat.pow_zero, Nat.div_one] at this
  omega
theorem chk_dec_or (z : Int) : chk (dec z) = 0 ∨ chk (dec z) = 11 := by rw [chk_dec]; split <;> simp
set_option maxRecDepth 100000 in
theorem limited_any (b : Nat) (l : Bool) (v : Nat) (w : World) (hx : IsW w b l v) (fv : Fits v) (HE : Env w) :
    Calls Tryz.prog 44 #[.pointer (some ⟨b, 0, none⟩)] w fun e w' => e = .returned (.tuple #[.string (lim (sv l v)).1, .int .i64 (lim (sv l v)).2]) ∧ Below w.heap.size w w' := by
  have HX := Hid.mk' hx
  have HT := Hid.mk' HE
  have hs : (dec (sv l v)).size ≤ 9223372036854775807 := Nat.le_trans (dec_size l v fv) (by decide)
  have HF := Hid.mk' fv
  clear hx HE fv
  have hc := chk_dec_or (sv l v)
  have hl : lim (sv l v) = if chk (dec (sv l v)) = 0 then (dec (sv l v), 0) else (⟨#[]⟩, 11) := rfl
  have HTX : Hid (∀ w, IsW w b l v → Tab w → Calls Tryz.prog 51 #[.pointer (some ⟨b, 0, none⟩)] w fun e w' => e = .returned (.string (dec (sv l v))) ∧ Below w.heap.size w w') := fun w h1 h2 => text_any b l v w h1 HF.out h2
  have HC : Hid (∀ w, Calls Tryz.prog 28 #[.string (dec (sv l v))] w fun e w' => e = .returned (.int .i64 (chk (dec (sv l v)))) ∧ Below w.heap.size w w') := fun w => check_any _ hs w
  generalize lim (sv l v) = L at *
  generalize dec (sv l v) = d at *
  generalize chk d = c at *
  go_enter Tryz.func44, Tryz.ntmps44
  go_wp2_with fail
  refine (HTX.out w HX.out HT.out.1).mono ?_
  rintro e w1 ⟨rfl, hb1⟩
  have HB1 := Hid.mk' hb1
  clear hb1
  go_wp2_with fail
  refine (HC.out w1).mono ?_
  rintro e w2 ⟨rfl, hb2⟩
  have HB2 := Hid.mk' (Below.trans HB1.out (hb2.mono HB1.out.size))
  clear hb2
  rcases hc with rfl | rfl
  · rw [if_pos rfl] at hl
    subst hl
    go_wp2_with fail
    go_ret2
    exact ⟨rfl, HB2.out⟩
  · rw [if_neg (by decide)] at hl
    subst hl
    go_wp2_with fail
    go_ret2
    exact ⟨rfl, HB2.out⟩
end Go.Proofs.YtpkfnclbcmnckaaGreatDoor
set_option linter.unusedVariables false
namespace Go.Proofs.YtpkfnclbcmnckaaGreatDoor
open Go Go.RowKit Go.Proofs.YtpkfnclbcmnckaaGreatDoor.Dec Go.Proofs.YtpkfnclbcmnckaaGreatDoor.Mem Go.Proofs.YtpkfnclbcmnckaaGreatDoor.Wid Go.Proofs.YtpkfnclbcmnckaaGreatDoorW.PrintWords
theorem all_any (A : Option Addr) (c : Nat) (l : List ByteArray) (w : World) (hr : Kd.C Kd.string w A l.length l) (hc : l.length ≤ c) (hl : l.length ≤ 9223372036854775806) (hs : ∀ s ∈ l, s.size ≤ 9223372036854775807) :
    Calls Tryz.prog 39 #[.slice A l.length c] w fun e w' => e = .returned (.int .i64 (errs l)) ∧ Below w.heap.size w w' := by
  obtain ⟨k, h⟩ := (ev_all l hl hs).rounds
  exact ZC.whole_all.calls k A c l _ w hr hc h
theorem result_any (z : Int) (h0 : -9223372036854775808 ≤ z) (h1 : z ≤ 9223372036854775807) (w : World) (HE : Env w) :
    Calls Tryz.prog 41 #[.int .i64 z] w fun e w' => e = .returned (.tuple #[.string (dec z), .int .i64 0]) ∧ Below w.heap.size w w' := by
  refine ZC.whole_result.calls z _ _ w ?_ HE
  unfold ZC.whole_result.f ZC.whole_Of.f strconv_Itoa.f
  rw [if_pos ⟨h0, h1⟩]
  rfl
theorem of_any (z : Int) (h0 : -9223372036854775808 ≤ z) (h1 : z ≤ 9223372036854775807) (w : World) (HE : Env w) :
    Calls Tryz.prog 30 #[.int .i64 z] w fun e w' => e = .returned (.string (dec z)) ∧ Below w.heap.size w w' := by
  refine ZC.whole_Of.calls z _ w ?_ HE
  unfold ZC.whole_Of.f strconv_Itoa.f
  rw [if_pos ⟨h0, h1⟩]
  rfl
theorem errs2 {a b : ByteArray} (h : errs [a, b] = 0) : chk a = 0 ∧ chk b = 0 := by
  simp only [errs] at h
  by_cases h1 : chk a = 0
  · rw [if_pos h1] at h
    by_cases h2 : chk b = 0
    · exact ⟨h1, h2⟩
    · rw [if_neg h2] at h; exact absurd h h2
  · rw [if_neg h1] at h; exact absurd h h1
theorem iv_lt {s : ByteArray} (h : canon s.data.toList) {n : Nat} (hn : s.size ≤ n) : (iv s).natAbs < 10 ^ n :=
  ival_lt h n (Nat.le_trans (mag_le _) (by rw [← size_list]; exact hn))
theorem iv_small {s : ByteArray} (h : canon s.data.toList) (hn : s.size ≤ 9) : -1000000000 < iv s ∧ iv s < 1000000000 := by
  have := iv_lt h hn
  rw [show (10 : Nat) ^ 9 = 1000000000 from rfl] at this
  omega
theorem iv_chk {s : ByteArray} (h : chk s = 0) : (iv s).natAbs < B ^ 114 := by
  have h1 := ival_lt (chk_zero h).1 1026 (by have := (chk_zero h).2; omega)
  rw [B_pow 114, show 9 * 114 = 1026 from rfl]
  exact h1
theorem size_chk {s : ByteArray} (h : chk s = 0) : s.size ≤ 2000 := by
  have := (chk_zero h).2
  have := mag_ge s.data.toList
  rw [size_list]; omega
theorem fits_114 {v : Nat} (h : v < B ^ 114) : Fits v := Nat.lt_of_lt_of_le h (Nat.pow_le_pow_right B_pos (by decide))
theorem fits_mul {v u : Nat} (h : v < B ^ 114) (k : u < B ^ 114) : Fits (v * u) := by
  have h1 : v * u < B ^ 114 * B ^ 114 := Nat.mul_lt_mul'' h k
  rw [← Nat.pow_add] at h1
  exact Nat.lt_of_lt_of_le h1 (Nat.pow_le_pow_right B_pos (by decide))
theorem sv_mul (x y : Int) : sv (decide (x < 0) != decide (y < 0)) (x.natAbs * y.natAbs) = x * y := by
  have hx : (x.natAbs : Int) = if x < 0 then -x else x := by split <;> omega
  have hy : (y.natAbs : Int) = if y < 0 then -y else y := by split <;> omega
  unfold sv
  by_cases h1 : x < 0 <;> by_cases h2 : y < 0
  · rw [if_pos h1] at hx; rw [if_pos h2] at hy
    rw [decide_eq_true h1, decide_eq_true h2, Int.natCast_mul, hx, hy]; simp [Int.neg_mul, Int.mul_neg]
  · rw [if_pos h1] at hx; rw [if_neg h2] at hy
    rw [decide_eq_true h1, decide_eq_false h2, Int.natCast_mul, hx, hy]; simp [Int.neg_mul]
  · rw [if_neg h1] at hx; rw [if_pos h2] at hy
    rw [decide_eq_false h1, decide_eq_true h2, Int.natCast_mul, hx, hy]; simp [Int.mul_neg]
  · rw [if_neg h1] at hx; rw [if_neg h2] at hy
    rw [decide_eq_false h1, decide_eq_false h2, Int.natCast_mul, hx, hy]; simp
theorem ten_pow_lt {z : Int} {n : Nat} (h : z.natAbs < 10 ^ n) (hn : n ≤ 1024) : chk (dec z) = 0 := by
  rw [chk_dec, if_neg]
  have := Nat.pow_le_pow_right (show 0 < 10 by decide) hn
  omega
theorem lim_small {z : Int} {n : Nat} (h : z.natAbs < 10 ^ n) (hn : n ≤ 1024) : lim z = (dec z, 0) := if_pos (ten_pow_lt h hn)
def whole_Mul.f (a b : ByteArray) : Option (ByteArray × Int) :=
  if a.size ≤ 9223372036854775807 ∧ b.size ≤ 9223372036854775807 then some (if errs [a, b] = 0 then lim (iv a * iv b) else (⟨#[]⟩, errs [a, b])) else none
theorem mul_small {x y : Int} (hx : -1000000000 < x ∧ x < 1000000000) (hy : -1000000000 < y ∧ y < 1000000000) : (x * y).natAbs < 10 ^ 18 := by
  rw [Int.natAbs_mul]
  have h1 : x.natAbs < 1000000000 := by omega
  have h2 : y.natAbs < 1000000000 := by omega
  exact Nat.lt_of_lt_of_le (Nat.mul_lt_mul'' h1 h2) (by decide)
set_option maxRecDepth 100000 in
set_option maxHeartbeats 1000000 in
theorem mul_any (a b : ByteArray) (w : World) (ha : a.size ≤ 9223372036854775807) (hb : b.size ≤ 9223372036854775807) (HE : Env w) (L : ByteArray × Int) (hL : L = if errs [a, b] = 0 then lim (iv a * iv b) else (⟨#[]⟩, errs [a, b])) :
    Calls Tryz.prog 10 #[.string a, .string b] w fun e w' => e = .returned (.tuple #[.string L.1, .int .i64 L.2]) ∧ Below w.heap.size w w' := by
  have HS : Hid (∀ s ∈ [a, b], s.size ≤ 9223372036854775807) := by
    show ∀ s ∈ [a, b], s.size ≤ 9223372036854775807
    simp [ha, hb]
  have HEE := Hid.mk' HE
  have HL := Hid.mk' hL
  have He : Hid (errs [a, b] = 0 → chk a = 0 ∧ chk b = 0) := errs2
  obtain ⟨E, hE⟩ : ∃ E, errs [a, b] = E := ⟨_, rfl⟩
  rw [hE] at He
  have HEQ := Hid.mk' hE
  clear ha hb HE hL hE
  go_enter Tryz.func10, Tryz.ntmps10
  go_wp2_with ((with_reducible refine gate_dst (N := 12) rfl ?_); refine Kd.R_lit Kd.string _ 22 ?hg (N := 12) ?hd (xs := ([a, b] : List ByteArray)) (inner := [.string a, .string b]) (ok := fun _ => True) (okp := fun _ => True) ?hr ?hp (fun _ hk => hk) trivial (Below.refl _ _) (Nat.le_refl _) (by simp) ?_; (case hd => rfl); (case hg => rfl); (case hr => first | (go_simp; done) | (go_simp; rfl)); (case hp => exact (Reps.one (show Kd.M Kd.string _ _ _ a [.string a] from rfl) (Reps.one (show Kd.M Kd.string _ _ _ b [.string b] from rfl) (Reps.none _ _)))); intro v1 w1 ho hb _ _; have HO := Hid.mk' ho; have HB1 := Hid.mk' hb; clear ho hb; obtain ⟨Ao, co, eo⟩ := Kd.R_slice HO.out; subst eo)
  refine (all_any Ao co [a, b] w1 (Kd.R_reads' HO.out).2.2 (Kd.R_reads' HO.out).2.1 (by simp) HS.out).mono ?_
  rintro e w2 ⟨rfl, hb2⟩
  rw [HEQ.out]
  have HB2 := Hid.mk' (Below.trans HB1.out (hb2.mono HB1.out.size))
  clear hb2 HO HB1
  by_cases h0 : E = 0
  · subst h0
    obtain ⟨ca, cb⟩ := He.out rfl
    have CA := Hid.mk' ca
    have CB := Hid.mk' cb
    have HL2 : Hid (L = lim (iv a * iv b)) := by show _ = _; rw [HL.out, if_pos HEQ.out]
    clear ca cb He HS HL
    go_wp2_with fail
    by_cases hs : a.size ≤ 9 ∧ b.size ≤ 9
    · have sa := iv_small (chk_zero CA.out).1 hs.1
      have sb := iv_small (chk_zero CB.out).1 hs.2
      refine (small_short a b w2 (chk_zero CA.out).1 (chk_zero CB.out).1 hs.1 hs.2).mono ?_
      rintro e w3 ⟨rfl, hb3⟩
      have HB3 := Hid.mk' (Below.trans HB2.out (hb3.mono HB2.out.size))
      have hp := mul_small sa sb
      have HL3 : Hid (L = (dec (iv a * iv b), 0)) := by show _ = _; rw [HL2.out]; exact lim_small hp (by decide)
      have hw : IntKind.i64.wrap (iv a * iv b) = iv a * iv b := IntWalk.i64_in _ (by rw [show (10 : Nat) ^ 18 = 1000000000000000000 from rfl] at hp; omega)
      have hq : -9223372036854775808 ≤ iv a * iv b ∧ iv a * iv b ≤ 9223372036854775807 := by rw [show (10 : Nat) ^ 18 = 1000000000000000000 from rfl] at hp; omega
      clear hb3 hs sa sb hp CA CB HL2
      generalize iv a = x at *
      generalize iv b = y at *
      go_wp2_with fail
      try rw [hw]
      refine (result_any (x * y) hq.1 hq.2 w3 (HEE.out.below HB3.out)).mono ?_
      rintro e w4 ⟨rfl, hb4⟩
      have HB4 := Hid.mk' (Below.trans HB3.out (hb4.mono HB3.out.size))
      clear hb4
      go_wp2_with fail
      go_ret2
      obtain rfl := HL3.out
      exact ⟨rfl, HB4.out⟩
    · refine (small_long a b w2 (by omega)).mono ?_
      rintro e w3 ⟨rfl, hb3⟩
      have HB3 := Hid.mk' (Below.trans HB2.out (hb3.mono HB2.out.size))
      clear hb3 hs
      go_wp2_with fail
      refine (read_any a w3 (chk_zero CA.out).1 (size_chk CA.out)).mono ?_
      rintro e w4 ⟨pa, rfl, hpa, hwa, hb4⟩
      have HB4 := Hid.mk' (Below.trans HB3.out (hb4.mono HB3.out.size))
      have HWA := Hid.mk' hwa
      clear hb4 hwa
      go_wp2_with fail
      refine (read_any b w4 (chk_zero CB.out).1 (size_chk CB.out)).mono ?_
      rintro e w5 ⟨pb, rfl, hpb, hwb, hb5⟩
      have HB5 := Hid.mk' (Below.trans HB4.out (hb5.mono HB4.out.size))
      have HWA2 := Hid.mk' (HWA.out.below hb5 HWA.out.size)
      have HWB := Hid.mk' hwb
      clear hb5 hwb
      go_wp2_with fail
      refine (times_any pa pb _ _ _ _ w5 HWA2.out HWB.out (fits_114 (iv_chk CA.out)) (fits_114 (iv_chk CB.out)) (fits_mul (iv_chk CA.out) (iv_chk CB.out))).mono ?_
      rintro e w6 ⟨po, rfl, hpo, hwo, hb6⟩
      have HB6 := Hid.mk' (Below.trans HB5.out (hb6.mono HB5.out.size))
      have HWO := Hid.mk' hwo
      clear hb6 hwo
      go_wp2_with fail
      refine (limited_any po _ _ w6 HWO.out (fits_mul (iv_chk CA.out) (iv_chk CB.out)) (HEE.out.below HB6.out)).mono ?_
      rintro e w7 ⟨rfl, hb7⟩
      rw [sv_mul]
      have HB7 := Hid.mk' (Below.trans HB6.out (hb7.mono HB6.out.size))
      clear hb7
      go_wp2_with fail
      go_ret2
      obtain rfl := HL2.out
      exact ⟨rfl, HB7.out⟩
  · have HL2 : Hid (L = (⟨#[]⟩, E)) := by show _ = _; rw [HL.out, HEQ.out, if_neg h0]
    have g : (E == 0) = false := beq_eq_false_iff_ne.2 h0
    clear He HL HEQ h0
    go_wp2_with fail
    go_ret2
    obtain rfl := HL2.out
    exact ⟨rfl, HB2.out⟩
theorem whole_Mul.calls (a0 a1 : ByteArray) (r1 : ByteArray) (r2 : Int) (w : World) (h : whole_Mul.f a0 a1 = some (r1, r2)) (HE : Env w) :
    Calls Tryz.prog 10 #[.string a0, .string a1] w fun e w' => e = .returned (.tuple #[.string r1, .int .i64 r2]) ∧ Below w.heap.size w w' := by
  unfold whole_Mul.f at h
  split at h
  · rename_i hs
    exact mul_any a0 a1 w hs.1 hs.2 HE (r1, r2) (Option.some.inj h).symm
  · cases h
end Go.Proofs.YtpkfnclbcmnckaaGreatDoor
set_option linter.unusedVariables false
namespace Go.Proofs.YtpkfnclbcmnckaaGreatDoor
open Go Go.RowKit Go.Proofs.YtpkfnclbcmnckaaGreatDoor.Dec Go.Proofs.YtpkfnclbcmnckaaGreatDoor.Mem Go.Proofs.YtpkfnclbcmnckaaGreatDoor.Wid Go.Proofs.YtpkfnclbcmnckaaGreatDoorW.PrintWords
theorem sv_iv (z : Int) : sv (decide (z < 0)) z.natAbs = z := by
  unfold sv
  by_cases h : z < 0
  · rw [decide_eq_true h, if_pos rfl]; omega
  · rw [decide_eq_false h, if_neg (by decide)]; omega
theorem sum_fits {i v : Nat} (hi : i ≤ 4096) (hv : v ≤ i * B ^ 114) : Fits v := by
  have h1 : i * B ^ 114 ≤ 4096 * B ^ 114 := Nat.mul_le_mul_right _ hi
  have h2 : 4096 * B ^ 114 < B * B ^ 114 := Nat.mul_lt_mul_of_pos_right (by decide) (Nat.pow_pos B_pos)
  have h3 : B * B ^ 114 = B ^ 115 := by rw [Nat.mul_comm, ← Nat.pow_succ]
  have h4 : B ^ 115 ≤ B ^ 232 := Nat.pow_le_pow_right B_pos (by decide)
  unfold Fits
  omega
end Go.Proofs.YtpkfnclbcmnckaaGreatDoor
set_option linter.unusedVariables false
namespace Go.Proofs.YtpkfnclbcmnckaaGreatDoor
open Go Go.Proofs.YtpkfnclbcmnckaaGreatDoor.Dec Go.Proofs.YtpkfnclbcmnckaaGreatDoor.Mem Go.Proofs.YtpkfnclbcmnckaaGreatDoor.Wid
theorem int_cases (x : Int) : (∃ m : Nat, x = (m : Int)) ∨ ∃ m : Nat, x = -(m : Int) ∧ 0 < m := by
  by_cases h : 0 ≤ x
  · exact .inl ⟨x.toNat, by omega⟩
  · exact .inr ⟨(-x).toNat, by omega, by omega⟩
theorem abs_nat (m : Nat) : (m : Int).natAbs = m := by omega
theorem abs_neg (m : Nat) : (-(m : Int)).natAbs = m := by omega
theorem lt_nat (m : Nat) : decide ((m : Int) < 0) = false := decide_eq_false (by omega)
theorem lt_neg {m : Nat} (h : 0 < m) : decide (-(m : Int) < 0) = true := decide_eq_true (by omega)
/-- The two cases, told of magnitudes. -/
theorem parted_long (x y : Int) (hy : y ≠ 0) :
    (0 < x.natAbs % y.natAbs ∧ decide (x < 0) ≠ decide (y < 0) → x.fdiv y = sv true (x.natAbs / y.natAbs) + -1 ∧ x.fmod y = sv (decide (x < 0)) (x.natAbs % y.natAbs) + y) ∧
    (¬ (0 < x.natAbs % y.natAbs ∧ decide (x < 0) ≠ decide (y < 0)) → x.fdiv y = sv (decide (x < 0) != decide (y < 0)) (x.natAbs / y.natAbs) ∧ x.fmod y = sv (decide (x < 0)) (x.natAbs % y.natAbs)) := by
  rcases int_cases x with ⟨m, rfl⟩ | ⟨m, rfl, hm⟩ <;> rcases int_cases y with ⟨n, rfl⟩ | ⟨n, rfl, hn⟩
  · rw [abs_nat, abs_nat, lt_nat, lt_nat]
    have hn : 0 < n := by omega
    have h1 := Nat.div_add_mod m n
    have h2 := Nat.mod_lt m hn
    generalize m / n = q at *
    generalize m % n = r at *
    have e : ((n * q : Nat) : Int) = (n : Int) * (q : Int) := Int.natCast_mul _ _
    refine ⟨fun h => absurd rfl h.2, fun _ => (Int.fdiv_fmod_unique (by omega)).2 ⟨?_, ?_, ?_⟩⟩
    · simp only [sv]; simp; omega
    · simp only [sv]; simp
    · simp only [sv]; simp; omega
  · rw [abs_nat, abs_neg, lt_nat, lt_neg hn]
    have h1 := Nat.div_add_mod m n
    have h2 := Nat.mod_lt m hn
    generalize m / n = q at *
    generalize m % n = r at *
    have e : ((n * q : Nat) : Int) = (n : Int) * (q : Int) := Int.natCast_mul _ _
    refine ⟨fun h => (Int.fdiv_fmod_unique' (by omega)).2 ⟨?_, ?_, ?_⟩, fun h => (Int.fdiv_fmod_unique' (by omega)).2 ⟨?_, ?_, ?_⟩⟩
    · simp only [sv]; simp [Int.mul_add, Int.neg_mul, Int.mul_neg]; omega
    · simp only [sv]; simp; omega
    · simp only [sv]; simp; omega
    · simp only [sv]; simp [Int.neg_mul, Int.mul_neg]; omega
    · have : r = 0 := by
        rcases Nat.eq_zero_or_pos r with h0 | h0
        · exact h0
        · exact absurd ⟨h0, by decide⟩ h
      simp only [sv]; simp; omega
    · have : r = 0 := by
        rcases Nat.eq_zero_or_pos r with h0 | h0
        · exact h0
        · exact absurd ⟨h0, by decide⟩ h
      simp only [sv]; simp; omega
  · rw [abs_neg, abs_nat, lt_neg hm, lt_nat]
    have hn : 0 < n := by omega
    have h1 := Nat.div_add_mod m n
    have h2 := Nat.mod_lt m hn
    generalize m / n = q at *
    generalize m % n = r at *
    have e : ((n * q : Nat) : Int) = (n : Int) * (q : Int) := Int.natCast_mul _ _
    refine ⟨fun h => (Int.fdiv_fmod_unique (by omega)).2 ⟨?_, ?_, ?_⟩, fun h => (Int.fdiv_fmod_unique (by omega)).2 ⟨?_, ?_, ?_⟩⟩
    · simp only [sv]; simp [Int.mul_add, Int.mul_neg]; omega
    · simp only [sv]; simp; omega
    · simp only [sv]; simp; omega
    · simp only [sv]; simp [Int.mul_neg]; omega
    · have : r = 0 := by
        rcases Nat.eq_zero_or_pos r with h0 | h0
        · exact h0
        · exact absurd ⟨h0, by decide⟩ h
      simp only [sv]; simp; omega
    · have : r = 0 := by
        rcases Nat.eq_zero_or_pos r with h0 | h0
        · exact h0
        · exact absurd ⟨h0, by decide⟩ h
      simp only [sv]; simp; omega
  · rw [abs_neg, abs_neg, lt_neg hm, lt_neg hn]
    have h1 := Nat.div_add_mod m n
    have h2 := Nat.mod_lt m hn
    generalize m / n = q at *
    generalize m % n = r at *
    have e : ((n * q : Nat) : Int) = (n : Int) * (q : Int) := Int.natCast_mul _ _
    refine ⟨fun h => absurd rfl h.2, fun _ => (Int.fdiv_fmod_unique' (by omega)).2 ⟨?_, ?_, ?_⟩⟩
    · simp only [sv]; simp [Int.neg_mul]; omega
    · simp only [sv]; simp; omega
    · simp only [sv]; simp
theorem td (m n : Nat) : (m : Int).tdiv n = ((m / n : Nat) : Int) := rfl
theorem tm (m n : Nat) : (m : Int).tmod n = ((m % n : Nat) : Int) := rfl
theorem tdiv_sv (x y : Int) : x.tdiv y = sv (decide (x < 0) != decide (y < 0)) (x.natAbs / y.natAbs) ∧ x.tmod y = sv (decide (x < 0)) (x.natAbs % y.natAbs) := by
  rcases int_cases x with ⟨m, rfl⟩ | ⟨m, rfl, hm⟩ <;> rcases int_cases y with ⟨n, rfl⟩ | ⟨n, rfl, hn⟩
  · rw [abs_nat, abs_nat, lt_nat, lt_nat]
    exact ⟨by rw [td]; simp only [sv]; rfl, by rw [tm]; simp only [sv]; rfl⟩
  · rw [abs_nat, abs_neg, lt_nat, lt_neg hn, Int.tdiv_neg, Int.tmod_neg]
    exact ⟨by rw [td]; simp only [sv]; rfl, by rw [tm]; simp only [sv]; rfl⟩
  · rw [abs_neg, abs_nat, lt_neg hm, lt_nat, Int.neg_tdiv, Int.neg_tmod]
    exact ⟨by rw [td]; simp only [sv]; rfl, by rw [tm]; simp only [sv]; rfl⟩
  · rw [abs_neg, abs_neg, lt_neg hm, lt_neg hn, Int.neg_tdiv, Int.tdiv_neg, Int.neg_tmod, Int.tmod_neg]
    exact ⟨by rw [td, Int.neg_neg]; simp only [sv]; rfl, by rw [tm]; simp only [sv]; rfl⟩
theorem sv_neg (l : Bool) (n : Nat) (h : 0 < n) : decide (sv l n < 0) = l := by
  unfold sv
  cases l
  · exact decide_eq_false (by rw [if_neg (by decide)]; omega)
  · exact decide_eq_true (by rw [if_pos rfl]; omega)
theorem sv_ne (l : Bool) (n : Nat) : sv l n ≠ 0 ↔ 0 < n := by
  unfold sv
  cases l
  · rw [if_neg (by decide)]; omega
  · rw [if_pos rfl]; omega
/-- Where Go's remainder has the other sign than the divisor, one is taken from the quotient. -/
theorem parted_short (x y : Int) (hy : y ≠ 0) :
    (x.tmod y ≠ 0 ∧ decide (x.tmod y < 0) ≠ decide (y < 0) → x.fdiv y = x.tdiv y - 1 ∧ x.fmod y = x.tmod y + y) ∧
    (¬ (x.tmod y ≠ 0 ∧ decide (x.tmod y < 0) ≠ decide (y < 0)) → x.fdiv y = x.tdiv y ∧ x.fmod y = x.tmod y) := by
  obtain ⟨e1, e2⟩ := tdiv_sv x y
  obtain ⟨h1, h2⟩ := parted_long x y hy
  rw [e1, e2]
  generalize x.natAbs % y.natAbs = r at *
  have hs := sv_neg (decide (x < 0)) r
  have h0 := sv_ne (decide (x < 0)) r
  by_cases hr : 0 < r
  · rw [hs hr]
    refine ⟨fun h => ?_, fun h => ?_⟩
    · obtain ⟨a, b⟩ := h1 ⟨hr, h.2⟩
      have hne : (decide (x < 0) != decide (y < 0)) = true := by simpa using h.2
      rw [hne]
      exact ⟨by rw [a]; omega, b⟩
    · exact h2 (fun hh => h ⟨h0.2 hr, hh.2⟩)
  · exact ⟨fun h => absurd (h0.1 h.1) hr, fun _ => h2 (fun hh => hr hh.1)⟩
end Go.Proofs.YtpkfnclbcmnckaaGreatDoor
set_option linter.unusedVariables false
namespace Go.Proofs.YtpkfnclbcmnckaaGreatDoor
open Go Go.RowKit Go.Proofs.YtpkfnclbcmnckaaGreatDoor.Dec Go.Proofs.YtpkfnclbcmnckaaGreatDoor.Mem Go.Proofs.YtpkfnclbcmnckaaGreatDoor.Wid Go.Proofs.YtpkfnclbcmnckaaGreatDoorW.PrintWords
def partedS (a b : ByteArray) : ByteArray × ByteArray × Int :=
  if errs [a, b] = 0 then (if iv b = 0 then (⟨#[]⟩, ⟨#[]⟩, 10) else (dec ((iv a).fdiv (iv b)), dec ((iv a).fmod (iv b)), 0)) else (⟨#[]⟩, ⟨#[]⟩, errs [a, b])
theorem tdiv_room {x y : Int} (hx : -1000000000 < x ∧ x < 1000000000) (hy : -1000000000 < y ∧ y < 1000000000) (h0 : y ≠ 0) : -1000000000 < x.tdiv y ∧ x.tdiv y < 1000000000 ∧ -1000000000 < x.tmod y ∧ x.tmod y < 1000000000 := by
  have h1 := Int.natAbs_tdiv x y
  have h2 := Int.natAbs_tmod x y
  have h3 : x.natAbs.div y.natAbs ≤ x.natAbs := Nat.div_le_self _ _
  have h4 : x.natAbs % y.natAbs ≤ x.natAbs := Nat.mod_le _ _
  omega
theorem eq48 {b : ByteArray} (h : canon b.data.toList) : (b.toList == [48]) = decide (iv b = 0) := by
  rw [toL]
  have : iv b = 0 ↔ b.data.toList = [48] := ival_eq_zero h
  by_cases e : b.data.toList = [48]
  · rw [e, decide_eq_true (this.2 e)]; rfl
  · rw [decide_eq_false (fun k => e (this.1 k))]
    exact beq_eq_false_iff_ne.2 e
theorem fits_div {v u : Nat} (h : v < B ^ 114) : v / u < B ^ 114 := Nat.lt_of_le_of_lt (Nat.div_le_self _ _) h
theorem fits_mod {v u : Nat} (h : v < B ^ 114) : v % u < B ^ 114 := Nat.lt_of_le_of_lt (Nat.mod_le _ _) h
theorem fits_add {v u : Nat} (h : v < B ^ 114) (k : u < B ^ 114) : Fits (v + u) := by
  refine sum_fits (i := 2) (by decide) ?_
  omega
theorem fits_B {v : Nat} (h : v < B ^ 114) : Fits (v * B) := by
  have h1 : v * B < B ^ 114 * B := Nat.mul_lt_mul_of_pos_right h B_pos
  rw [← Nat.pow_succ] at h1
  exact Nat.lt_of_lt_of_le h1 (Nat.pow_le_pow_right B_pos (by decide))
/-- What 'all' of two texts answers. -/
def All2 (a b : ByteArray) (E : Int) : Prop := ∀ (A : Option Addr) (c : Nat) (w : World), Kd.C Kd.string w A [a, b].length [a, b] → [a, b].length ≤ c →
  Calls Tryz.prog 39 #[.slice A [a, b].length c] w fun e w' => e = .returned (.int .i64 E) ∧ Below w.heap.size w w'
theorem all2 (a b : ByteArray) (ha : a.size ≤ 9223372036854775807) (hb : b.size ≤ 9223372036854775807) : All2 a b (errs [a, b]) := fun A c w h1 h2 =>
  all_any A c [a, b] w h1 h2 (by simp) (by simp [ha, hb])
def Sm2 (a b : ByteArray) (x y : Int) (o : Bool) : Prop := ∀ w : World, Calls Tryz.prog 40 #[.string a, .string b] w fun e w' => e = .returned (.tuple #[.int .i64 x, .int .i64 y, .bool o]) ∧ Below w.heap.size w w'
def OfQ (q : Int) : Prop := ∀ w : World, Env w → Calls Tryz.prog 30 #[.int .i64 q] w fun e w' => e = .returned (.string (dec q)) ∧ Below w.heap.size w w'
theorem ofQ {q : Int} (h0 : -9223372036854775808 ≤ q) (h1 : q ≤ 9223372036854775807) : OfQ q := fun w HE => of_any q h0 h1 w HE
def PartedP (a b : ByteArray) (w : World) (L : ByteArray × ByteArray × Int) : Prop :=
    Calls Tryz.prog 48 #[.string a, .string b] w fun e w' => e = .returned (.tuple #[.string L.1, .string L.2.1, .int .i64 L.2.2]) ∧ Below w.heap.size w w'
set_option maxRecDepth 100000 in
theorem parted_err (a b : ByteArray) (w : World) (E : Int) (HALL : Hid (All2 a b E)) (h0 : E ≠ 0) : PartedP a b w (⟨#[]⟩, ⟨#[]⟩, E) := by
  unfold PartedP
  have g : (E == 0) = false := beq_eq_false_iff_ne.2 h0
  clear h0
  go_enter Tryz.func48, Tryz.ntmps48
  go_wp2_with ((with_reducible refine gate_dst (N := 20) rfl ?_); refine Kd.R_lit Kd.string _ 22 ?hg (N := 20) ?hd (xs := ([a, b] : List ByteArray)) (inner := [.string a, .string b]) (ok := fun _ => True) (okp := fun _ => True) ?hr ?hp (fun _ hk => hk) trivial (Below.refl _ _) (Nat.le_refl _) (by simp) ?_; (case hd => rfl); (case hg => rfl); (case hr => first | (go_simp; done) | (go_simp; rfl)); (case hp => exact (Reps.one (show Kd.M Kd.string _ _ _ a [.string a] from rfl) (Reps.one (show Kd.M Kd.string _ _ _ b [.string b] from rfl) (Reps.none _ _)))); intro v1 w1 ho hb _ _; have HO := Hid.mk' ho; have HB1 := Hid.mk' hb; clear ho hb; obtain ⟨Ao, co, eo⟩ := Kd.R_slice HO.out; subst eo)
  refine (HALL.out Ao co w1 (Kd.R_reads' HO.out).2.2 (Kd.R_reads' HO.out).2.1).mono ?_
  rintro e w2 ⟨rfl, hb2⟩
  have HB2 := Hid.mk' (Below.trans HB1.out (hb2.mono HB1.out.size))
  clear hb2 HO HB1
  go_wp2_with fail
  go_ret3
  exact ⟨rfl, HB2.out⟩
set_option maxRecDepth 100000 in
theorem parted_zero (a b : ByteArray) (w : World) (HALL : Hid (All2 a b 0)) (e48 : (b.toList == [48]) = true) : PartedP a b w (⟨#[]⟩, ⟨#[]⟩, 10) := by
  unfold PartedP
  go_enter Tryz.func48, Tryz.ntmps48
  go_wp2_with ((with_reducible refine gate_dst (N := 20) rfl ?_); refine Kd.R_lit Kd.string _ 22 ?hg (N := 20) ?hd (xs := ([a, b] : List ByteArray)) (inner := [.string a, .string b]) (ok := fun _ => True) (okp := fun _ => True) ?hr ?hp (fun _ hk => hk) trivial (Below.refl _ _) (Nat.le_refl _) (by simp) ?_; (case hd => rfl); (case hg => rfl); (case hr => first | (go_simp; done) | (go_simp; rfl)); (case hp => exact (Reps.one (show Kd.M Kd.string _ _ _ a [.string a] from rfl) (Reps.one (show Kd.M Kd.string _ _ _ b [.string b] from rfl) (Reps.none _ _)))); intro v1 w1 ho hb _ _; have HO := Hid.mk' ho; have HB1 := Hid.mk' hb; clear ho hb; obtain ⟨Ao, co, eo⟩ := Kd.R_slice HO.out; subst eo)
  refine (HALL.out Ao co w1 (Kd.R_reads' HO.out).2.2 (Kd.R_reads' HO.out).2.1).mono ?_
  rintro e w2 ⟨rfl, hb2⟩
  have HB2 := Hid.mk' (Below.trans HB1.out (hb2.mono HB1.out.size))
  clear hb2 HO HB1
  go_wp2_with fail
  go_ret3
  exact ⟨rfl, HB2.out⟩
set_option maxRecDepth 100000 in
theorem parted_s0 (a b : ByteArray) (w : World) (HALL : Hid (All2 a b 0)) (e48 : (b.toList == [48]) = false) (x y q r : Int) (HSM : Hid (Sm2 a b x y true)) (HEE : Hid (Env w)) (gy : ¬ (y = 0))
    (h1 : x.tdiv y = q) (h2 : x.tmod y = r) (gq : IntKind.i64.wrap q = q) (gr : IntKind.i64.wrap r = r) (gr0 : r = 0) (HQ : Hid (OfQ q)) (HR : Hid (OfQ 0)) : PartedP a b w (dec q, dec 0, 0) := by
  unfold PartedP
  go_enter Tryz.func48, Tryz.ntmps48
  go_wp2_with ((with_reducible refine gate_dst (N := 20) rfl ?_); refine Kd.R_lit Kd.string _ 22 ?hg (N := 20) ?hd (xs := ([a, b] : List ByteArray)) (inner := [.string a, .string b]) (ok := fun _ => True) (okp := fun _ => True) ?hr ?hp (fun _ hk => hk) trivial (Below.refl _ _) (Nat.le_refl _) (by simp) ?_; (case hd => rfl); (case hg => rfl); (case hr => first | (go_simp; done) | (go_simp; rfl)); (case hp => exact (Reps.one (show Kd.M Kd.string _ _ _ a [.string a] from rfl) (Reps.one (show Kd.M Kd.string _ _ _ b [.string b] from rfl) (Reps.none _ _)))); intro v1 w1 ho hb _ _; have HO := Hid.mk' ho; have HB1 := Hid.mk' hb; clear ho hb; obtain ⟨Ao, co, eo⟩ := Kd.R_slice HO.out; subst eo)
  refine (HALL.out Ao co w1 (Kd.R_reads' HO.out).2.2 (Kd.R_reads' HO.out).2.1).mono ?_
  rintro e w2 ⟨rfl, hb2⟩
  have HB2 := Hid.mk' (Below.trans HB1.out (hb2.mono HB1.out.size))
  clear hb2 HO HB1
  go_wp2_with fail
  refine (HSM.out w2).mono ?_
  rintro e w3 ⟨rfl, hb3⟩
  have HB3 := Hid.mk' (Below.trans HB2.out (hb3.mono HB2.out.size))
  clear hb3 HB2 HSM HALL
  go_wp2_with fail
  go_quiet (fail)
  generalize hW4 : w3.drewN nq = w4
  have HB4 : Hid (Below w.heap.size w w4) := by rw [← hW4]; exact pwd_below_drewN HB3.out nq
  clear hW4 HB3 gy h1 h2 gq gr
  subst gr0
  go_wp2_with fail
  refine (HQ.out _ (HEE.out.below HB4.out)).mono ?_
  rintro e w5 ⟨rfl, hb5⟩
  have HB5 := Hid.mk' (Below.trans HB4.out (hb5.mono HB4.out.size))
  clear hb5
  go_wp2_with fail
  refine (HR.out _ (HEE.out.below HB5.out)).mono ?_
  rintro e w6 ⟨rfl, hb6⟩
  have HB6 := Hid.mk' (Below.trans HB5.out (hb6.mono HB5.out.size))
  clear hb6
  go_wp2_with fail
  go_ret3
  exact ⟨rfl, HB6.out⟩
set_option maxRecDepth 100000 in
theorem parted_stt (a b : ByteArray) (w : World) (HALL : Hid (All2 a b 0)) (e48 : (b.toList == [48]) = false) (x y q r : Int) (HSM : Hid (Sm2 a b x y true)) (HEE : Hid (Env w)) (gy : ¬ (y = 0))
    (h1 : x.tdiv y = q) (h2 : x.tmod y = r) (gq : IntKind.i64.wrap q = q) (gr : IntKind.i64.wrap r = r) (gr0 : (r == 0) = false) (gr1 : ¬ (r = 0)) (d1 : decide (r < 0) = true) (d2 : decide (y < 0) = true) (HQ : Hid (OfQ q)) (HR : Hid (OfQ r)) : PartedP a b w (dec q, dec r, 0) := by
  unfold PartedP
  go_enter Tryz.func48, Tryz.ntmps48
  go_wp2_with ((with_reducible refine gate_dst (N := 20) rfl ?_); refine Kd.R_lit Kd.string _ 22 ?hg (N := 20) ?hd (xs := ([a, b] : List ByteArray)) (inner := [.string a, .string b]) (ok := fun _ => True) (okp := fun _ => True) ?hr ?hp (fun _ hk => hk) trivial (Below.refl _ _) (Nat.le_refl _) (by simp) ?_; (case hd => rfl); (case hg => rfl); (case hr => first | (go_simp; done) | (go_simp; rfl)); (case hp => exact (Reps.one (show Kd.M Kd.string _ _ _ a [.string a] from rfl) (Reps.one (show Kd.M Kd.string _ _ _ b [.string b] from rfl) (Reps.none _ _)))); intro v1 w1 ho hb _ _; have HO := Hid.mk' ho; have HB1 := Hid.mk' hb; clear ho hb; obtain ⟨Ao, co, eo⟩ := Kd.R_slice HO.out; subst eo)
  refine (HALL.out Ao co w1 (Kd.R_reads' HO.out).2.2 (Kd.R_reads' HO.out).2.1).mono ?_
  rintro e w2 ⟨rfl, hb2⟩
  have HB2 := Hid.mk' (Below.trans HB1.out (hb2.mono HB1.out.size))
  clear hb2 HO HB1
  go_wp2_with fail
  refine (HSM.out w2).mono ?_
  rintro e w3 ⟨rfl, hb3⟩
  have HB3 := Hid.mk' (Below.trans HB2.out (hb3.mono HB2.out.size))
  clear hb3 HB2 HSM HALL
  go_wp2_with fail
  go_quiet (fail)
  generalize hW4 : w3.drewN nq = w4
  have HB4 : Hid (Below w.heap.size w w4) := by rw [← hW4]; exact pwd_below_drewN HB3.out nq
  clear hW4 HB3 gy h1 h2 gq gr
  go_wp2_with fail
  refine (HQ.out _ (HEE.out.below HB4.out)).mono ?_
  rintro e w5 ⟨rfl, hb5⟩
  have HB5 := Hid.mk' (Below.trans HB4.out (hb5.mono HB4.out.size))
  clear hb5
  go_wp2_with fail
  refine (HR.out _ (HEE.out.below HB5.out)).mono ?_
  rintro e w6 ⟨rfl, hb6⟩
  have HB6 := Hid.mk' (Below.trans HB5.out (hb6.mono HB5.out.size))
  clear hb6
  go_wp2_with fail
  go_ret3
  exact ⟨rfl, HB6.out⟩
set_option maxRecDepth 100000 in
theorem parted_sff (a b : ByteArray) (w : World) (HALL : Hid (All2 a b 0)) (e48 : (b.toList == [48]) = false) (x y q r : Int) (HSM : Hid (Sm2 a b x y true)) (HEE : Hid (Env w)) (gy : ¬ (y = 0))
    (h1 : x.tdiv y = q) (h2 : x.tmod y = r) (gq : IntKind.i64.wrap q = q) (gr : IntKind.i64.wrap r = r) (gr0 : (r == 0) = false) (gr1 : ¬ (r = 0)) (d1 : decide (r < 0) = false) (d2 : decide (y < 0) = false) (HQ : Hid (OfQ q)) (HR : Hid (OfQ r)) : PartedP a b w (dec q, dec r, 0) := by
  unfold PartedP
  go_enter Tryz.func48, Tryz.ntmps48
  go_wp2_with ((with_reducible refine gate_dst (N := 20) rfl ?_); refine Kd.R_lit Kd.string _ 22 ?hg (N := 20) ?hd (xs := ([a, b] : List ByteArray)) (inner := [.string a, .string b]) (ok := fun _ => True) (okp := fun _ => True) ?hr ?hp (fun _ hk => hk) trivial (Below.refl _ _) (Nat.le_refl _) (by simp) ?_; (case hd => rfl); (case hg => rfl); (case hr => first | (go_simp; done) | (go_simp; rfl)); (case hp => exact (Reps.one (show Kd.M Kd.string _ _ _ a [.string a] from rfl) (Reps.one (show Kd.M Kd.string _ _ _ b [.string b] from rfl) (Reps.none _ _)))); intro v1 w1 ho hb _ _; have HO := Hid.mk' ho; have HB1 := Hid.mk' hb; clear ho hb; obtain ⟨Ao, co, eo⟩ := Kd.R_slice HO.out; subst eo)
  refine (HALL.out Ao co w1 (Kd.R_reads' HO.out).2.2 (Kd.R_reads' HO.out).2.1).mono ?_
  rintro e w2 ⟨rfl, hb2⟩
  have HB2 := Hid.mk' (Below.trans HB1.out (hb2.mono HB1.out.size))
  clear hb2 HO HB1
  go_wp2_with fail
  refine (HSM.out w2).mono ?_
  rintro e w3 ⟨rfl, hb3⟩
  have HB3 := Hid.mk' (Below.trans HB2.out (hb3.mono HB2.out.size))
  clear hb3 HB2 HSM HALL
  go_wp2_with fail
  go_quiet (fail)
  generalize hW4 : w3.drewN nq = w4
  have HB4 : Hid (Below w.heap.size w w4) := by rw [← hW4]; exact pwd_below_drewN HB3.out nq
  clear hW4 HB3 gy h1 h2 gq gr
  go_wp2_with fail
  refine (HQ.out _ (HEE.out.below HB4.out)).mono ?_
  rintro e w5 ⟨rfl, hb5⟩
  have HB5 := Hid.mk' (Below.trans HB4.out (hb5.mono HB4.out.size))
  clear hb5
  go_wp2_with fail
  refine (HR.out _ (HEE.out.below HB5.out)).mono ?_
  rintro e w6 ⟨rfl, hb6⟩
  have HB6 := Hid.mk' (Below.trans HB5.out (hb6.mono HB5.out.size))
  clear hb6
  go_wp2_with fail
  go_ret3
  exact ⟨rfl, HB6.out⟩
set_option maxRecDepth 100000 in
theorem parted_stf (a b : ByteArray) (w : World) (HALL : Hid (All2 a b 0)) (e48 : (b.toList == [48]) = false) (x y q r : Int) (HSM : Hid (Sm2 a b x y true)) (HEE : Hid (Env w)) (gy : ¬ (y = 0))
    (h1 : x.tdiv y = q) (h2 : x.tmod y = r) (gq : IntKind.i64.wrap q = q) (gr : IntKind.i64.wrap r = r) (gr0 : (r == 0) = false) (gr1 : ¬ (r = 0)) (d1 : decide (r < 0) = true) (d2 : decide (y < 0) = false) (k1 : IntKind.i64.wrap (q - 1) = q - 1) (k2 : IntKind.i64.wrap (r + y) = r + y) (HQ : Hid (OfQ (q - 1))) (HR : Hid (OfQ (r + y))) : PartedP a b w (dec (q - 1), dec (r + y), 0) := by
  unfold PartedP
  go_enter Tryz.func48, Tryz.ntmps48
  go_wp2_with ((with_reducible refine gate_dst (N := 20) rfl ?_); refine Kd.R_lit Kd.string _ 22 ?hg (N := 20) ?hd (xs := ([a, b] : List ByteArray)) (inner := [.string a, .string b]) (ok := fun _ => True) (okp := fun _ => True) ?hr ?hp (fun _ hk => hk) trivial (Below.refl _ _) (Nat.le_refl _) (by simp) ?_; (case hd => rfl); (case hg => rfl); (case hr => first | (go_simp; done) | (go_simp; rfl)); (case hp => exact (Reps.one (show Kd.M Kd.string _ _ _ a [.string a] from rfl) (Reps.one (show Kd.M Kd.string _ _ _ b [.string b] from rfl) (Reps.none _ _)))); intro v1 w1 ho hb _ _; have HO := Hid.mk' ho; have HB1 := Hid.mk' hb; clear ho hb; obtain ⟨Ao, co, eo⟩ := Kd.R_slice HO.out; subst eo)
  refine (HALL.out Ao co w1 (Kd.R_reads' HO.out).2.2 (Kd.R_reads' HO.out).2.1).mono ?_
  rintro e w2 ⟨rfl, hb2⟩
  have HB2 := Hid.mk' (Below.trans HB1.out (hb2.mono HB1.out.size))
  clear hb2 HO HB1
  go_wp2_with fail
  refine (HSM.out w2).mono ?_
  rintro e w3 ⟨rfl, hb3⟩
  have HB3 := Hid.mk' (Below.trans HB2.out (hb3.mono HB2.out.size))
  clear hb3 HB2 HSM HALL
  go_wp2_with fail
  go_quiet (fail)
  generalize hW4 : w3.drewN nq = w4
  have HB4 : Hid (Below w.heap.size w w4) := by rw [← hW4]; exact pwd_below_drewN HB3.out nq
  clear hW4 HB3 gy h1 h2 gq gr
  go_wp2_with fail
  refine (HQ.out _ (HEE.out.below HB4.out)).mono ?_
  rintro e w5 ⟨rfl, hb5⟩
  have HB5 := Hid.mk' (Below.trans HB4.out (hb5.mono HB4.out.size))
  clear hb5
  go_wp2_with fail
  refine (HR.out _ (HEE.out.below HB5.out)).mono ?_
  rintro e w6 ⟨rfl, hb6⟩
  have HB6 := Hid.mk' (Below.trans HB5.out (hb6.mono HB5.out.size))
  clear hb6
  go_wp2_with fail
  go_ret3
  exact ⟨rfl, HB6.out⟩
set_option maxRecDepth 100000 in
theorem parted_sft (a b : ByteArray) (w : World) (HALL : Hid (All2 a b 0)) (e48 : (b.toList == [48]) = false) (x y q r : Int) (HSM : Hid (Sm2 a b x y true)) (HEE : Hid (Env w)) (gy : ¬ (y = 0))
    (h1 : x.tdiv y = q) (h2 : x.tmod y = r) (gq : IntKind.i64.wrap q = q) (gr : IntKind.i64.wrap r = r) (gr0 : (r == 0) = false) (gr1 : ¬ (r = 0)) (d1 : decide (r < 0) = false) (d2 : decide (y < 0) = true) (k1 : IntKind.i64.wrap (q - 1) = q - 1) (k2 : IntKind.i64.wrap (r + y) = r + y) (HQ : Hid (OfQ (q - 1))) (HR : Hid (OfQ (r + y))) : PartedP a b w (dec (q - 1), dec (r + y), 0) := by
  unfold PartedP
  go_enter Tryz.func48, Tryz.ntmps48
  go_wp2_with ((with_reducible refine gate_dst (N := 20) rfl ?_); refine Kd.R_lit Kd.string _ 22 ?hg (N := 20) ?hd (xs := ([a, b] : List ByteArray)) (inner := [.string a, .string b]) (ok := fun _ => True) (okp := fun _ => True) ?hr ?hp (fun _ hk => hk) trivial (Below.refl _ _) (Nat.le_refl _) (by simp) ?_; (case hd => rfl); (case hg => rfl); (case hr => first | (go_simp; done) | (go_simp; rfl)); (case hp => exact (Reps.one (show Kd.M Kd.string _ _ _ a [.string a] from rfl) (Reps.one (show Kd.M Kd.string _ _ _ b [.string b] from rfl) (Reps.none _ _)))); intro v1 w1 ho hb _ _; have HO := Hid.mk' ho; have HB1 := Hid.mk' hb; clear ho hb; obtain ⟨Ao, co, eo⟩ := Kd.R_slice HO.out; subst eo)
  refine (HALL.out Ao co w1 (Kd.R_reads' HO.out).2.2 (Kd.R_reads' HO.out).2.1).mono ?_
  rintro e w2 ⟨rfl, hb2⟩
  have HB2 := Hid.mk' (Below.trans HB1.out (hb2.mono HB1.out.size))
  clear hb2 HO HB1
  go_wp2_with fail
  refine (HSM.out w2).mono ?_
  rintro e w3 ⟨rfl, hb3⟩
  have HB3 := Hid.mk' (Below.trans HB2.out (hb3.mono HB2.out.size))
  clear hb3 HB2 HSM HALL
  go_wp2_with fail
  go_quiet (fail)
  generalize hW4 : w3.drewN nq = w4
  have HB4 : Hid (Below w.heap.size w w4) := by rw [← hW4]; exact pwd_below_drewN HB3.out nq
  clear hW4 HB3 gy h1 h2 gq gr
  go_wp2_with fail
  refine (HQ.out _ (HEE.out.below HB4.out)).mono ?_
  rintro e w5 ⟨rfl, hb5⟩
  have HB5 := Hid.mk' (Below.trans HB4.out (hb5.mono HB4.out.size))
  clear hb5
  go_wp2_with fail
  refine (HR.out _ (HEE.out.below HB5.out)).mono ?_
  rintro e w6 ⟨rfl, hb6⟩
  have HB6 := Hid.mk' (Below.trans HB5.out (hb6.mono HB5.out.size))
  clear hb6
  go_wp2_with fail
  go_ret3
  exact ⟨rfl, HB6.out⟩
end Go.Proofs.YtpkfnclbcmnckaaGreatDoor
