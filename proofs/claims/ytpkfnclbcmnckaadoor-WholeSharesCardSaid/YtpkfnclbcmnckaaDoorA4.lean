/- The laws' own test: whether texts are canonical and short. -/
import Derived.Test.YtpkfnclbcmnckaaDoorA3
import Derived.Test.YtpkfnclbcmnckaaDoorZP1m
/- Lengths of numbers; what the exported functions of whole answer at short integers. -/
set_option linter.unusedVariables false
namespace Go.Proofs.YtpkfnclbcmnckaaDoor
open Go Go.RowKit Go.Proofs.YtpkfnclbcmnckaaDoor.Dec Go.Proofs.YtpkfnclbcmnckaaDoor.Mem Go.Proofs.YtpkfnclbcmnckaaDoor.Wid Go.Proofs.YtpkfnclbcmnckaaDoorW.PrintWords

/-- An integer of at most so many digits. -/
def fit (n : Nat) (z : Int) : Prop := z.natAbs < 10 ^ n
theorem w0 : wrap64 (0 + 0) = 0 := IntWalk.wrap64_in 0 (by decide)
theorem fit_zero (n : Nat) : fit n 0 := Nat.pow_pos (by decide)
theorem fit_mono {n m : Nat} {z : Int} (h : fit n z) (hm : n ≤ m) : fit m z := Nat.lt_of_lt_of_le h (Nat.pow_le_pow_right (by decide) hm)
theorem fit_mul {n m : Nat} {x y : Int} (hx : fit n x) (hy : fit m y) : fit (n + m) (x * y) := by
  unfold fit at *
  rw [Int.natAbs_mul, Nat.pow_add]
  exact Nat.mul_lt_mul_of_lt_of_lt hx hy
theorem fit_add {n : Nat} {x y : Int} (hx : fit n x) (hy : fit n y) : fit (n + 1) (x + y) := by
  unfold fit at *
  rw [Nat.pow_succ]
  omega
theorem fit_neg {n : Nat} {x : Int} (hx : fit n x) : fit n (-x) := by unfold fit at *; rw [Int.natAbs_neg]; exact hx
theorem fit_sub {n : Nat} {x y : Int} (hx : fit n x) (hy : fit n y) : fit (n + 1) (x - y) := by rw [Int.sub_eq_add_neg]; exact fit_add hx (fit_neg hy)
theorem fit_le {n : Nat} {x y : Int} (hx : fit n x) (h : y.natAbs ≤ x.natAbs) : fit n y := Nat.lt_of_le_of_lt h hx
theorem fit_chk {z : Int} (h : fit 1024 z) : chk (dec z) = 0 := by rw [chk_dec, if_neg (Nat.not_le.2 h)]
theorem fit_lim {z : Int} (h : fit 1024 z) : lim z = (dec z, 0) := lim_fit (fit_chk h)
theorem fit_ok {z : Int} (h : fit 1024 z) : okS (dec z) := by
  have h1 := mag_ge (dec z).data.toList
  have h2 := (chk_zero (fit_chk h)).2
  rw [← size_list] at h1
  unfold okS
  omega
theorem fit_errs {x y : Int} (hx : fit 1024 x) (hy : fit 1024 y) : errs [dec x, dec y] = 0 := by
  unfold errs errs errs
  rw [if_pos (fit_chk hx), if_pos (fit_chk hy)]
section
variable {x y : Int} (hx : fit 1024 x) (hy : fit 1024 y)
include hx
theorem sNeg : whole_Neg.f (dec x) = some (dec (-x), 0) := by
  unfold whole_Neg.f negS
  rw [if_pos (fit_ok hx), if_pos (fit_chk hx), iv_dec]
theorem sSign : whole_Sign.f (dec x) = some (sgn x, 0) := by
  unfold whole_Sign.f signS
  rw [if_pos (fit_ok hx), if_pos (fit_chk hx), iv_dec]
theorem sPow {n : Nat} (hn : n ≤ 4096) (hz : fit 1024 (x ^ n)) : whole_Pow.f (dec x) (n : Int) = some (dec (x ^ n), 0) := by
  unfold whole_Pow.f powS
  rw [if_pos (fit_ok hx), if_pos (fit_chk hx), if_neg (by omega), iv_dec, Int.toNat_natCast, fit_lim hz]
include hy
theorem sMul (hz : fit 1024 (x * y)) : whole_Mul.f (dec x) (dec y) = some (dec (x * y), 0) := by
  unfold whole_Mul.f
  rw [if_pos ⟨fit_ok hx, fit_ok hy⟩, if_pos (fit_errs hx hy), iv_dec, iv_dec, fit_lim hz]
theorem sAdd (hz : fit 1024 (x + y)) : whole_Add.f (dec x) (dec y) = some (dec (x + y), 0) := by
  unfold whole_Add.f two
  rw [if_pos ⟨fit_ok hx, fit_ok hy⟩, if_pos (fit_errs hx hy), iv_dec, iv_dec, fit_lim hz]
theorem sSub (hz : fit 1024 (x - y)) : whole_Sub.f (dec x) (dec y) = some (dec (x - y), 0) := by
  unfold whole_Sub.f two
  rw [if_pos ⟨fit_ok hx, fit_ok hy⟩, if_pos (fit_errs hx hy), iv_dec, iv_dec, fit_lim hz]
theorem sCmp : whole_Compare.f (dec x) (dec y) = some (cmpI x y, 0) := by
  unfold whole_Compare.f cmpS
  rw [if_pos ⟨fit_ok hx, fit_ok hy⟩, if_pos (fit_errs hx hy), iv_dec, iv_dec]
theorem sQuo (h0 : y ≠ 0) (hz : fit 1024 (x.fdiv y)) : whole_Quo.f (dec x) (dec y) = some (dec (x.fdiv y), 0) := by
  unfold whole_Quo.f quoS
  rw [if_pos ⟨fit_ok hx, fit_ok hy⟩, if_pos (fit_errs hx hy), iv_dec, iv_dec, if_neg h0, fit_lim hz]
theorem sRem (h0 : y ≠ 0) : whole_Rem.f (dec x) (dec y) = some (dec (x.fmod y), 0) := by
  unfold whole_Rem.f remS
  rw [if_pos ⟨fit_ok hx, fit_ok hy⟩, if_pos (fit_errs hx hy), iv_dec, iv_dec, if_neg h0]
theorem sGcd : whole_Gcd.f (dec x) (dec y) = some (dec ((x.gcd y : Nat) : Int), 0) := by
  unfold whole_Gcd.f gcdS
  rw [if_pos ⟨fit_ok hx, fit_ok hy⟩, if_pos (fit_errs hx hy), iv_dec, iv_dec]
end
theorem zero_list' (z : Int) : (dec z).data.toList = [48] ↔ z = 0 := by
  constructor
  · intro h
    have := iv_dec z
    unfold iv at this
    rw [h, ival_zero] at this
    exact this.symm
  · rintro rfl
    exact itoa_zero
theorem zero_dec : (⟨#[48]⟩ : ByteArray) = dec 0 := (bytes_ext itoa_zero).symm
theorem short_dec {a : ByteArray} (h1 : a.size ≤ 50) (h2 : chk a = 0) : ∃ z : Int, a = dec z ∧ fit 50 z := by
  refine ⟨iv a, (dec_iv (chk_zero h2).1).symm, ?_⟩
  refine ival_lt (chk_zero h2).1 50 ?_
  have := mag_le a.data.toList
  rw [← size_list] at this
  omega
/-- Division rounded down: what the laws ask. -/
theorem fdiv_abs (x y : Int) (hy : y ≠ 0) : (x.fdiv y).natAbs ≤ x.natAbs := by
  have h := parted_long x y hy
  have hd : x.natAbs / y.natAbs ≤ x.natAbs := Nat.div_le_self _ _
  have hm : x.natAbs % y.natAbs + y.natAbs * (x.natAbs / y.natAbs) = x.natAbs := Nat.mod_add_div _ _
  by_cases c : 0 < x.natAbs % y.natAbs ∧ decide (x < 0) ≠ decide (y < 0)
  · rw [(h.1 c).1]
    have h1 : 1 * (x.natAbs / y.natAbs) ≤ y.natAbs * (x.natAbs / y.natAbs) := Nat.mul_le_mul_right _ (by omega)
    have := c.1
    unfold sv
    rw [if_pos rfl]
    omega
  · rw [(h.2 c).1]
    unfold sv
    split
    · rw [abs_neg]; exact hd
    · rw [abs_nat]; exact hd
end Go.Proofs.YtpkfnclbcmnckaaDoor
/- What the reference's base functions answer, over whole numbers: size, Check, both, Kept, Below, signed, Turned, less, bare. -/
set_option linter.unusedVariables false
namespace Go.Proofs.YtpkfnclbcmnckaaDoor
open Go Go.RowKit Go.Proofs.YtpkfnclbcmnckaaDoor.Dec Go.Proofs.YtpkfnclbcmnckaaDoor.Mem Go.Proofs.YtpkfnclbcmnckaaDoor.Wid Go.Proofs.YtpkfnclbcmnckaaDoorW.PrintWords

theorem bt0 {s : ByteArray} {c : UInt8} {t : List UInt8} (h : s.data.toList = c :: t) : bt s 0 = (c.toNat : Int) := by
  have := bt_nat s 0
  rw [h, List.getD_cons_zero] at this
  exact this
theorem rsize_is (s : ByteArray) : ZP.metrolabref01_size.f s = some (magS s) := by
  unfold ZP.metrolabref01_size.f
  rw [toL]
  cases h : s.data.toList with
  | nil =>
    rw [if_pos rfl]
    congr 1
    refine bytes_ext ?_
    rw [magS_list, h]; rfl
  | cons c t =>
    have hs : s.size = t.length + 1 := by rw [size_list, h]; rfl
    rw [if_neg (by simp), if_pos (by omega), bt0 h]
    by_cases hc : c = 45
    · subst hc
      rw [if_pos (by decide), if_pos (by omega)]
      congr 1
      refine bytes_ext ?_
      rw [Lib.extract_to_end, magS_list, h]
      rfl
    · rw [if_neg (fun k => hc (u8_toNat (show c.toNat = 45 by omega)))]
      congr 1
      refine bytes_ext ?_
      rw [magS_list, h]
      unfold mag
      rw [if_neg]
      simpa using hc
theorem rcheck_loop (x : ByteArray) (hx : x.size ≤ 9223372036854775807) : ∀ (d i : Nat), x.size - i = d → i ≤ x.size →
    Ev (fun k => ZP.metrolabref01_Check.l0 k x (i : Int)) (if (x.data.toList.drop i).all isDig = true then (if 1024 < x.size then 11 else 0) else 3)
  | 0, i, hd, hi => by
    obtain rfl : i = x.size := by omega
    refine Ev.after 1 fun k => ?_
    simp only [ZP.metrolabref01_Check.l0]
    rw [if_neg (by omega), List.drop_of_length_le (by rw [← size_list]; exact Nat.le_refl _), show ([] : List UInt8).all isDig = true from rfl, if_pos rfl]
    by_cases h : 1024 < x.size
    · rw [if_pos (by omega), if_pos h]
    · rw [if_neg (by omega), if_neg h]
  | d + 1, i, hd, hi => by
    have hlt : i < x.data.toList.length := by rw [← size_list]; omega
    have hb : bt x (i : Int) = (x.data.toList[i].toNat : Int) := by rw [bt_nat, List.getD_eq_getElem?_getD, List.getElem?_eq_getElem hlt]; rfl
    rw [List.drop_eq_getElem_cons hlt, List.all_cons]
    by_cases hdg : isDig x.data.toList[i] = true
    · have h2 := (isDig_iff _).1 hdg
      rw [hdg, Bool.true_and]
      refine Ev.step (f := fun k => ZP.metrolabref01_Check.l0 k x ((i + 1 : Nat) : Int)) (fun k => ?_) (rcheck_loop x hx d (i + 1) (by omega) (by omega))
      simp only [ZP.metrolabref01_Check.l0]
      rw [if_pos (by omega), if_pos (by omega), hb, if_neg (by omega), if_neg (by omega), IntWalk.wrap64_in _ (by omega)]
      rfl
    · have h2 : ¬ (48 ≤ x.data.toList[i].toNat ∧ x.data.toList[i].toNat ≤ 57) := fun k => hdg ((isDig_iff _).2 k)
      have h3 : isDig x.data.toList[i] = false := by simpa using hdg
      rw [h3, Bool.false_and, if_neg (by decide)]
      refine Ev.after 1 fun k => ?_
      simp only [ZP.metrolabref01_Check.l0]
      rw [if_pos (by omega), if_pos (by omega), hb]
      by_cases h4 : x.data.toList[i].toNat < 48
      · rw [if_pos (by omega)]
      · rw [if_neg (by omega), if_pos (by omega)]
theorem rcheck_loop0 (x : ByteArray) (hx : x.size ≤ 9223372036854775807) :
    Ev (fun k => ZP.metrolabref01_Check.l0 k x 0) (if x.data.toList.all isDig = true then (if 1024 < x.size then 11 else 0) else 3) := rcheck_loop x hx x.size 0 (by omega) (by omega)
theorem rcheck_is (s : ByteArray) (hs : s.size ≤ 9223372036854775807) : Ev (fun k => ZP.metrolabref01_Check.f k s) (chk s) := by
  unfold ZP.metrolabref01_Check.f
  rw [rsize_is]
  simp only [Option.bind_some]
  have hm := magS_list s
  have hms : (magS s).size ≤ 9223372036854775807 := Nat.le_trans (magS_le s) hs
  have hlen : (magS s).size = (mag s.data.toList).length := magS_size s
  have hq : ∀ b, Ev (fun k => ZP.metrolabref01_Check.j0 k (magS s) b) (if b = true then 3 else if (mag s.data.toList).all isDig = true then (if 1024 < (mag s.data.toList).length then 11 else 0) else 3) := by
    intro b
    refine Ev.step (f := fun k => if b = true then some 3 else ZP.metrolabref01_Check.l0 k (magS s) 0) (fun k => rfl) ?_
    cases b
    · simp only [Bool.false_eq_true, if_false]
      have := rcheck_loop0 (magS s) hms
      rw [hm, hlen] at this
      exact this
    · simp only [if_true]
      exact Ev.now _
  have hb0 : ∀ c t, mag s.data.toList = c :: t → bt (magS s) 0 = (c.toNat : Int) := fun c t h => bt0 (hm.trans h)
  rw [toL, hm]
  unfold chk
  simp only
  generalize hd : mag s.data.toList = d at *
  cases d with
  | nil =>
    refine Ev.pos rfl ?_
    have := hq true
    rw [if_pos rfl] at this
    rw [if_pos (.inl rfl)]
    exact this
  | cons c t =>
    refine Ev.neg (by simp) ?_
    refine Ev.pos (by rw [hlen]; simp) ?_
    rw [hb0 c t rfl]
    by_cases hc : c = 48
    · subst hc
      refine Ev.pos (by decide) ?_
      by_cases ht : t = []
      · subst ht
        refine Ev.neg (by rw [hlen]; decide) ?_
        have hall : ([48] : List UInt8).all isDig = true := by decide
        have := hq (decide ((s.size : Int) > 1))
        have hss : s.data.toList = [48] ↔ ¬ ((s.size : Int) > 1) := by
          constructor
          · intro e; rw [size_list, e]; decide
          · intro e
            have h1 := mag_ge s.data.toList
            have h2 : s.data.toList.length ≤ 1 := by rw [← size_list]; omega
            unfold mag at hd
            split at hd
            · cases hl : s.data.toList with
              | nil => rw [hl] at hd; cases hd
              | cons a r => rw [hl] at hd h2; simp at h2; subst h2; cases hd
            · exact hd
        rw [if_neg (c := ([48] : List UInt8) = [] ∨ _) (by rintro (h | h); cases h; rw [hall] at h; cases h)]
        by_cases hg : (s.size : Int) > 1
        · rw [decide_eq_true hg] at this ⊢
          rw [if_pos rfl] at this
          have hne : s.data.toList ≠ [48] := fun k => hss.1 k hg
          have hcond : ([48] : List UInt8).head? = some 48 ∧ s.data.toList ≠ [48] := ⟨rfl, hne⟩
          rw [if_pos hcond]
          exact this
        · rw [decide_eq_false hg] at this ⊢
          rw [if_neg (by decide), if_pos hall] at this
          have hcond : ¬ (([48] : List UInt8).head? = some 48 ∧ s.data.toList ≠ [48]) := fun k => k.2 (hss.2 hg)
          rw [if_neg hcond]
          exact this
      · have hlt : 0 < t.length := List.length_pos_iff.2 ht
        refine Ev.pos (by rw [hlen, List.length_cons]; omega) ?_
        have := hq true
        rw [if_pos rfl] at this
        have hne : s.data.toList ≠ [48] := by
          intro e
          rw [e] at hd
          have h3 : ([48] : List UInt8) = 48 :: t := hd
          injection h3 with _ h4
          exact ht h4.symm
        have e3 : (if (48 :: t : List UInt8) = [] ∨ (48 :: t : List UInt8).all isDig = false then (3 : Int) else if (48 :: t : List UInt8).head? = some 48 ∧ s.data.toList ≠ [48] then 3 else if 1024 < (48 :: t : List UInt8).length then 11 else 0) = 3 := by
          split
          · rfl
          · rw [if_pos ⟨rfl, hne⟩]
        rw [e3]
        exact this
    · have hc' : ¬ ((c.toNat : Int) = 48) := fun k => hc (u8_toNat (show c.toNat = 48 by omega))
      refine Ev.neg hc' ?_
      have := hq false
      rw [if_neg (by decide)] at this
      have hcond : ¬ ((c :: t : List UInt8).head? = some 48 ∧ s.data.toList ≠ [48]) := fun k => hc (Option.some.inj k.1)
      by_cases hall : (c :: t : List UInt8).all isDig = true
      · rw [if_pos hall] at this
        rw [if_neg (by rintro (h | h); cases h; rw [hall] at h; cases h), if_neg hcond]
        exact this
      · rw [if_neg hall] at this
        have hf : (c :: t : List UInt8).all isDig = false := by simpa using hall
        rw [if_pos (.inr hf)]
        exact this
end Go.Proofs.YtpkfnclbcmnckaaDoor
set_option linter.unusedVariables false
namespace Go.Proofs.YtpkfnclbcmnckaaDoor
open Go Go.RowKit Go.Proofs.YtpkfnclbcmnckaaDoor.Dec Go.Proofs.YtpkfnclbcmnckaaDoor.Mem Go.Proofs.YtpkfnclbcmnckaaDoor.Wid Go.Proofs.YtpkfnclbcmnckaaDoorW.PrintWords

theorem rd_at (l : List ByteArray) (i : Nat) (h : i < l.length) : rdOf ByteArray.empty l (i : Int) = l[i] := by
  unfold rdOf
  rw [Int.toNat_natCast, List.getD_eq_getElem?_getD, List.getElem?_eq_getElem h, Option.getD_some]
theorem short_loop (l : List ByteArray) (hn : l.length ≤ 1000) : ∀ (d i : Nat), l.length - i = d → i ≤ l.length →
    ∃ b : Bool, Ev (fun k => ZP.metrolablaw01_short.l0 k l (l.length : Int) (i : Int)) b ∧ (b = true → ∀ s ∈ l.drop i, s.size ≤ 50 ∧ chk s = 0)
  | 0, i, hd, hi => by
    obtain rfl : i = l.length := by omega
    refine ⟨true, Ev.after 1 fun k => ?_, fun _ s hs => by rw [List.drop_length] at hs; cases hs⟩
    simp only [ZP.metrolablaw01_short.l0]
    rw [if_neg (by omega)]
  | d + 1, i, hd, hi => by
    have hlt : i < l.length := by omega
    have hw : -9223372036854775808 ≤ (i : Int) + 1 ∧ (i : Int) + 1 ≤ 9223372036854775807 := by omega
    have c1 : (i : Int) < (l.length : Int) := by omega
    obtain ⟨b, hb, hp⟩ := short_loop l hn d (i + 1) (by omega) hlt
    by_cases h50 : (l[i].size : Int) > 50
    · refine ⟨false, Ev.after 1 fun k => ?_, fun h => by cases h⟩
      simp only [ZP.metrolablaw01_short.l0]
      rw [if_pos c1, if_pos (Int.natCast_nonneg i), if_pos c1, rd_at l i hlt, if_pos h50]
    · have hs50 : l[i].size ≤ 50 := by omega
      refine ⟨if chk l[i] = 0 then b else false, ?_, ?_⟩
      · refine Ev.step (f := fun k => (ZP.metrolabref01_Check.f k l[i]).bind fun t => if t = 0 then ZP.metrolablaw01_short.l0 k l (l.length : Int) ((i + 1 : Nat) : Int) else some false) (fun k => ?_) ?_
        · simp only [ZP.metrolablaw01_short.l0]
          rw [if_pos c1, if_pos (Int.natCast_nonneg i), if_pos c1, rd_at l i hlt, if_neg h50, IntWalk.wrap64_in _ hw]
          rfl
        · refine Ev.bind (rcheck_is _ (Nat.le_trans hs50 (by decide))) ?_
          by_cases h : chk l[i] = 0
          · rw [if_pos h]; exact Ev.pos h hb
          · rw [if_neg h]; exact Ev.neg h (Ev.now _)
      · intro h s hs
        by_cases hc : chk l[i] = 0
        · rw [if_pos hc] at h
          rw [List.drop_eq_getElem_cons hlt] at hs
          rcases List.mem_cons.1 hs with rfl | hs
          · exact ⟨hs50, hc⟩
          · exact hp h s hs
        · rw [if_neg hc] at h
          cases h
theorem short_is (l : List ByteArray) (hn : l.length ≤ 1000) : ∃ b : Bool, Ev (fun k => ZP.metrolablaw01_short.f k l) b ∧ (b = true → ∀ s ∈ l, s.size ≤ 50 ∧ chk s = 0) := by
  have := short_loop l hn _ 0 rfl (Nat.zero_le _)
  rw [List.drop_zero] at this
  exact this
end Go.Proofs.YtpkfnclbcmnckaaDoor
