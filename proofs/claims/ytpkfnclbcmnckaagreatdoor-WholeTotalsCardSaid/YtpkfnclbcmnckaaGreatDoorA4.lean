/- The reference's sums: Plus, Minus, Order, Few. -/
import Derived.Test.YtpkfnclbcmnckaaGreatDoorZP3m
/- What the reference's base functions answer, over whole numbers: size, Check, both, Kept, Below, signed, Turned, less, bare. -/
set_option linter.unusedVariables false
namespace Go.Proofs.YtpkfnclbcmnckaaGreatDoor
open Go Go.RowKit Go.Proofs.YtpkfnclbcmnckaaGreatDoor.Dec Go.Proofs.YtpkfnclbcmnckaaGreatDoor.Mem Go.Proofs.YtpkfnclbcmnckaaGreatDoor.Wid Go.Proofs.YtpkfnclbcmnckaaGreatDoorW.PrintWords

theorem bt0 {s : ByteArray} {c : UInt8} {t : List UInt8} (h : s.data.toList = c :: t) : bt s 0 = (c.toNat : Int) := by
  have := bt_nat s 0
  rw [h, List.getD_cons_zero] at this
  exact this
theorem rsize_is (s : ByteArray) : ZP.metrolabref01_size.f s = some (magS s) := by
  unfold ZP.metrolabref01_size.f
  rw [toL]
  cases h : s.data.toList with
  | nil =>
    rw [if_pos rfl]
    congr 1
    refine bytes_ext ?_
    rw [magS_list, h]; rfl
  | cons c t =>
    have hs : s.size = t.length + 1 := by rw [size_list, h]; rfl
    rw [if_neg (by simp), if_pos (by omega), bt0 h]
    by_cases hc : c = 45
    · subst hc
      rw [if_pos (by decide), if_pos (by omega)]
      congr 1
      refine bytes_ext ?_
      rw [Lib.extract_to_end, magS_list, h]
      rfl
    · rw [if_neg (fun k => hc (u8_toNat (show c.toNat = 45 by omega)))]
      congr 1
      refine bytes_ext ?_
      rw [magS_list, h]
      unfold mag
      rw [if_neg]
      simpa using hc
theorem rcheck_loop (x : ByteArray) (hx : x.size ≤ 9223372036854775807) : ∀ (d i : Nat), x.size - i = d → i ≤ x.size →
    Ev (fun k => ZP.metrolabref01_Check.l0 k x (i : Int)) (if (x.data.toList.drop i).all isDig = true then (if 1024 < x.size then 11 else 0) else 3)
  | 0, i, hd, hi => by
    obtain rfl : i = x.size := by omega
    refine Ev.after 1 fun k => ?_
    simp only [ZP.metrolabref01_Check.l0]
    rw [if_neg (by omega), List.drop_of_length_le (by rw [← size_list]; exact Nat.le_refl _), show ([] : List UInt8).all isDig = true from rfl, if_pos rfl]
    by_cases h : 1024 < x.size
    · rw [if_pos (by omega), if_pos h]
    · rw [if_neg (by omega), if_neg h]
  | d + 1, i, hd, hi => by
    have hlt : i < x.data.toList.length := by rw [← size_list]; omega
    have hb : bt x (i : Int) = (x.data.toList[i].toNat : Int) := by rw [bt_nat, List.getD_eq_getElem?_getD, List.getElem?_eq_getElem hlt]; rfl
    rw [List.drop_eq_getElem_cons hlt, List.all_cons]
    by_cases hdg : isDig x.data.toList[i] = true
    · have h2 := (isDig_iff _).1 hdg
      rw [hdg, Bool.true_and]
      refine Ev.step (f := fun k => ZP.metrolabref01_Check.l0 k x ((i + 1 : Nat) : Int)) (fun k => ?_) (rcheck_loop x hx d (i + 1) (by omega) (by omega))
      simp only [ZP.metrolabref01_Check.l0]
      rw [if_pos (by omega), if_pos (by omega), hb, if_neg (by omega), if_neg (by omega), IntWalk.wrap64_in _ (by omega)]
      rfl
    · have h2 : ¬ (48 ≤ x.data.toList[i].toNat ∧ x.data.toList[i].toNat ≤ 57) := fun k => hdg ((isDig_iff _).2 k)
      have h3 : isDig x.data.toList[i] = false := by simpa using hdg
      rw [h3, Bool.false_and, if_neg (by decide)]
      refine Ev.after 1 fun k => ?_
      simp only [ZP.metrolabref01_Check.l0]
      rw [if_pos (by omega), if_pos (by omega), hb]
      by_cases h4 : x.data.toList[i].toNat < 48
      · rw [if_pos (by omega)]
      · rw [if_neg (by omega), if_pos (by omega)]
theorem rcheck_loop0 (x : ByteArray) (hx : x.size ≤ 9223372036854775807) :
    Ev (fun k => ZP.metrolabref01_Check.l0 k x 0) (if x.data.toList.all isDig = true then (if 1024 < x.size then 11 else 0) else 3) := rcheck_loop x hx x.size 0 (by omega) (by omega)
theorem rcheck_is (s : ByteArray) (hs : s.size ≤ 9223372036854775807) : Ev (fun k => ZP.metrolabref01_Check.f k s) (chk s) := by
  unfold ZP.metrolabref01_Check.f
  rw [rsize_is]
  simp only [Option.bind_some]
  have hm := magS_list s
  have hms : (magS s).size ≤ 9223372036854775807 := Nat.le_trans (magS_le s) hs
  have hlen : (magS s).size = (mag s.data.toList).length := magS_size s
  have hq : ∀ b, Ev (fun k => ZP.metrolabref01_Check.j0 k (magS s) b) (if b = true then 3 else if (mag s.data.toList).all isDig = true then (if 1024 < (mag s.data.toList).length then 11 else 0) else 3) := by
    intro b
    refine Ev.step (f := fun k => if b = true then some 3 else ZP.metrolabref01_Check.l0 k (magS s) 0) (fun k => rfl) ?_
    cases b
    · simp only [Bool.false_eq_true, if_false]
      have := rcheck_loop0 (magS s) hms
      rw [hm, hlen] at this
      exact this
    · simp only [if_true]
      exact Ev.now _
  have hb0 : ∀ c t, mag s.data.toList = c :: t → bt (magS s) 0 = (c.toNat : Int) := fun c t h => bt0 (hm.trans h)
  rw [toL, hm]
  unfold chk
  simp only
  generalize hd : mag s.data.toList = d at *
  cases d with
  | nil =>
    refine Ev.pos rfl ?_
    have := hq true
    rw [if_pos rfl] at this
    rw [if_pos (.inl rfl)]
    exact this
  | cons c t =>
    refine Ev.neg (by simp) ?_
    refine Ev.pos (by rw [hlen]; simp) ?_
    rw [hb0 c t rfl]
    by_cases hc : c = 48
    · subst hc
      refine Ev.pos (by decide) ?_
      by_cases ht : t = []
      · subst ht
        refine Ev.neg (by rw [hlen]; decide) ?_
        have hall : ([48] : List UInt8).all isDig = true := by decide
        have := hq (decide ((s.size : Int) > 1))
        have hss : s.data.toList = [48] ↔ ¬ ((s.size : Int) > 1) := by
          constructor
          · intro e; rw [size_list, e]; decide
          · intro e
            have h1 := mag_ge s.data.toList
            have h2 : s.data.toList.length ≤ 1 := by rw [← size_list]; omega
            unfold mag at hd
            split at hd
            · cases hl : s.data.toList with
              | nil => rw [hl] at hd; cases hd
              | cons a r => rw [hl] at hd h2; simp at h2; subst h2; cases hd
            · exact hd
        rw [if_neg (c := ([48] : List UInt8) = [] ∨ _) (by rintro (h | h); cases h; rw [hall] at h; cases h)]
        by_cases hg : (s.size : Int) > 1
        · rw [decide_eq_true hg] at this ⊢
          rw [if_pos rfl] at this
          have hne : s.data.toList ≠ [48] := fun k => hss.1 k hg
          have hcond : ([48] : List UInt8).head? = some 48 ∧ s.data.toList ≠ [48] := ⟨rfl, hne⟩
          rw [if_pos hcond]
          exact this
        · rw [decide_eq_false hg] at this ⊢
          rw [if_neg (by decide), if_pos hall] at this
          have hcond : ¬ (([48] : List UInt8).head? = some 48 ∧ s.data.toList ≠ [48]) := fun k => k.2 (hss.2 hg)
          rw [if_neg hcond]
          exact this
      · have hlt : 0 < t.length := List.length_pos_iff.2 ht
        refine Ev.pos (by rw [hlen, List.length_cons]; omega) ?_
        have := hq true
        rw [if_pos rfl] at this
        have hne : s.data.toList ≠ [48] := by
          intro e
          rw [e] at hd
          have h3 : ([48] : List UInt8) = 48 :: t := hd
          injection h3 with _ h4
          exact ht h4.symm
        have e3 : (if (48 :: t : List UInt8) = [] ∨ (48 :: t : List UInt8).all isDig = false then (3 : Int) else if (48 :: t : List UInt8).head? = some 48 ∧ s.data.toList ≠ [48] then 3 else if 1024 < (48 :: t : List UInt8).length then 11 else 0) = 3 := by
          split
          · rfl
          · rw [if_pos ⟨rfl, hne⟩]
        rw [e3]
        exact this
    · have hc' : ¬ ((c.toNat : Int) = 48) := fun k => hc (u8_toNat (show c.toNat = 48 by omega))
      refine Ev.neg hc' ?_
      have := hq false
      rw [if_neg (by decide)] at this
      have hcond : ¬ ((c :: t : List UInt8).head? = some 48 ∧ s.data.toList ≠ [48]) := fun k => hc (Option.some.inj k.1)
      by_cases hall : (c :: t : List UInt8).all isDig = true
      · rw [if_pos hall] at this
        rw [if_neg (by rintro (h | h); cases h; rw [hall] at h; cases h), if_neg hcond]
        exact this
      · rw [if_neg hall] at this
        have hf : (c :: t : List UInt8).all isDig = false := by simpa using hall
        rw [if_pos (.inr hf)]
        exact this
theorem rboth_is (a b : ByteArray) (ha : a.size ≤ 9223372036854775807) (hb : b.size ≤ 9223372036854775807) : Ev (fun k => ZP.metrolabref01_both.f k a b) (errs [a, b]) := by
  unfold ZP.metrolabref01_both.f
  refine Ev.bind (rcheck_is a ha) ?_
  simp only [errs]
  by_cases h : chk a = 0
  · refine Ev.pos h ?_
    rw [if_pos h]
    refine Ev.bind (rcheck_is b hb) ?_
    have e : (if chk b = 0 then (0 : Int) else chk b) = chk b := by split <;> simp_all
    rw [e]
    exact Ev.now _
  · refine Ev.neg h ?_
    rw [if_neg h]
    exact Ev.now _
end Go.Proofs.YtpkfnclbcmnckaaGreatDoor
/- The reference's base functions, continued: Kept, Below, signed, Turned, less, bare. -/
set_option linter.unusedVariables false
namespace Go.Proofs.YtpkfnclbcmnckaaGreatDoor
open Go Go.RowKit Go.Proofs.YtpkfnclbcmnckaaGreatDoor.Dec Go.Proofs.YtpkfnclbcmnckaaGreatDoor.Mem Go.Proofs.YtpkfnclbcmnckaaGreatDoor.Wid Go.Proofs.YtpkfnclbcmnckaaGreatDoorW.PrintWords

theorem dec_pos (z : Int) : 0 < (dec z).size := by
  rw [size_list, dec_list]
  unfold Lib.itoa
  split
  · simp
  · exact List.length_pos_iff.2 (decDigits_ne _)
theorem dec_first (z : Int) : bt (dec z) 0 = 45 ↔ z < 0 := by
  rw [← head_itoa z, ← dec_list]
  have hp := dec_pos z
  rw [size_list] at hp
  cases h : (dec z).data.toList with
  | nil => rw [h] at hp; exact absurd hp (by decide)
  | cons c t =>
    rw [bt0 h, List.head?_cons]
    constructor
    · intro e
      have hc : c = 45 := u8_toNat (show c.toNat = 45 by omega)
      rw [hc]
    · intro e
      obtain rfl := Option.some.inj e
      rfl
theorem rbelow_is (z : Int) : ZP.metrolabref01_Below.f (dec z) = some (decide (z < 0)) := by
  unfold ZP.metrolabref01_Below.f
  rw [if_pos (by have := dec_pos z; omega)]
  congr 1
  by_cases h : z < 0
  · rw [decide_eq_true h, (dec_first z).2 h]; rfl
  · rw [decide_eq_false h]
    exact beq_eq_false_iff_ne.2 (fun k => h ((dec_first z).1 k))
theorem magS_dec (z : Int) : magS (dec z) = dec (z.natAbs : Int) := by
  refine bytes_ext ?_
  rw [magS_list, dec_list, mag_itoa, dec_list]
  unfold Lib.itoa
  rw [if_neg (by omega), Int.toNat_natCast]
theorem rkept_is (z : Int) : ZP.metrolabref01_Kept.f (dec z) = some (lim z) := by
  unfold ZP.metrolabref01_Kept.f
  rw [rsize_is, Option.bind_some, magS_size]
  have h := chk_of_canon (canon_dec z)
  unfold lim
  by_cases h1 : 1024 < (mag (dec z).data.toList).length
  · rw [if_pos h1] at h
    rw [if_pos (by omega), h, if_neg (by decide)]
  · rw [if_neg h1] at h
    rw [if_neg (by omega), h, if_pos rfl]
theorem dec_neg_list (v : Nat) (h : 0 < v) : (dec (-(v : Int))).data.toList = 45 :: (dec (v : Int)).data.toList := by
  rw [dec_list, dec_list]
  unfold Lib.itoa
  rw [if_pos (by omega), if_neg (by omega), abs_neg, Int.toNat_natCast]
theorem dec_zero_iff (v : Nat) : (dec (v : Int)).data.toList = [48] ↔ v = 0 := by
  constructor
  · intro h
    have := iv_dec (v : Int)
    unfold iv at this
    rw [h, ival_zero] at this
    omega
  · rintro rfl
    exact itoa_zero
theorem rsigned_is (v : Nat) (l : Bool) (hs : (dec (v : Int)).size ≤ 9000000000000000000) : ZP.metrolabref01_signed.f (dec (v : Int)) l = some (dec (sv l v)) := by
  unfold ZP.metrolabref01_signed.f
  rw [toL]
  cases l
  · rfl
  · rw [if_pos rfl]
    by_cases h : v = 0
    · rw [if_pos ((dec_zero_iff v).2 h), h]; rfl
    · rw [if_neg (fun k => h ((dec_zero_iff v).1 k)), if_pos (by omega)]
      congr 1
      refine bytes_ext ?_
      rw [ByteArray.data_append, Array.toList_append]
      show [45] ++ _ = _
      rw [show sv true v = -(v : Int) from rfl, dec_neg_list v (by omega)]
      rfl
theorem rturned_is (z : Int) (hs : (dec (z.natAbs : Int)).size ≤ 9000000000000000000) : ZP.metrolabref01_Turned.f (dec z) = some (dec (-z)) := by
  unfold ZP.metrolabref01_Turned.f
  rw [rsize_is, Option.bind_some, magS_dec, rbelow_is, Option.bind_some, rsigned_is _ _ hs, Option.bind_some]
  congr 2
  unfold sv
  by_cases h : z < 0
  · rw [decide_eq_true h]; simp; omega
  · rw [decide_eq_false h]; simp; omega
end Go.Proofs.YtpkfnclbcmnckaaGreatDoor
/- The reference's base functions, continued: Of, number, brief. -/
set_option linter.unusedVariables false
namespace Go.Proofs.YtpkfnclbcmnckaaGreatDoor
open Go Go.RowKit Go.Proofs.YtpkfnclbcmnckaaGreatDoor.Dec Go.Proofs.YtpkfnclbcmnckaaGreatDoor.Mem Go.Proofs.YtpkfnclbcmnckaaGreatDoor.Wid Go.Proofs.YtpkfnclbcmnckaaGreatDoorW.PrintWords

theorem digit_str (d : Nat) (h : d < 10) : (strOfNums [(wrap64 (48 + (d : Int))) % 256]).data.toList = [UInt8.ofNat (48 + d)] := by
  rw [strOfNums_data, IntWalk.wrap64_in _ (by omega)]
  rw [show ((48 : Int) + (d : Int)) % 256 = ((48 + d : Nat) : Int) by omega]
  show [UInt8.ofNat ((48 + d : Nat) : Int).toNat] = _
  rw [Int.toNat_natCast]
theorem rof_loop (x : Nat) : ∀ (t : ByteArray), t.size + (Lib.decDigits x).length ≤ 1000000 → x ≤ 9223372036854775807 → Ev (fun k => ZP.metrolabref01_Of.l0 k (x : Int) t) ⟨(Lib.decDigits x ++ t.data.toList).toArray⟩ := by
  induction x using Nat.strongRecOn with
  | _ x ih =>
    intro t ht hx
    by_cases h : x < 10
    · refine Ev.after 1 fun k => ?_
      simp only [ZP.metrolabref01_Of.l0]
      have hd := digit_str x h
      rw [if_neg (by omega), Option.bind_some, if_pos (by rw [strOfNums_size]; show 1 + t.size ≤ _; omega)]
      congr 1
      refine bytes_ext ?_
      rw [ByteArray.data_append, Array.toList_append, hd, Lib.decDigits, dif_pos h]
    · have hd := digit_str (x % 10) (Nat.mod_lt _ (by decide))
      have e : (⟨(Lib.decDigits x ++ t.data.toList).toArray⟩ : ByteArray) = ⟨(Lib.decDigits (x / 10) ++ (strOfNums [(wrap64 (48 + ((x % 10 : Nat) : Int))) % 256] ++ t).data.toList).toArray⟩ := by
        rw [ByteArray.data_append, Array.toList_append, hd, Lib.decDigits, dif_neg h, List.append_assoc]
      rw [e]
      have hsz : (strOfNums [(wrap64 (48 + ((x % 10 : Nat) : Int))) % 256] ++ t).size = 1 + t.size := by
        rw [ByteArray.size_append, strOfNums_size]; rfl
      have h1 : x / 10 + 1 ≤ x := by omega
      refine Ev.step (f := fun k => ZP.metrolabref01_Of.l0 k ((x / 10 : Nat) : Int) (strOfNums [(wrap64 (48 + ((x % 10 : Nat) : Int))) % 256] ++ t)) (fun k => ?_) (ih (x / 10) (by omega) _ (by rw [hsz]; rw [Lib.decDigits, dif_neg h, List.length_append] at ht; simp only [List.length_cons, List.length_nil] at ht; omega) (by omega))
      simp only [ZP.metrolabref01_Of.l0]
      have q1 : Int.tmod (x : Int) 10 = ((x % 10 : Nat) : Int) := tm x 10
      have q2 : Int.tdiv (x : Int) 10 = ((x / 10 : Nat) : Int) := td x 10
      rw [if_pos (by omega), q1, q2, Option.bind_some, if_pos (by rw [strOfNums_size]; show 1 + t.size ≤ _; omega), IntWalk.wrap64_in ((x / 10 : Nat) : Int) (by omega)]
theorem dec_nat (x : Nat) : dec (x : Int) = ⟨(Lib.decDigits x).toArray⟩ := by
  unfold dec Lib.itoa
  rw [if_neg (by omega), Int.toNat_natCast]
theorem digits_20 (v : Nat) (h : v ≤ 9223372036854775808) : (Lib.decDigits v).length ≤ 20 := by
  rw [Lib.decDigits_length, nDigits_le_iff _ _ (by decide)]
  omega
theorem dec_size_small (v : Nat) (h : v ≤ 9223372036854775808) : (dec (v : Int)).size ≤ 9000000000000000000 := by
  rw [dec_nat, size_list]
  have := digits_20 v h
  show (Lib.decDigits v).length ≤ _
  omega
theorem rof_nat (x : Nat) (hx : x ≤ 9223372036854775807) : Ev (fun k => ZP.metrolabref01_Of.l0 k (x : Int) ⟨#[]⟩) (dec (x : Int)) := by
  have := rof_loop x ⟨#[]⟩ (by show 0 + _ ≤ _; have := digits_20 x (by omega); omega) hx
  rw [dec_nat]
  simpa using this
theorem rof_pos (x : Nat) (hx : x ≤ 9223372036854775807) : Ev (fun k => ZP.metrolabref01_Of.f k (x : Int)) (dec (x : Int)) := by
  have hj : ∀ b : Bool, b = false → Ev (fun k => ZP.metrolabref01_Of.j0 k (x : Int) b) (dec (x : Int)) := by
    rintro b rfl
    refine Ev.step (f := fun k => ZP.metrolabref01_Of.l0 k (x : Int) ⟨#[]⟩) (fun k => ?_) (rof_nat x hx)
    simp only [ZP.metrolabref01_Of.j0]
    rw [if_neg (by decide), if_neg (by omega)]
  by_cases h0 : x = 0
  · subst h0
    refine Ev.step (f := fun k => ZP.metrolabref01_Of.j0 k ((0 : Nat) : Int) false) (fun k => ?_) (hj false rfl)
    simp only [ZP.metrolabref01_Of.f]
    rw [if_pos (by unfold wrap64; omega)]
    rfl
  · refine Ev.step (f := fun k => ZP.metrolabref01_Of.j0 k (x : Int) false) (fun k => ?_) (hj false rfl)
    simp only [ZP.metrolabref01_Of.f]
    rw [IntWalk.wrap64_in _ (by omega), if_neg (by omega)]
theorem rof_is (z : Int) (h0 : -9223372036854775808 ≤ z) (h1 : z ≤ 9223372036854775807) : Ev (fun k => ZP.metrolabref01_Of.f k z) (dec z) := by
  by_cases hn : 0 ≤ z
  · obtain ⟨x, rfl⟩ : ∃ x : Nat, z = (x : Int) := ⟨z.toNat, by omega⟩
    exact rof_pos x (by omega)
  · by_cases hm : z = -9223372036854775808
    · subst hm
      refine Ev.after 2 fun k => ?_
      simp only [ZP.metrolabref01_Of.f, ZP.metrolabref01_Of.j0]
      rw [if_pos (by unfold wrap64; omega), if_pos (by decide)]
      congr 1
      exact (dec_of (by decide) (by decide)).symm
    · obtain ⟨x, hx⟩ : ∃ x : Nat, z = -(x : Int) := ⟨z.natAbs, by omega⟩
      subst hx
      refine Ev.step (f := fun k => ZP.metrolabref01_Of.j0 k (-(x : Int)) false) (fun k => ?_) ?_
      · simp only [ZP.metrolabref01_Of.f]
        rw [IntWalk.wrap64_in _ (by omega), if_neg (by omega)]
      · refine Ev.step (f := fun k => (ZP.metrolabref01_Of.f k (x : Int)).bind fun t => (ZP.metrolabref01_Turned.f t).bind fun u => some u) (fun k => ?_) ?_
        · simp only [ZP.metrolabref01_Of.j0]
          rw [if_neg (by decide), if_pos (by omega), IntWalk.wrap64_in _ (by omega), Int.neg_neg]
        · refine Ev.bind (rof_pos x (by omega)) ?_
          rw [rturned_is (x : Int) (by rw [abs_nat]; exact dec_size_small x (by omega))]
          exact Ev.now _
theorem val_take_le (l : List UInt8) (i : Nat) : val (l.take i) ≤ val l := by
  have h : val l = val (l.take i) * 10 ^ (l.drop i).length + val (l.drop i) := by rw [← val_append, List.take_append_drop]
  have hp : 1 ≤ 10 ^ (l.drop i).length := Nat.one_le_pow _ _ (by decide)
  have : val (l.take i) * 1 ≤ val (l.take i) * 10 ^ (l.drop i).length := Nat.mul_le_mul_left _ hp
  omega
theorem val_take_succ (l : List UInt8) (i : Nat) (h : i < l.length) : val (l.take (i + 1)) = 10 * val (l.take i) + (l[i].toNat - 48) := by
  rw [List.take_succ_eq_append_getElem h, val_snoc]
theorem rnum_loop (z : Int) (hz : z.natAbs < 1000000000000000000) : ∀ (d i : Nat), (Lib.decDigits z.natAbs).length - i = d → i ≤ (Lib.decDigits z.natAbs).length →
    Ev (fun k => ZP.metrolabref01_number.l0 k (dec z) ((val ((Lib.decDigits z.natAbs).take i) : Nat) : Int) (dec (z.natAbs : Int)) (i : Int)) z
  | 0, i, hd, hi => by
    obtain rfl : i = (Lib.decDigits z.natAbs).length := by omega
    have hs : (dec (z.natAbs : Int)).size = (Lib.decDigits z.natAbs).length := by rw [dec_nat, size_list]
    refine Ev.after 1 fun k => ?_
    simp only [ZP.metrolabref01_number.l0]
    rw [if_neg (by rw [hs]; omega), List.take_length, decDigits_val, rbelow_is, Option.bind_some]
    by_cases h : z < 0
    · rw [decide_eq_true h, if_pos rfl, IntWalk.wrap64_in _ (by omega)]
      congr 1
      omega
    · rw [decide_eq_false h, if_neg (by decide)]
      congr 1
      omega
  | d + 1, i, hd, hi => by
    have hlt : i < (Lib.decDigits z.natAbs).length := by omega
    have hs : (dec (z.natAbs : Int)).size = (Lib.decDigits z.natAbs).length := by rw [dec_nat, size_list]
    have hb : bt (dec (z.natAbs : Int)) (i : Int) = ((Lib.decDigits z.natAbs)[i].toNat : Int) := by
      rw [bt_nat, dec_nat, List.getD_eq_getElem?_getD]
      show ((((Lib.decDigits z.natAbs)[i]?).getD 0).toNat : Int) = _
      rw [List.getElem?_eq_getElem hlt]
      rfl
    have hdg := (isDig_iff _).1 (decDigits_dig z.natAbs _ (List.getElem_mem hlt))
    have hv := val_take_succ _ i hlt
    have hv1 := val_take_le (Lib.decDigits z.natAbs) i
    have hv2 := val_take_le (Lib.decDigits z.natAbs) (i + 1)
    rw [decDigits_val] at hv1 hv2
    refine Ev.step (f := fun k => ZP.metrolabref01_number.l0 k (dec z) ((val ((Lib.decDigits z.natAbs).take (i + 1)) : Nat) : Int) (dec (z.natAbs : Int)) ((i + 1 : Nat) : Int)) (fun k => ?_) (rnum_loop z hz d (i + 1) (by omega) (by omega))
    have hl20 := digits_20 z.natAbs (by omega)
    simp only [ZP.metrolabref01_number.l0]
    rw [if_pos (by rw [hs]; omega), if_pos (by omega), hb, hv]
    generalize val ((Lib.decDigits z.natAbs).take i) = v at *
    generalize (Lib.decDigits z.natAbs)[i].toNat = c at *
    rw [IntWalk.wrap64_in (10 * (v : Int)) (by omega), show ((c : Int) - 48) % 256 = (c : Int) - 48 by omega, IntWalk.wrap64_in (10 * (v : Int) + ((c : Int) - 48)) (by omega), IntWalk.wrap64_in ((i : Int) + 1) (by omega)]
    congr 1
    omega
theorem rnumber_is (z : Int) (hz : z.natAbs < 1000000000000000000) : Ev (fun k => ZP.metrolabref01_number.f k (dec z)) z := by
  unfold ZP.metrolabref01_number.f
  rw [rsize_is, magS_dec]
  simp only [Option.bind_some]
  exact rnum_loop z hz _ 0 rfl (Nat.zero_le _)
def brief18 (x y : Int) : Prop := (dec (x.natAbs : Int)).size ≤ 18 ∧ (dec (y.natAbs : Int)).size ≤ 18
theorem size_18 {v : Nat} (h : (dec (v : Int)).size ≤ 18) : v < 1000000000000000000 := by
  rw [dec_nat, size_list] at h
  have h2 : (Lib.decDigits v).length ≤ 18 := h
  rw [Lib.decDigits_length, nDigits_le_iff _ _ (by decide)] at h2
  exact h2
theorem rbrief_yes (x y : Int) (h : brief18 x y) : Ev (fun k => ZP.metrolabref01_brief.f k (dec x) (dec y)) (x, y, true) := by
  unfold ZP.metrolabref01_brief.f
  rw [rsize_is, rsize_is, magS_dec, magS_dec]
  simp only [Option.bind_some]
  refine Ev.neg (by have := h.1; omega) ?_
  rw [decide_eq_false (by have := h.2; omega)]
  refine Ev.step (f := fun k => (ZP.metrolabref01_number.f k (dec x)).bind fun t => (ZP.metrolabref01_number.f k (dec y)).bind fun u => some (t, u, true)) (fun k => rfl) ?_
  exact Ev.bind (rnumber_is x (size_18 h.1)) (Ev.bind (rnumber_is y (size_18 h.2)) (Ev.now _))
theorem rbrief_no (x y : Int) (h : ¬ brief18 x y) : Ev (fun k => ZP.metrolabref01_brief.f k (dec x) (dec y)) (0, 0, false) := by
  unfold ZP.metrolabref01_brief.f
  rw [rsize_is, rsize_is, magS_dec, magS_dec]
  simp only [Option.bind_some]
  by_cases h1 : (dec (x.natAbs : Int)).size ≤ 18
  · have h2 : ¬ (dec (y.natAbs : Int)).size ≤ 18 := fun k => h ⟨h1, k⟩
    refine Ev.neg (by omega) ?_
    rw [decide_eq_true (by omega)]
    exact Ev.after 1 fun k => rfl
  · refine Ev.pos (by omega) ?_
    exact Ev.after 1 fun k => rfl
end Go.Proofs.YtpkfnclbcmnckaaGreatDoor
/- The reference's base functions, continued: bare, less, paper. -/
set_option linter.unusedVariables false
namespace Go.Proofs.YtpkfnclbcmnckaaGreatDoor
open Go Go.RowKit Go.Proofs.YtpkfnclbcmnckaaGreatDoor.Dec Go.Proofs.YtpkfnclbcmnckaaGreatDoor.Mem Go.Proofs.YtpkfnclbcmnckaaGreatDoor.Wid Go.Proofs.YtpkfnclbcmnckaaGreatDoorW.PrintWords

theorem rbare_from : ∀ (n : Nat) (s : ByteArray), s.size = n → 0 < n → (∀ c ∈ s.data.toList, isDig c = true) → Ev (fun k => ZP.metrolabref01_bare.l0 k s) (dec (val s.data.toList : Nat))
  | 0, s, _, h, _ => absurd h (by decide)
  | 1, s, hn, _, hd => by
    have hl : s.data.toList.length = 1 := by rw [← size_list]; exact hn
    obtain ⟨c, hc⟩ := List.length_eq_one_iff.1 hl
    have hcd := (isDig_iff c).1 (hd c (by rw [hc]; simp))
    refine Ev.after 1 fun k => ?_
    simp only [ZP.metrolabref01_bare.l0]
    rw [if_neg (by omega)]
    congr 1
    refine bytes_ext ?_
    rw [dec_nat, hc]
    show [c] = Lib.decDigits (val [c])
    rw [canonN_eq [c] ⟨by simp, by simpa [isDig] using hcd, fun h => by simpa using h⟩]
  | n + 2, s, hn, _, hd => by
    have hl : s.data.toList.length = n + 2 := by rw [← size_list]; exact hn
    obtain ⟨c, t, hc⟩ : ∃ c t, s.data.toList = c :: t := by
      cases h : s.data.toList with
      | nil => rw [h] at hl; cases hl
      | cons c t => exact ⟨c, t, rfl⟩
    have hb := bt0 hc
    by_cases h48 : c = 48
    · have ht : (s.extract 1 s.size).data.toList = t := by rw [Lib.extract_to_end, hc]; rfl
      have hts : (s.extract 1 s.size).size = n + 1 := by rw [size_list, ht]; rw [hc] at hl; simpa using hl
      have ih := rbare_from (n + 1) (s.extract 1 s.size) hts (by omega) (fun x hx => hd x (by rw [hc]; rw [ht] at hx; simp [hx]))
      rw [ht] at ih
      have hv : val s.data.toList = val t := by rw [hc, val_cons, h48]; simp
      rw [hv]
      refine Ev.step (f := fun k => ZP.metrolabref01_bare.l0 k (s.extract 1 s.size)) (fun k => ?_) ih
      simp only [ZP.metrolabref01_bare.l0]
      rw [if_pos (by omega), if_pos (by omega), hb, h48, if_pos (by decide), if_pos (by omega)]
    · refine Ev.after 1 fun k => ?_
      simp only [ZP.metrolabref01_bare.l0]
      rw [if_pos (by omega), if_pos (by omega), hb, if_neg (fun k => h48 (u8_toNat (show c.toNat = 48 by omega)))]
      congr 1
      refine bytes_ext ?_
      rw [dec_nat]
      show s.data.toList = Lib.decDigits (val s.data.toList)
      rw [canonN_eq _ ⟨by rw [hc]; simp, hd, fun h => by rw [hc] at h; exact absurd (Option.some.inj h) h48⟩]
theorem rbare_is (s : ByteArray) (h0 : 0 < s.size) (hd : ∀ c ∈ s.data.toList, isDig c = true) : Ev (fun k => ZP.metrolabref01_bare.f k s) (dec (val s.data.toList : Nat)) := rbare_from s.size s rfl h0 hd
theorem less_cmp : ∀ (l m : List UInt8), Op.bytesLess l m = decide (Lib.compareBytes l m < 0)
  | [], [] => rfl
  | _ :: _, [] => rfl
  | [], _ :: _ => rfl
  | a :: l, b :: m => by
    have ih := less_cmp l m
    unfold Op.bytesLess Lib.compareBytes
    by_cases h1 : a < b
    · rw [if_pos h1]
      simp [h1]
    · rw [if_neg h1]
      by_cases h2 : b < a
      · rw [if_pos h2]
        have hne : (a == b) = false := beq_eq_false_iff_ne.2 (by rintro rfl; exact h1 h2)
        simp [h1, hne]
      · have e : a = b := u8_toNat (by
          have a1 : ¬ a.toNat < b.toNat := fun k => h1 (UInt8.lt_iff_toNat_lt.2 k)
          have a2 : ¬ b.toNat < a.toNat := fun k => h2 (UInt8.lt_iff_toNat_lt.2 k)
          omega)
        subst e
        rw [if_neg h2, ih]
        simp [h1]
theorem rless_is (x y : Nat) : ZP.metrolabref01_less.f (dec (x : Int)) (dec (y : Int)) = some (decide (x < y)) := by
  unfold ZP.metrolabref01_less.f
  rw [toL, toL, dec_nat, dec_nat, size_list, size_list]
  show (if ((Lib.decDigits x).length : Int) < ((Lib.decDigits y).length : Int) then some true else if ((Lib.decDigits x).length : Int) = ((Lib.decDigits y).length : Int) then some (Op.bytesLess (Lib.decDigits x) (Lib.decDigits y)) else some false) = _
  have h1 := decDigits_canon x
  have h2 := decDigits_canon y
  have l1 := len_val h1 h2
  have l2 := len_val h2 h1
  rw [decDigits_val, decDigits_val] at l1 l2
  by_cases hlt : (Lib.decDigits x).length < (Lib.decDigits y).length
  · rw [if_pos (by omega), decide_eq_true (l1 hlt)]
  · rw [if_neg (by omega)]
    by_cases heq : (Lib.decDigits x).length = (Lib.decDigits y).length
    · rw [if_pos (by omega), less_cmp, cmp_digits _ _ heq h1.2.1 h2.2.1, decDigits_val, decDigits_val]
      congr 1
      unfold cmpI
      by_cases h : x < y
      · rw [if_pos (by omega), decide_eq_true h]; rfl
      · rw [if_neg (by omega), decide_eq_false h]
        split <;> rfl
    · rw [if_neg (by omega), decide_eq_false (by have := l2 (by omega); omega)]
end Go.Proofs.YtpkfnclbcmnckaaGreatDoor
/- The reference's sums and differences on paper. -/
set_option linter.unusedVariables false
namespace Go.Proofs.YtpkfnclbcmnckaaGreatDoor
open Go Go.RowKit Go.Proofs.YtpkfnclbcmnckaaGreatDoor.Dec Go.Proofs.YtpkfnclbcmnckaaGreatDoor.Mem Go.Proofs.YtpkfnclbcmnckaaGreatDoor.Wid Go.Proofs.YtpkfnclbcmnckaaGreatDoorW.PrintWords Go.Proofs.YtpkfnclbcmnckaaGreatDoorW.PrintMore

/-- One column: the digit, and the carry. -/
theorem rcol_add (a b c : Nat) (ha : a < 10) (hb : b < 10) (hc : c ≤ 1) : ∃ d e : Nat, d < 10 ∧ e ≤ 1 ∧ d + 10 * e = a + b + c ∧
    ∀ k, ZP.metrolabref01_column.f (k + 1) ((48 + a : Nat) : Int) ((48 + b : Nat) : Int) (c : Int) true = some (((48 + d : Nat) : Int), (e : Int)) := by
  by_cases h : a + b + c > 9
  · refine ⟨a + b + c - 10, 1, by omega, by omega, by omega, fun k => ?_⟩
    unfold ZP.metrolabref01_column.f
    rw [if_pos rfl, show (((48 + a : Nat) : Int) - 48) % 256 + (((48 + b : Nat) : Int) - 48) % 256 + (c : Int) = ((a + b + c : Nat) : Int) by omega, IntWalk.wrap64_in ((a + b + c : Nat) : Int) (by omega)]
    simp only [ZP.metrolabref01_column.j0]
    rw [if_pos (by omega), IntWalk.wrap64_in (48 + ((a + b + c : Nat) : Int)) (by omega), IntWalk.wrap64_in _ (by omega)]
    congr 2
    omega
  · refine ⟨a + b + c, 0, by omega, by omega, by omega, fun k => ?_⟩
    unfold ZP.metrolabref01_column.f
    rw [if_pos rfl, show (((48 + a : Nat) : Int) - 48) % 256 + (((48 + b : Nat) : Int) - 48) % 256 + (c : Int) = ((a + b + c : Nat) : Int) by omega, IntWalk.wrap64_in ((a + b + c : Nat) : Int) (by omega)]
    simp only [ZP.metrolabref01_column.j0]
    rw [if_neg (by omega), if_neg (by omega), IntWalk.wrap64_in _ (by omega)]
    congr 2
    omega
theorem rcol_sub (a b c : Nat) (ha : a < 10) (hb : b < 10) (hc : c ≤ 1) : ∃ d e : Nat, d < 10 ∧ e ≤ 1 ∧ d + b + c = a + 10 * e ∧
    ∀ k, ZP.metrolabref01_column.f (k + 1) ((48 + a : Nat) : Int) ((48 + b : Nat) : Int) (c : Int) false = some (((48 + d : Nat) : Int), (e : Int)) := by
  by_cases h : a < b + c
  · refine ⟨a + 10 - b - c, 1, by omega, by omega, by omega, fun k => ?_⟩
    unfold ZP.metrolabref01_column.f
    rw [if_neg (by decide), show (((48 + a : Nat) : Int) - 48) % 256 - (((48 + b : Nat) : Int) - 48) % 256 - (c : Int) = (a : Int) - (b : Int) - (c : Int) by omega, IntWalk.wrap64_in ((a : Int) - (b : Int) - (c : Int)) (by omega)]
    simp only [ZP.metrolabref01_column.j0]
    rw [if_neg (by omega), if_pos (by omega), IntWalk.wrap64_in (48 + ((a : Int) - (b : Int) - (c : Int))) (by omega), IntWalk.wrap64_in _ (by omega)]
    congr 2
    omega
  · refine ⟨a - b - c, 0, by omega, by omega, by omega, fun k => ?_⟩
    unfold ZP.metrolabref01_column.f
    rw [if_neg (by decide), show (((48 + a : Nat) : Int) - 48) % 256 - (((48 + b : Nat) : Int) - 48) % 256 - (c : Int) = (a : Int) - (b : Int) - (c : Int) by omega, IntWalk.wrap64_in ((a : Int) - (b : Int) - (c : Int)) (by omega)]
    simp only [ZP.metrolabref01_column.j0]
    rw [if_neg (by omega), if_neg (by omega), IntWalk.wrap64_in _ (by omega)]
    congr 2
    omega
/-- Digits as the whole numbers of a row of bytes. -/
def nums (l : List UInt8) : List Int := l.map fun c => (c.toNat : Int)
theorem str_nums (l : List UInt8) : (strOfNums (nums l)).data.toList = l := by
  rw [strOfNums_data, nums, List.map_map]
  have : ((fun n : Int => UInt8.ofNat n.toNat) ∘ fun c : UInt8 => (c.toNat : Int)) = id := by
    funext c
    simp
  rw [this, List.map_id]
theorem dig_at {l : List UInt8} (hd : ∀ c ∈ l, isDig c = true) {j : Nat} (hj : j < l.length) : ∃ a : Nat, a < 10 ∧ l[j].toNat = 48 + a := by
  have := (isDig_iff _).1 (hd _ (List.getElem_mem hj))
  exact ⟨l[j].toNat - 48, by omega, by omega⟩
theorem val_drop (l : List UInt8) {j : Nat} (hj : j < l.length) : val (l.drop j) = (l[j].toNat - 48) * 10 ^ (l.length - (j + 1)) + val (l.drop (j + 1)) := by
  rw [List.drop_eq_getElem_cons hj, val_cons, List.length_drop]
theorem bt_at (s : ByteArray) {j : Nat} (hj : j < s.data.toList.length) : bt s (j : Int) = (s.data.toList[j].toNat : Int) := by
  rw [bt_nat, List.getD_eq_getElem?_getD, List.getElem?_eq_getElem hj]; rfl
theorem set_row (j d : Nat) (D : List UInt8) : (List.replicate (j + 1) (0 : Int) ++ nums D).set j ((48 + d : Nat) : Int) = List.replicate j 0 ++ (((48 + d : Nat) : Int) :: nums D) := by
  rw [List.replicate_succ', List.append_assoc, List.set_append_right _ _ (by simp), List.length_replicate, Nat.sub_self]
  rfl
theorem nums_cons (d : Nat) (hd : d < 10) (D : List UInt8) : (((48 + d : Nat) : Int) :: nums D) = nums (UInt8.ofNat (48 + d) :: D) := by
  unfold nums
  rw [List.map_cons, u8_ofNat _ (by omega)]
/-- Adding, column by column. -/
theorem rpaper_add (A C : ByteArray) (n : Nat) (hA : A.data.toList.length = n) (hC : C.data.toList.length = n) (dA : ∀ c ∈ A.data.toList, isDig c = true) (dC : ∀ c ∈ C.data.toList, isDig c = true) (hn0 : 0 < n) (hn : n ≤ 100000) (Z : Nat) (hZ : val A.data.toList + val C.data.toList = Z) (hlt : Z < 10 ^ n) :
    ∀ (j : Nat) (D : List UInt8) (c : Nat), j + D.length = n → (∀ x ∈ D, isDig x = true) → c ≤ 1 → val D + c * 10 ^ (n - j) = val (A.data.toList.drop j) + val (C.data.toList.drop j) →
    Ev (fun k => ZP.metrolabref01_paper.l0 k A C true (List.replicate j 0 ++ nums D) (c : Int) ((j : Int) - 1)) (dec (Z : Nat))
  | 0, D, c, hl, hd, hc, hv => by
    rw [List.drop_zero, List.drop_zero, Nat.sub_zero, hZ] at hv
    have hc0 : c = 0 := by
      rcases Nat.eq_zero_or_pos c with h | h
      · exact h
      · have : c = 1 := by omega
        subst this
        omega
    subst hc0
    have hvD : val D = Z := by omega
    have hs := str_nums D
    refine Ev.step (f := fun k => (ZP.metrolabref01_bare.f k (strOfNums (nums D))).bind fun t => some t) (fun k => ?_) ?_
    · simp only [ZP.metrolabref01_paper.l0]
      rw [if_neg (by omega)]
      rfl
    · have hb := rbare_is (strOfNums (nums D)) (by rw [size_list, hs]; omega) (by rw [hs]; exact hd)
      rw [hs, hvD] at hb
      exact Ev.bind hb (Ev.now _)
  | j + 1, D, c, hl, hd, hc, hv => by
    have jA : j < A.data.toList.length := by omega
    have jC : j < C.data.toList.length := by omega
    obtain ⟨a, ha, ea⟩ := dig_at dA jA
    obtain ⟨b, hb, eb⟩ := dig_at dC jC
    obtain ⟨d, e, hd9, he1, hde, hcol⟩ := rcol_add a b c ha hb hc
    have hdd : isDig (UInt8.ofNat (48 + d)) = true := (isDig_iff _).2 (by rw [u8_ofNat _ (by omega)]; omega)
    have hnew : val (UInt8.ofNat (48 + d) :: D) + e * 10 ^ (n - j) = val (A.data.toList.drop j) + val (C.data.toList.drop j) := by
      rw [val_cons, u8_ofNat _ (by omega), val_drop _ jA, val_drop _ jC, ea, eb, hA, hC, show D.length = n - (j + 1) by omega]
      have hp : 10 ^ (n - j) = 10 * 10 ^ (n - (j + 1)) := by rw [show n - j = (n - (j + 1)) + 1 by omega, Nat.pow_succ, Nat.mul_comm]
      rw [hp, show 48 + d - 48 = d by omega, show 48 + a - 48 = a by omega, show 48 + b - 48 = b by omega]
      generalize 10 ^ (n - (j + 1)) = P at *
      have h1 : (d + 10 * e) * P = (a + b + c) * P := by rw [hde]
      rw [Nat.add_mul, Nat.add_mul, Nat.add_mul] at h1
      have h2 : e * (10 * P) = 10 * e * P := by rw [← Nat.mul_assoc, Nat.mul_comm e 10]
      rw [h2]
      omega
    have ih := rpaper_add A C n hA hC dA dC hn0 hn Z hZ hlt j (UInt8.ofNat (48 + d) :: D) e (by simp; omega) (by intro x hx; rcases List.mem_cons.1 hx with rfl | hx; exact hdd; exact hd x hx) he1 hnew
    rw [← nums_cons d hd9] at ih
    refine Ev.step (f := fun k => (ZP.metrolabref01_column.f k ((48 + a : Nat) : Int) ((48 + b : Nat) : Int) (c : Int) true).bind fun bt => ZP.metrolabref01_paper.l0 k A C true ((List.replicate (j + 1) 0 ++ nums D).set j bt.1) bt.2 ((j : Int) - 1)) (fun k => ?_) ?_
    · simp only [ZP.metrolabref01_paper.l0]
      have hlen : (List.replicate (j + 1) (0 : Int) ++ nums D).length = n := by rw [List.length_append, List.length_replicate, nums, List.length_map]; omega
      have ej : ((j + 1 : Nat) : Int) - 1 = (j : Int) := by omega
      rw [ej, if_pos (by omega), if_pos (by omega), if_pos (by rw [size_list]; omega), if_pos (by rw [size_list]; omega), bt_at A jA, bt_at C jC, ea, eb]
      congr 1
      funext bt
      rw [if_pos (by rw [hlen]; omega), Int.toNat_natCast, IntWalk.wrap64_in ((j : Int) - 1) (by omega)]
    · refine Ev.bind (a := (((48 + d : Nat) : Int), (e : Int))) (Ev.after 1 hcol) ?_
      rw [set_row]
      exact ih
/-- Taking away, column by column. -/
theorem rpaper_sub (A C : ByteArray) (n : Nat) (hA : A.data.toList.length = n) (hC : C.data.toList.length = n) (dA : ∀ c ∈ A.data.toList, isDig c = true) (dC : ∀ c ∈ C.data.toList, isDig c = true) (hn0 : 0 < n) (hn : n ≤ 100000) (Z : Nat) (hZ : val A.data.toList = val C.data.toList + Z) (hlt : val A.data.toList < 10 ^ n) :
    ∀ (j : Nat) (D : List UInt8) (c : Nat), j + D.length = n → (∀ x ∈ D, isDig x = true) → c ≤ 1 → val D + val (C.data.toList.drop j) = val (A.data.toList.drop j) + c * 10 ^ (n - j) →
    Ev (fun k => ZP.metrolabref01_paper.l0 k A C false (List.replicate j 0 ++ nums D) (c : Int) ((j : Int) - 1)) (dec (Z : Nat))
  | 0, D, c, hl, hd, hc, hv => by
    rw [List.drop_zero, List.drop_zero, Nat.sub_zero, hZ] at hv
    have hD := val_lt D hd
    rw [show D.length = n by omega] at hD
    have hc0 : c = 0 := by
      rcases Nat.eq_zero_or_pos c with h | h
      · exact h
      · have : c = 1 := by omega
        subst this
        omega
    subst hc0
    have hvD : val D = Z := by omega
    have hs := str_nums D
    refine Ev.step (f := fun k => (ZP.metrolabref01_bare.f k (strOfNums (nums D))).bind fun t => some t) (fun k => ?_) ?_
    · simp only [ZP.metrolabref01_paper.l0]
      rw [if_neg (by omega)]
      rfl
    · have hb := rbare_is (strOfNums (nums D)) (by rw [size_list, hs]; omega) (by rw [hs]; exact hd)
      rw [hs, hvD] at hb
      exact Ev.bind hb (Ev.now _)
  | j + 1, D, c, hl, hd, hc, hv => by
    have jA : j < A.data.toList.length := by omega
    have jC : j < C.data.toList.length := by omega
    obtain ⟨a, ha, ea⟩ := dig_at dA jA
    obtain ⟨b, hb, eb⟩ := dig_at dC jC
    obtain ⟨d, e, hd9, he1, hde, hcol⟩ := rcol_sub a b c ha hb hc
    have hdd : isDig (UInt8.ofNat (48 + d)) = true := (isDig_iff _).2 (by rw [u8_ofNat _ (by omega)]; omega)
    have hnew : val (UInt8.ofNat (48 + d) :: D) + val (C.data.toList.drop j) = val (A.data.toList.drop j) + e * 10 ^ (n - j) := by
      rw [val_cons, u8_ofNat _ (by omega), val_drop _ jA, val_drop _ jC, ea, eb, hA, hC, show D.length = n - (j + 1) by omega]
      have hp : 10 ^ (n - j) = 10 * 10 ^ (n - (j + 1)) := by rw [show n - j = (n - (j + 1)) + 1 by omega, Nat.pow_succ, Nat.mul_comm]
      rw [hp, show 48 + d - 48 = d by omega, show 48 + a - 48 = a by omega, show 48 + b - 48 = b by omega]
      generalize 10 ^ (n - (j + 1)) = P at *
      have h1 : (d + b + c) * P = (a + 10 * e) * P := by rw [hde]
      rw [Nat.add_mul, Nat.add_mul, Nat.add_mul] at h1
      have h2 : e * (10 * P) = 10 * e * P := by rw [← Nat.mul_assoc, Nat.mul_comm e 10]
      rw [h2]
      omega
    have ih := rpaper_sub A C n hA hC dA dC hn0 hn Z hZ hlt j (UInt8.ofNat (48 + d) :: D) e (by simp; omega) (by intro x hx; rcases List.mem_cons.1 hx with rfl | hx; exact hdd; exact hd x hx) he1 hnew
    rw [← nums_cons d hd9] at ih
    refine Ev.step (f := fun k => (ZP.metrolabref01_column.f k ((48 + a : Nat) : Int) ((48 + b : Nat) : Int) (c : Int) false).bind fun bt => ZP.metrolabref01_paper.l0 k A C false ((List.replicate (j + 1) 0 ++ nums D).set j bt.1) bt.2 ((j : Int) - 1)) (fun k => ?_) ?_
    · simp only [ZP.metrolabref01_paper.l0]
      have hlen : (List.replicate (j + 1) (0 : Int) ++ nums D).length = n := by rw [List.length_append, List.length_replicate, nums, List.length_map]; omega
      have ej : ((j + 1 : Nat) : Int) - 1 = (j : Int) := by omega
      rw [ej, if_pos (by omega), if_pos (by omega), if_pos (by rw [size_list]; omega), if_pos (by rw [size_list]; omega), bt_at A jA, bt_at C jC, ea, eb]
      congr 1
      funext bt
      rw [if_pos (by rw [hlen]; omega), Int.toNat_natCast, IntWalk.wrap64_in ((j : Int) - 1) (by omega)]
    · refine Ev.bind (a := (((48 + d : Nat) : Int), (e : Int))) (Ev.after 1 hcol) ?_
      rw [set_row]
      exact ih
end Go.Proofs.YtpkfnclbcmnckaaGreatDoor
/- The reference's sums: paper, Plus, Minus, Order. -/
set_option linter.unusedVariables false
namespace Go.Proofs.YtpkfnclbcmnckaaGreatDoor
open Go Go.RowKit Go.Proofs.YtpkfnclbcmnckaaGreatDoor.Dec Go.Proofs.YtpkfnclbcmnckaaGreatDoor.Mem Go.Proofs.YtpkfnclbcmnckaaGreatDoor.Wid Go.Proofs.YtpkfnclbcmnckaaGreatDoorW.PrintWords Go.Proofs.YtpkfnclbcmnckaaGreatDoorW.PrintMore

def padded (x n : Nat) : ByteArray := ⟨(List.replicate (n - (Lib.decDigits x).length) 48 ++ Lib.decDigits x).toArray⟩
theorem padded_list (x n : Nat) : (padded x n).data.toList = List.replicate (n - (Lib.decDigits x).length) 48 ++ Lib.decDigits x := rfl
theorem padded_len {x n : Nat} (h : (Lib.decDigits x).length ≤ n) : (padded x n).data.toList.length = n := by rw [padded_list, List.length_append, List.length_replicate]; omega
theorem padded_val (x n : Nat) : val (padded x n).data.toList = x := by rw [padded_list, val_append, val_zeros, decDigits_val]; omega
theorem padded_dig (x n : Nat) : ∀ c ∈ (padded x n).data.toList, isDig c = true := by
  intro c hc
  rw [padded_list] at hc
  rcases List.mem_append.1 hc with h | h
  · rw [List.eq_of_mem_replicate h]; decide
  · exact decDigits_dig x c h
theorem dec_len (x : Nat) : (dec (x : Int)).size = (Lib.decDigits x).length := by rw [dec_nat, size_list]
theorem wide_is (x n : Nat) (h : (Lib.decDigits x).length ≤ n) (hn : n ≤ 100000) : metrolabref01_wide.f (dec (x : Int)) (n : Int) = some (padded x n) := by
  unfold metrolabref01_wide.f padded
  rw [if_pos (by rw [dec_len]; omega), dec_len, Int.toNat_natCast, dec_nat]
theorem dig_lt (x : Nat) : x < 10 ^ (Lib.decDigits x).length := by
  have := val_lt (Lib.decDigits x) (decDigits_dig x)
  rwa [decDigits_val] at this
theorem mx_nat (a b : Nat) : mx (a : Int) (b : Int) = ((max a b : Nat) : Int) := by unfold mx; split <;> omega
theorem rpaper_pre (x y n : Nat) (add : Bool) (r : ByteArray) (hn : n = max (Lib.decDigits x).length (Lib.decDigits y).length + 1) (hb : n ≤ 100000)
    (h : Ev (fun k => ZP.metrolabref01_paper.l0 k (padded x n) (padded y n) add (List.replicate n 0 ++ nums []) ((0 : Nat) : Int) ((n : Int) - 1)) r) :
    Ev (fun k => ZP.metrolabref01_paper.f k (dec (x : Int)) (dec (y : Int)) add) r := by
  unfold ZP.metrolabref01_paper.f
  have e : wrap64 (mx ((dec (x : Int)).size : Int) ((dec (y : Int)).size : Int) + 1) = (n : Int) := by
    rw [dec_len, dec_len, mx_nat, IntWalk.wrap64_in _ (by omega)]
    omega
  rw [e, wide_is x n (by omega) hb, wide_is y n (by omega) hb]
  simp only [Option.bind_some]
  refine Ev.pos (by omega) ?_
  refine Ev.pos (by omega) ?_
  rw [Int.toNat_natCast, IntWalk.wrap64_in _ (by omega)]
  have e2 : (List.replicate n (0 : Int)) = List.replicate n 0 ++ nums [] := by simp [nums]
  rw [e2]
  exact h
theorem rpaper_plus (x y : Nat) (hb : max (Lib.decDigits x).length (Lib.decDigits y).length + 1 ≤ 100000) : Ev (fun k => ZP.metrolabref01_paper.f k (dec (x : Int)) (dec (y : Int)) true) (dec ((x + y : Nat) : Int)) := by
  generalize hn : max (Lib.decDigits x).length (Lib.decDigits y).length + 1 = n at hb
  refine rpaper_pre x y n true _ hn.symm hb ?_
  have l1 := dig_lt x
  have l2 := dig_lt y
  have m1 : 10 ^ (Lib.decDigits x).length ≤ 10 ^ (n - 1) := Nat.pow_le_pow_right (by decide) (by omega)
  have m2 : 10 ^ (Lib.decDigits y).length ≤ 10 ^ (n - 1) := Nat.pow_le_pow_right (by decide) (by omega)
  have m3 : 10 ^ n = 10 * 10 ^ (n - 1) := by rw [show n = (n - 1) + 1 by omega, Nat.pow_succ, Nat.mul_comm, Nat.add_sub_cancel]
  exact rpaper_add (padded x n) (padded y n) n (padded_len (by omega)) (padded_len (by omega)) (padded_dig _ _) (padded_dig _ _) (by omega) hb (x + y) (by rw [padded_val, padded_val]) (by omega) n [] 0 (by simp) (by simp) (by omega) (by rw [List.drop_of_length_le (by rw [padded_len (by omega)]; exact Nat.le_refl _), List.drop_of_length_le (by rw [padded_len (by omega)]; exact Nat.le_refl _)]; simp)
theorem rpaper_minus (x y : Nat) (hxy : y ≤ x) (hb : max (Lib.decDigits x).length (Lib.decDigits y).length + 1 ≤ 100000) : Ev (fun k => ZP.metrolabref01_paper.f k (dec (x : Int)) (dec (y : Int)) false) (dec ((x - y : Nat) : Int)) := by
  generalize hn : max (Lib.decDigits x).length (Lib.decDigits y).length + 1 = n at hb
  refine rpaper_pre x y n false _ hn.symm hb ?_
  have l1 := dig_lt x
  have m1 : 10 ^ (Lib.decDigits x).length ≤ 10 ^ n := Nat.pow_le_pow_right (by decide) (by omega)
  exact rpaper_sub (padded x n) (padded y n) n (padded_len (by omega)) (padded_len (by omega)) (padded_dig _ _) (padded_dig _ _) (by omega) hb (x - y) (by rw [padded_val, padded_val]; omega) (by rw [padded_val]; omega) n [] 0 (by simp) (by simp) (by omega) (by rw [List.drop_of_length_le (by rw [padded_len (by omega)]; exact Nat.le_refl _), List.drop_of_length_le (by rw [padded_len (by omega)]; exact Nat.le_refl _)]; simp)
end Go.Proofs.YtpkfnclbcmnckaaGreatDoor
/- Lengths of decimal numbers, and the values of columns. -/
set_option linter.unusedVariables false
namespace Go.Proofs.YtpkfnclbcmnckaaGreatDoor
open Go Go.RowKit Go.Proofs.YtpkfnclbcmnckaaGreatDoor.Dec Go.Proofs.YtpkfnclbcmnckaaGreatDoor.Mem Go.Proofs.YtpkfnclbcmnckaaGreatDoor.Wid Go.Proofs.YtpkfnclbcmnckaaGreatDoorW.PrintWords

/-- How many digits a number has. -/
def lg (v : Nat) : Nat := (Lib.decDigits v).length
theorem lg_lt (v : Nat) : v < 10 ^ lg v := dig_lt v
theorem lg_le {v n : Nat} (hn : 1 ≤ n) (h : v < 10 ^ n) : lg v ≤ n := by
  unfold lg
  rw [Lib.decDigits_length]
  exact (nDigits_le_iff v n hn).2 h
theorem lg_pos (v : Nat) : 1 ≤ lg v := List.length_pos_iff.2 (decDigits_ne v)
theorem lt_of_lg {v n : Nat} (h : lg v ≤ n) : v < 10 ^ n := Nat.lt_of_lt_of_le (lg_lt v) (Nat.pow_le_pow_right (by decide) h)
theorem lg_mono {a b : Nat} (h : a ≤ b) : lg a ≤ lg b := lg_le (lg_pos b) (Nat.lt_of_le_of_lt h (lg_lt b))
theorem lg_add (a b : Nat) : lg (a + b) ≤ max (lg a) (lg b) + 1 := by
  refine lg_le (by omega) ?_
  have h1 : a < 10 ^ max (lg a) (lg b) := lt_of_lg (by omega)
  have h2 : b < 10 ^ max (lg a) (lg b) := lt_of_lg (by omega)
  rw [Nat.pow_succ]
  omega
theorem lg_mul (a b : Nat) : lg (a * b) ≤ lg a + lg b := by
  refine lg_le (by have := lg_pos a; omega) ?_
  rw [Nat.pow_add]
  exact Nat.mul_lt_mul_of_lt_of_lt (lg_lt a) (lg_lt b)
theorem lg_size (z : Int) : (dec (z.natAbs : Int)).size = lg z.natAbs := dec_len _
theorem lg_size_le (z : Int) : (dec z).size ≤ lg z.natAbs + 1 := by
  have h := mag_ge (dec z).data.toList
  rw [← size_list, dec_list, mag_itoa] at h
  exact h
theorem lg_le_size (z : Int) : lg z.natAbs ≤ (dec z).size := by
  have h := mag_le (dec z).data.toList
  rw [← size_list, dec_list, mag_itoa] at h
  exact h
theorem lgI_add (x y : Int) : lg (x + y).natAbs ≤ max (lg x.natAbs) (lg y.natAbs) + 1 := Nat.le_trans (lg_mono (by omega)) (lg_add _ _)
theorem lgI_mul (x y : Int) : lg (x * y).natAbs ≤ lg x.natAbs + lg y.natAbs := by rw [Int.natAbs_mul]; exact lg_mul _ _
theorem lg_fit {z : Int} (h : chk (dec z) = 0) : lg z.natAbs ≤ 1024 := by
  have := (chk_zero h).2
  rw [dec_list, mag_itoa] at this
  exact this

/-- The value of columns. -/
def cvl : List Int → Int
  | [] => 0
  | c :: t => c * 10 ^ t.length + cvl t
theorem cvl_set : ∀ (l : List Int) (j : Nat) (v : Int), j < l.length → cvl (l.set j v) = cvl l + (v - l.getD j 0) * 10 ^ (l.length - 1 - j)
  | [], j, v, h => absurd h (by simp)
  | c :: t, 0, v, _ => by
    show v * 10 ^ t.length + cvl t = c * 10 ^ t.length + cvl t + (v - c) * 10 ^ (t.length + 1 - 1 - 0)
    rw [Nat.add_sub_cancel, Nat.sub_zero, Int.sub_mul]
    omega
  | c :: t, j + 1, v, h => by
    have hj : j < t.length := by simpa using h
    have ih := cvl_set t j v hj
    show c * 10 ^ (t.set j v).length + cvl (t.set j v) = c * 10 ^ t.length + cvl t + (v - t.getD j 0) * 10 ^ (t.length + 1 - 1 - (j + 1))
    rw [List.length_set, ih, show t.length + 1 - 1 - (j + 1) = t.length - 1 - j by omega]
    omega
theorem cvl_drop : ∀ (l : List Int) (j : Nat), j < l.length → cvl (l.drop j) = l.getD j 0 * 10 ^ (l.length - 1 - j) + cvl (l.drop (j + 1))
  | [], j, h => absurd h (by simp)
  | c :: t, 0, _ => by
    show c * 10 ^ t.length + cvl t = c * 10 ^ (t.length + 1 - 1 - 0) + cvl t
    rw [Nat.add_sub_cancel, Nat.sub_zero]
  | c :: t, j + 1, h => by
    have hj : j < t.length := by simpa using h
    have ih := cvl_drop t j hj
    show cvl (t.drop j) = t.getD j 0 * 10 ^ (t.length + 1 - 1 - (j + 1)) + cvl (t.drop (j + 1))
    rw [ih, show t.length + 1 - 1 - (j + 1) = t.length - 1 - j by omega]
theorem cvl_zero : ∀ n : Nat, cvl (List.replicate n 0) = 0
  | 0 => rfl
  | n + 1 => by
    show 0 * 10 ^ (List.replicate n (0 : Int)).length + cvl (List.replicate n 0) = 0
    rw [cvl_zero n]
    omega
end Go.Proofs.YtpkfnclbcmnckaaGreatDoor
set_option linter.unusedVariables false
namespace Go.Proofs.YtpkfnclbcmnckaaGreatDoor
open Go Go.RowKit Go.Proofs.YtpkfnclbcmnckaaGreatDoor.Dec Go.Proofs.YtpkfnclbcmnckaaGreatDoor.Mem Go.Proofs.YtpkfnclbcmnckaaGreatDoor.Wid Go.Proofs.YtpkfnclbcmnckaaGreatDoorW.PrintWords Go.Proofs.YtpkfnclbcmnckaaGreatDoorW.PrintMore

theorem dec_size_lg (v n : Nat) (h : lg v ≤ n) (hn : n ≤ 100000) : (dec (v : Int)).size ≤ 9000000000000000000 := by
  rw [dec_len]
  show lg v ≤ _
  omega
theorem rplus_is (x y : Int) (hx : lg x.natAbs ≤ 90000) (hy : lg y.natAbs ≤ 90000) : Ev (fun k => ZP.metrolabref01_Plus.f k (dec x) (dec y)) (dec (x + y)) := by
  unfold ZP.metrolabref01_Plus.f
  by_cases hb : brief18 x y
  · refine Ev.bind (rbrief_yes x y hb) ?_
    refine Ev.pos rfl ?_
    have h1 := size_18 hb.1
    have h2 := size_18 hb.2
    rw [IntWalk.wrap64_in (x + y) (by omega)]
    exact Ev.bind (rof_is (x + y) (by omega) (by omega)) (Ev.now _)
  · refine Ev.bind (rbrief_no x y hb) ?_
    refine Ev.neg (by decide) ?_
    rw [rsize_is, rsize_is, magS_dec, magS_dec, rbelow_is, rbelow_is]
    simp only [Option.bind_some]
    have hm : max (Lib.decDigits x.natAbs).length (Lib.decDigits y.natAbs).length + 1 ≤ 100000 := by
      have h1 : (Lib.decDigits x.natAbs).length ≤ 90000 := hx
      have h2 : (Lib.decDigits y.natAbs).length ≤ 90000 := hy
      omega
    have hm' : max (Lib.decDigits y.natAbs).length (Lib.decDigits x.natAbs).length + 1 ≤ 100000 := by omega
    by_cases hs : decide (x < 0) = decide (y < 0)
    · rw [hs]
      refine Ev.pos (by cases decide (y < 0) <;> rfl) ?_
      refine Ev.bind (rpaper_plus _ _ hm) ?_
      have hl : lg (x.natAbs + y.natAbs) ≤ 90001 := Nat.le_trans (lg_add _ _) (by omega)
      rw [rsigned_is _ _ (dec_size_lg _ _ hl (by decide))]
      simp only [Option.bind_some]
      have e : sv (decide (y < 0)) (x.natAbs + y.natAbs) = x + y := by
        have h2 : (x < 0 ↔ y < 0) := by simpa using hs
        unfold sv
        by_cases h : y < 0
        · rw [decide_eq_true h, if_pos rfl]; omega
        · rw [decide_eq_false h, if_neg (by decide)]; omega
      rw [e]
      exact Ev.now _
    · refine Ev.neg (by intro k; exact hs (beq_iff_eq.1 k)) ?_
      rw [rless_is]
      simp only [Option.bind_some]
      by_cases hl : x.natAbs < y.natAbs
      · refine Ev.pos (decide_eq_true hl) ?_
        refine Ev.bind (rpaper_minus _ _ (by omega) hm') ?_
        have hg : lg (y.natAbs - x.natAbs) ≤ 90000 := Nat.le_trans (lg_mono (by omega)) hy
        rw [rsigned_is _ _ (dec_size_lg _ _ hg (by decide))]
        simp only [Option.bind_some]
        have e : sv (decide (y < 0)) (y.natAbs - x.natAbs) = x + y := by
          unfold sv
          by_cases h : y < 0
          · have h2 : ¬ x < 0 := fun k => hs (by rw [decide_eq_true h, decide_eq_true k])
            rw [decide_eq_true h, if_pos rfl]; omega
          · have h2 : x < 0 := Classical.not_not.1 fun k => hs (by rw [decide_eq_false h, decide_eq_false k])
            rw [decide_eq_false h, if_neg (by decide)]; omega
        rw [e]
        exact Ev.now _
      · refine Ev.neg (by simpa using hl) ?_
        refine Ev.bind (rpaper_minus _ _ (by omega) hm) ?_
        have hg : lg (x.natAbs - y.natAbs) ≤ 90000 := Nat.le_trans (lg_mono (by omega)) hx
        rw [rsigned_is _ _ (dec_size_lg _ _ hg (by decide))]
        simp only [Option.bind_some]
        have e : sv (decide (x < 0)) (x.natAbs - y.natAbs) = x + y := by
          unfold sv
          by_cases h : x < 0
          · have h2 : ¬ y < 0 := fun k => hs (by rw [decide_eq_true h, decide_eq_true k])
            rw [decide_eq_true h, if_pos rfl]; omega
          · have h2 : y < 0 := Classical.not_not.1 fun k => hs (by rw [decide_eq_false h, decide_eq_false k])
            rw [decide_eq_false h, if_neg (by decide)]; omega
        rw [e]
        exact Ev.now _
theorem rminus_is (x y : Int) (hx : lg x.natAbs ≤ 90000) (hy : lg y.natAbs ≤ 90000) : Ev (fun k => ZP.metrolabref01_Minus.f k (dec x) (dec y)) (dec (x - y)) := by
  unfold ZP.metrolabref01_Minus.f
  rw [rturned_is y (dec_size_lg _ _ hy (by decide))]
  simp only [Option.bind_some]
  have h := rplus_is x (-y) hx (by rw [Int.natAbs_neg]; exact hy)
  rw [← Int.sub_eq_add_neg] at h
  exact Ev.bind h (Ev.now _)
theorem zero_iff (z : Int) : (dec z).data.toList = [48] ↔ z = 0 := by
  constructor
  · intro h
    have := iv_dec z
    unfold iv at this
    rw [h, ival_zero] at this
    exact this.symm
  · rintro rfl
    exact itoa_zero
theorem rorder_is (x y : Int) (hx : lg x.natAbs ≤ 90000) (hy : lg y.natAbs ≤ 90000) : Ev (fun k => ZP.metrolabref01_Order.f k (dec x) (dec y)) (cmpI x y) := by
  unfold ZP.metrolabref01_Order.f
  refine Ev.bind (rminus_is x y hx hy) ?_
  rw [toL]
  unfold cmpI
  by_cases h : x - y = 0
  · refine Ev.pos ((zero_iff _).2 h) ?_
    rw [if_neg (by omega), if_neg (by omega)]
    exact Ev.now _
  · refine Ev.neg (fun k => h ((zero_iff _).1 k)) ?_
    rw [rbelow_is]
    simp only [Option.bind_some]
    by_cases h2 : x - y < 0
    · refine Ev.pos (decide_eq_true h2) ?_
      rw [if_pos (by omega)]
      exact Ev.now _
    · refine Ev.neg (by simpa using h2) ?_
      rw [if_neg (by omega), if_pos (by omega)]
      exact Ev.now _
theorem rfew_is (a : ByteArray) (ha : a.size ≤ 9223372036854775807) : ∃ b : Bool, Ev (fun k => ZP.metrolabref01_Few.f k a) b ∧ (b = true → a.size ≤ 50 ∨ (a.size ≤ 2048 ∧ chk a = 3)) := by
  unfold ZP.metrolabref01_Few.f
  by_cases h : a.size ≤ 50
  · exact ⟨true, Ev.pos (by omega) (Ev.now _), fun _ => .inl h⟩
  · by_cases h2 : a.size ≤ 2048
    · refine ⟨chk a == 3, Ev.neg (by omega) (Ev.pos (by omega) ?_), fun k => .inr ⟨h2, by simpa using k⟩⟩
      exact Ev.bind (rcheck_is a ha) (Ev.now _)
    · exact ⟨false, Ev.neg (by omega) (Ev.neg (by omega) (Ev.now _)), fun k => absurd k (by decide)⟩
end Go.Proofs.YtpkfnclbcmnckaaGreatDoor
