/- WholeTotals: Total returns the sum or the error of the reference for all lists. Conditions: package-level variables of Go's library hold what their initialisers lay (tied). -/
import Derived.Test.YtpkfnclbcmnckaaGreatDoorA4
import Derived.Test.YtpkfnclbcmnckaaGreatDoorZQ1m
import Derived.Test.YtpkfnclbcmnckaaGreatDoorZLT1m
import Derived.Deep.Strs
import Derived.Test.YtpkfnclbcmnckaaGreatDoorRows
import Derived.Test.YtpkfnclbcmnckaaGreatDoorA1
import Derived.Lib.LaidTab
import Derived.Stop.LaidErr
import Derived.Lay
import Derived.ProofKit
import Derived.LaidMore
import Derived.Test.YtpkfnclbcmnckaaGreatDoorCards
import Derived.Test.YtpkfnclbcmnckaaGreatDoorTie
import Derived.WalkKit
import Derived.OpenShut
import Derived.ShutString
import Derived.ChangeOld
import Derived.Below
import Derived.SizedLaws
import Derived.SevenTiedAt
/- What the reference's Small, Compare, Add, Sub, Neg, Total and FewAll answer, over whole numbers. -/
set_option linter.unusedVariables false
namespace Go.Proofs.YtpkfnclbcmnckaaGreatDoor
open Go Go.RowKit Go.Proofs.YtpkfnclbcmnckaaGreatDoor.Dec Go.Proofs.YtpkfnclbcmnckaaGreatDoor.Mem Go.Proofs.YtpkfnclbcmnckaaGreatDoor.Wid Go.Proofs.YtpkfnclbcmnckaaGreatDoorW.PrintWords Go.Proofs.YtpkfnclbcmnckaaGreatDoorW.PrintMore

theorem dec_chk {a : ByteArray} (h : chk a = 0) : dec (iv a) = a := dec_iv (chk_zero h).1
theorem lg_chk {a : ByteArray} (h : chk a = 0) : lg (iv a).natAbs ≤ 1024 := lg_fit (by rw [dec_chk h]; exact h)
theorem sv_t (v : Nat) : sv true v = -(v : Int) := rfl
theorem sv_f (v : Nat) : sv false v = (v : Int) := rfl
theorem rsmall_loop (z : Int) (h0 : -9223372036854775808 ≤ z) (h1 : z ≤ 9223372036854775807) : ∀ (d i : Nat), (Lib.decDigits z.natAbs).length - i = d → i ≤ (Lib.decDigits z.natAbs).length →
    Ev (fun k => ZQ.metrolabref01_Small.l0 k (dec z) (sv (decide (z < 0)) (val ((Lib.decDigits z.natAbs).take i))) (dec (z.natAbs : Int)) (i : Int)) (z, 0)
  | 0, i, hd, hi => by
    obtain rfl : i = (Lib.decDigits z.natAbs).length := by omega
    have hs : (dec (z.natAbs : Int)).size = (Lib.decDigits z.natAbs).length := by rw [dec_nat, size_list]
    refine Ev.after 1 fun k => ?_
    simp only [ZQ.metrolabref01_Small.l0]
    rw [if_neg (by rw [hs]; omega), List.take_length, decDigits_val, sv_iv]
  | d + 1, i, hd, hi => by
    have hlt : i < (Lib.decDigits z.natAbs).length := by omega
    have hs : (dec (z.natAbs : Int)).size = (Lib.decDigits z.natAbs).length := by rw [dec_nat, size_list]
    have hb : bt (dec (z.natAbs : Int)) (i : Int) = ((Lib.decDigits z.natAbs)[i].toNat : Int) := by
      rw [bt_nat, dec_nat, List.getD_eq_getElem?_getD]
      show ((((Lib.decDigits z.natAbs)[i]?).getD 0).toNat : Int) = _
      rw [List.getElem?_eq_getElem hlt]
      rfl
    have hdg := (isDig_iff _).1 (decDigits_dig z.natAbs _ (List.getElem_mem hlt))
    have hv := val_take_succ _ i hlt
    have hv1 := val_take_le (Lib.decDigits z.natAbs) i
    have hv2 := val_take_le (Lib.decDigits z.natAbs) (i + 1)
    rw [decDigits_val] at hv1 hv2
    refine Ev.step (f := fun k => ZQ.metrolabref01_Small.l0 k (dec z) (sv (decide (z < 0)) (val ((Lib.decDigits z.natAbs).take (i + 1)))) (dec (z.natAbs : Int)) ((i + 1 : Nat) : Int)) (fun k => ?_) (rsmall_loop z h0 h1 d (i + 1) (by omega) (by omega))
    have hl20 := digits_20 z.natAbs (by omega)
    simp only [ZQ.metrolabref01_Small.l0]
    rw [if_pos (by rw [hs]; omega), rbelow_is, Option.bind_some, hb, hv]
    generalize val ((Lib.decDigits z.natAbs).take i) = v at *
    generalize (Lib.decDigits z.natAbs)[i].toNat = c at *
    have hc : ((c : Int) - 48) % 256 = ((c - 48 : Nat) : Int) := by omega
    have c0 : (0 : Int) ≤ (i : Int) := Int.natCast_nonneg i
    have b0 : -9223372036854775808 ≤ (i : Int) + 1 ∧ (i : Int) + 1 ≤ 9223372036854775807 := by omega
    by_cases h : z < 0
    · have b1 : -9223372036854775808 ≤ 10 * -(v : Int) ∧ 10 * -(v : Int) ≤ 9223372036854775807 := by omega
      have b2 : -9223372036854775808 ≤ 10 * -(v : Int) - ((c - 48 : Nat) : Int) ∧ 10 * -(v : Int) - ((c - 48 : Nat) : Int) ≤ 9223372036854775807 := by omega
      have e2 : 10 * -(v : Int) - ((c - 48 : Nat) : Int) = -((10 * v + (c - 48) : Nat) : Int) := by omega
      rw [decide_eq_true h, sv_t, sv_t, if_pos (rfl : true = true), if_pos c0, hc, IntWalk.wrap64_in _ b0, IntWalk.wrap64_in _ b1, IntWalk.wrap64_in _ b2, e2]
      rfl
    · have b1 : -9223372036854775808 ≤ 10 * (v : Int) ∧ 10 * (v : Int) ≤ 9223372036854775807 := by omega
      have b2 : -9223372036854775808 ≤ 10 * (v : Int) + ((c - 48 : Nat) : Int) ∧ 10 * (v : Int) + ((c - 48 : Nat) : Int) ≤ 9223372036854775807 := by omega
      have e2 : 10 * (v : Int) + ((c - 48 : Nat) : Int) = ((10 * v + (c - 48) : Nat) : Int) := by omega
      rw [decide_eq_false h, sv_f, sv_f, if_neg (show ¬ (false = true) by decide), if_pos c0, hc, IntWalk.wrap64_in _ b0, IntWalk.wrap64_in _ b1, IntWalk.wrap64_in _ b2, e2]
      rfl
theorem rsmall_is (a : ByteArray) (ha : a.size ≤ 9223372036854775807) : Ev (fun k => ZQ.metrolabref01_Small.f k a) (smallS a) := by
  unfold ZQ.metrolabref01_Small.f smallS
  refine Ev.bind (rcheck_is a ha) ?_
  by_cases h : chk a = 0
  · refine Ev.pos h ?_
    rw [if_pos h]
    have e := dec_chk h
    have hl := lg_chk h
    have h63 : lg (9223372036854775807 : Int).natAbs ≤ 90000 := Nat.le_trans (digits_20 _ (by decide)) (by decide)
    have h64 : lg (-9223372036854775808 : Int).natAbs ≤ 90000 := Nat.le_trans (digits_20 _ (by decide)) (by decide)
    rw [← e]
    generalize iv a = z at *
    rw [iv_dec]
    refine Ev.bind (rof_is _ (by decide) (by decide)) ?_
    refine Ev.bind (rorder_is z _ (by omega) h63) ?_
    by_cases hz : 9223372036854775807 < z
    · refine Ev.pos (by unfold cmpI; rw [if_neg (by omega), if_pos hz]; decide) ?_
      rw [if_neg (fun k => by have := k.2; omega)]
      exact Ev.after 1 fun k => rfl
    · refine Ev.neg (by unfold cmpI; rw [if_neg (c := 9223372036854775807 < z) hz]; split <;> decide) ?_
      refine Ev.bind (rof_is _ (by decide) (by decide)) ?_
      refine Ev.bind (rorder_is z _ (by omega) h64) ?_
      by_cases hn : z < -9223372036854775808
      · rw [decide_eq_true (by unfold cmpI; rw [if_pos hn]; decide), if_neg (fun k => by have := k.1; omega)]
        exact Ev.after 1 fun k => rfl
      · rw [decide_eq_false (by unfold cmpI; rw [if_neg hn]; split <;> decide), if_pos ⟨by omega, by omega⟩]
        refine Ev.step (f := fun k => (ZP.metrolabref01_size.f (dec z)).bind fun t106 => (ZQ.metrolabref01_Small.l0 k (dec z) 0 t106 0)) (fun k => rfl) ?_
        rw [rsize_is, magS_dec]
        simp only [Option.bind_some]
        have := rsmall_loop z (by omega) (by omega) _ 0 rfl (Nat.zero_le _)
        have e0 : sv (decide (z < 0)) (val ((Lib.decDigits z.natAbs).take 0)) = 0 := by
          rw [List.take_zero]
          unfold sv
          split <;> rfl
        rw [e0] at this
        exact this
  · refine Ev.neg h ?_
    rw [if_neg h]
    exact Ev.now _
theorem two_chk {a b : ByteArray} (h : errs [a, b] = 0) : chk a = 0 ∧ chk b = 0 := ⟨errs_all h a (by simp), errs_all h b (by simp)⟩
theorem rcompare_is (a b : ByteArray) (ha : a.size ≤ 9223372036854775807) (hb : b.size ≤ 9223372036854775807) : Ev (fun k => ZQ.metrolabref01_Compare.f k a b) (cmpS a b) := by
  unfold ZQ.metrolabref01_Compare.f cmpS
  refine Ev.bind (rboth_is a b ha hb) ?_
  by_cases h : errs [a, b] = 0
  · refine Ev.pos h ?_
    rw [if_pos h]
    obtain ⟨h1, h2⟩ := two_chk h
    have := rorder_is (iv a) (iv b) (by have := lg_chk h1; omega) (by have := lg_chk h2; omega)
    rw [dec_chk h1, dec_chk h2] at this
    exact Ev.bind this (Ev.now _)
  · refine Ev.neg h ?_
    rw [if_neg h]
    exact Ev.now _
theorem radd_is (a b : ByteArray) (ha : a.size ≤ 9223372036854775807) (hb : b.size ≤ 9223372036854775807) : Ev (fun k => ZQ.metrolabref01_Add.f k a b) (two a b (iv a + iv b)) := by
  unfold ZQ.metrolabref01_Add.f two
  refine Ev.bind (rboth_is a b ha hb) ?_
  by_cases h : errs [a, b] = 0
  · refine Ev.pos h ?_
    rw [if_pos h]
    obtain ⟨h1, h2⟩ := two_chk h
    have := rplus_is (iv a) (iv b) (by have := lg_chk h1; omega) (by have := lg_chk h2; omega)
    rw [dec_chk h1, dec_chk h2] at this
    refine Ev.bind this ?_
    rw [rkept_is]
    exact Ev.now _
  · refine Ev.neg h ?_
    rw [if_neg h]
    exact Ev.now _
theorem rsub_is (a b : ByteArray) (ha : a.size ≤ 9223372036854775807) (hb : b.size ≤ 9223372036854775807) : Ev (fun k => ZQ.metrolabref01_Sub.f k a b) (two a b (iv a - iv b)) := by
  unfold ZQ.metrolabref01_Sub.f two
  refine Ev.bind (rboth_is a b ha hb) ?_
  by_cases h : errs [a, b] = 0
  · refine Ev.pos h ?_
    rw [if_pos h]
    obtain ⟨h1, h2⟩ := two_chk h
    have := rminus_is (iv a) (iv b) (by have := lg_chk h1; omega) (by have := lg_chk h2; omega)
    rw [dec_chk h1, dec_chk h2] at this
    refine Ev.bind this ?_
    rw [rkept_is]
    exact Ev.now _
  · refine Ev.neg h ?_
    rw [if_neg h]
    exact Ev.now _
theorem rneg_is (a : ByteArray) (ha : a.size ≤ 9223372036854775807) : Ev (fun k => ZQ.metrolabref01_Neg.f k a) (negS a) := by
  unfold ZQ.metrolabref01_Neg.f negS
  refine Ev.bind (rcheck_is a ha) ?_
  by_cases h : chk a = 0
  · refine Ev.pos h ?_
    rw [if_pos h]
    have := rturned_is (iv a) (dec_size_lg _ _ (lg_chk h) (by decide))
    rw [dec_chk h] at this
    rw [this]
    exact Ev.now _
  · refine Ev.neg h ?_
    rw [if_neg h]
    exact Ev.now _
theorem rd_at (l : List ByteArray) (i : Nat) (h : i < l.length) : rdOf ByteArray.empty l (i : Int) = l[i] := by
  unfold rdOf
  rw [Int.toNat_natCast, List.getD_eq_getElem?_getD, List.getElem?_eq_getElem h, Option.getD_some]
/-- Sums grow by one digit a summand. -/
theorem lg_total (l : List ByteArray) (hl : ∀ s ∈ l, chk s = 0) (i : Nat) (h : i ≤ l.length) : lg (total (l.take i)).natAbs ≤ 1024 + i := by
  induction i with
  | zero =>
    have e : total (l.take 0) = 0 := by rw [List.take_zero]; rfl
    rw [e]
    exact Nat.le_trans (lg_le (n := 1) (by decide) (by decide)) (by decide)
  | succ i ih =>
    have h1 := ih (by omega)
    rw [total_succ l i h]
    have h2 := lg_chk (hl _ (List.getElem_mem h))
    have := lgI_add (total (l.take i)) (iv l[i])
    omega
theorem rsum_loop (l : List ByteArray) (hn : l.length ≤ 4096) (hl : ∀ s ∈ l, chk s = 0) : ∀ (d i : Nat), l.length - i = d → i ≤ l.length →
    Ev (fun k => ZQ.metrolabref01_Summed.l0 k l (dec (total (l.take i))) (i : Int)) (dec (total l))
  | 0, i, hd, hi => by
    obtain rfl : i = l.length := by omega
    rw [List.take_length]
    refine Ev.after 1 fun k => ?_
    simp only [ZQ.metrolabref01_Summed.l0]
    rw [if_neg (by omega)]
  | d + 1, i, hd, hi => by
    have hlt : i < l.length := by omega
    have hc := hl _ (List.getElem_mem hlt)
    have hp := rplus_is (total (l.take i)) (iv l[i]) (by have := lg_total l hl i hi; omega) (by have := lg_chk hc; omega)
    rw [dec_chk hc, ← total_succ l i hlt] at hp
    refine Ev.step (f := fun k => (ZP.metrolabref01_Plus.f k (dec (total (l.take i))) l[i]).bind fun t => ZQ.metrolabref01_Summed.l0 k l t ((i + 1 : Nat) : Int)) (fun k => ?_) ?_
    · simp only [ZQ.metrolabref01_Summed.l0]
      rw [if_pos (by omega), if_pos (by omega), rd_at l i hlt, IntWalk.wrap64_in _ (by omega)]
      rfl
    · exact Ev.bind hp (rsum_loop l hn hl d (i + 1) (by omega) hlt)
theorem rsummed_is (l : List ByteArray) (hn : l.length ≤ 4096) (hl : ∀ s ∈ l, chk s = 0) : Ev (fun k => ZQ.metrolabref01_Summed.f k l) (dec (total l)) := by
  have := rsum_loop l hn hl _ 0 rfl (Nat.zero_le _)
  rw [List.take_zero, show dec (total []) = ⟨#[48]⟩ from bytes_ext itoa_zero] at this
  exact this
theorem errs_drop (l : List ByteArray) (i : Nat) (h : i < l.length) : errs (l.drop i) = if chk l[i] = 0 then errs (l.drop (i + 1)) else chk l[i] := by
  rw [List.drop_eq_getElem_cons h]
  rfl
theorem rtotal_loop (l : List ByteArray) (hn : l.length ≤ 4096) (hs : ∀ s ∈ l, s.size ≤ 9223372036854775807) : ∀ (d i : Nat), l.length - i = d → i ≤ l.length → (errs (l.drop i) = 0 → errs l = 0) →
    Ev (fun k => ZQ.metrolabref01_Total.l0 k l (i : Int)) (if errs (l.drop i) = 0 then lim (total l) else (⟨#[]⟩, errs (l.drop i)))
  | 0, i, hd, hi, he => by
    obtain rfl : i = l.length := by omega
    have e0 : errs (l.drop l.length) = 0 := by rw [List.drop_length]; rfl
    rw [if_pos e0]
    have he' := he e0
    refine Ev.step (f := fun k => (ZQ.metrolabref01_Summed.f k l).bind fun t215 => ((ZP.metrolabref01_Kept.f t215).bind fun bt216 => (some (bt216.1, bt216.2)))) (fun k => ?_) ?_
    · simp only [ZQ.metrolabref01_Total.l0]
      rw [if_neg (by omega)]
    · refine Ev.bind (rsummed_is l hn (errs_all he')) ?_
      rw [rkept_is]
      exact Ev.now _
  | d + 1, i, hd, hi, he => by
    have hlt : i < l.length := by omega
    have hc := rcheck_is l[i] (hs _ (List.getElem_mem hlt))
    rw [errs_drop l i hlt] at he ⊢
    refine Ev.step (f := fun k => (ZP.metrolabref01_Check.f k l[i]).bind fun t => if t = 0 then ZQ.metrolabref01_Total.l0 k l ((i + 1 : Nat) : Int) else some ((⟨#[]⟩ : ByteArray), t)) (fun k => ?_) ?_
    · simp only [ZQ.metrolabref01_Total.l0]
      rw [if_pos (by omega), if_pos (by omega), rd_at l i hlt, IntWalk.wrap64_in _ (by omega)]
      rfl
    · refine Ev.bind hc ?_
      by_cases h : chk l[i] = 0
      · rw [if_pos h] at he ⊢
        exact Ev.pos h (rtotal_loop l hn hs d (i + 1) (by omega) hlt he)
      · rw [if_neg h, if_neg h]
        exact Ev.neg h (Ev.now _)
theorem rtotal_is (l : List ByteArray) (hs : ∀ s ∈ l, s.size ≤ 9223372036854775807) : Ev (fun k => ZQ.metrolabref01_Total.f k l) (totalS l) := by
  unfold ZQ.metrolabref01_Total.f totalS
  by_cases h : 4096 < l.length
  · rw [if_pos h]
    exact Ev.pos (by omega) (Ev.now _)
  · rw [if_neg h]
    have := rtotal_loop l (by omega) hs _ 0 rfl (Nat.zero_le _) (fun k => k)
    rw [List.drop_zero] at this
    exact Ev.neg (by omega) this
theorem rfewall_loop (l : List ByteArray) (hn : l.length ≤ 30) (hs : ∀ s ∈ l, s.size ≤ 9223372036854775807) : ∀ (d i : Nat), l.length - i = d → i ≤ l.length →
    ∃ b : Bool, Ev (fun k => ZQ.metrolabref01_FewAll.l0 k l (i : Int)) b
  | 0, i, hd, hi => by
    obtain rfl : i = l.length := by omega
    refine ⟨true, Ev.after 1 fun k => ?_⟩
    simp only [ZQ.metrolabref01_FewAll.l0]
    rw [if_neg (by omega)]
  | d + 1, i, hd, hi => by
    have hlt : i < l.length := by omega
    obtain ⟨b, hb, _⟩ := rfew_is l[i] (hs _ (List.getElem_mem hlt))
    obtain ⟨c, hc⟩ := rfewall_loop l hn hs d (i + 1) (by omega) hlt
    refine ⟨if b = true then c else false, ?_⟩
    refine Ev.step (f := fun k => (ZP.metrolabref01_Few.f k l[i]).bind fun t => if t = true then ZQ.metrolabref01_FewAll.l0 k l ((i + 1 : Nat) : Int) else some false) (fun k => ?_) ?_
    · simp only [ZQ.metrolabref01_FewAll.l0]
      rw [if_pos (by omega), if_pos (by omega), rd_at l i hlt, IntWalk.wrap64_in _ (by omega)]
      rfl
    · refine Ev.bind hb ?_
      cases b
      · exact Ev.neg (by decide) (Ev.now _)
      · exact Ev.pos rfl hc
theorem rfewall_is (l : List ByteArray) (hs : ∀ s ∈ l, s.size ≤ 9223372036854775807) : ∃ b : Bool, Ev (fun k => ZQ.metrolabref01_FewAll.f k l) b := by
  unfold ZQ.metrolabref01_FewAll.f
  by_cases h : l.length ≤ 30
  · obtain ⟨b, hb⟩ := rfewall_loop l h hs _ 0 rfl (Nat.zero_le _)
    exact ⟨b, Ev.neg (by omega) hb⟩
  · by_cases h2 : 4096 < l.length
    · exact ⟨_, Ev.pos (by omega) (Ev.pos (by omega) (Ev.now _))⟩
    · exact ⟨_, Ev.pos (by omega) (Ev.neg (by omega) (Ev.now _))⟩
end Go.Proofs.YtpkfnclbcmnckaaGreatDoor
/- The law WholeTotals comes to true for all lists. -/
set_option linter.unusedVariables false
namespace Go.Proofs.YtpkfnclbcmnckaaGreatDoor
open Go Go.RowKit Go.Proofs.YtpkfnclbcmnckaaGreatDoor.Dec Go.Proofs.YtpkfnclbcmnckaaGreatDoor.Mem Go.Proofs.YtpkfnclbcmnckaaGreatDoor.Wid Go.Proofs.YtpkfnclbcmnckaaGreatDoorW.PrintWords Go.Proofs.YtpkfnclbcmnckaaGreatDoorW.PrintMore

theorem strs_of_cells {W : World} {a : Addr} {len cap m : Nat} {Sx : Nat → ByteArray} (hl : len ≤ cap) (hm : cap ≤ maxLen) (hlm : len ≤ m) (hcell : ∀ i, i < m → W.cell? (a.add i) = some (.string (Sx i)) ∧ (Sx i).size ≤ maxLen) :
    ∃ l : List ByteArray, l.length = len ∧ l.length ≤ cap ∧ Kd.C Kd.string W (some a) l.length l ∧ ∀ s ∈ l, s.size ≤ maxLen := by
  have e : ((List.range len).map Sx).length = len := by simp
  refine ⟨(List.range len).map Sx, e, by rw [e]; exact hl, Kd.C_of_reads (d := ByteArray.empty) ⟨rfl, ?_, fun _ => ⟨a, rfl, fun j hj => ?_⟩⟩, fun s h => ?_⟩
  · rw [e]
    exact Nat.le_trans (Nat.le_trans hl hm) (by decide)
  · rw [e] at hj
    rw [(hcell j (by omega)).1, List.getD_eq_getElem?_getD, List.getElem?_map, List.getElem?_range hj]
    rfl
  · obtain ⟨i, hi, rfl⟩ := List.mem_map.1 h
    exact (hcell i (by have := List.mem_range.1 hi; omega)).2
theorem totals_pure (l : List ByteArray) (hs0 : ∀ s ∈ l, s.size ≤ maxLen) : ∃ k, ZLT.metrolablaw01_WholeTotals.f k l = some true := by
  have hs : ∀ s ∈ l, s.size ≤ 9223372036854775807 := fun s h => Nat.le_trans (hs0 s h) (by decide)
  have h : Ev (fun k => ZLT.metrolablaw01_WholeTotals.f k l) true := by
    unfold ZLT.metrolablaw01_WholeTotals.f
    obtain ⟨b, hb⟩ := rfewall_is l hs
    refine Ev.bind hb ?_
    cases b
    · exact Ev.neg (by decide) (Ev.now _)
    · refine Ev.pos rfl ?_
      have e1 : whole_Total.f l = some (totalS l) := if_pos fun s h => Nat.le_trans (hs s h) (by decide)
      rw [e1]
      simp only [Option.bind_some]
      refine Ev.bind (rtotal_is l hs) ?_
      exact Ev.pos rfl (Ev.pos rfl (Ev.now _))
  obtain ⟨K, hK⟩ := h
  exact ⟨K, hK K (Nat.le_refl _)⟩
end Go.Proofs.YtpkfnclbcmnckaaGreatDoor
/- What the listed package-level variables give the walks. -/
set_option linter.unusedVariables false
namespace Go.Proofs.YtpkfnclbcmnckaaGreatDoor
open Go Go.RowKit Go.ChangeShapes Go.WideShapes Go.ChangeAt

theorem own : ownKnob Tryz.prog.godebug = none := by kernel_rfl
theorem g_pow : Tryz.prog.globalNamed "internal/strconv.uint64pow10" = some 5 := by kernel_rfl
theorem gt_pow : (Tryz.prog.globals[5]?).map (·.type) = some 158 := by kernel_rfl
theorem g_err : Tryz.prog.globalNamed "strconv.ErrRange" = some 1 := by kernel_rfl
theorem gt_err : (Tryz.prog.globals[1]?).map (·.type) = some 81 := by kernel_rfl
theorem cells_u64 : Tryz.prog.cellsOf 132 = 1 := by kernel_rfl
theorem cells_pow : Tryz.prog.cellsOf 158 = 20 := by kernel_rfl
theorem cells_es : Tryz.prog.cellsOf 149 = 1 := by kernel_rfl
theorem cells_str : Tryz.prog.cellsOf 9 = 1 := by kernel_rfl
theorem row_es (u : TypeId) (h : Tryz.prog.typeName? 3 u = some "*errors.errorString") : u = 147 :=
  typeName_ptr_named (nm := "errors.errorString") (by kernel_rfl) (by kernel_rfl) (by decide) u h
def ErrsRange : List UInt8 := [118, 97, 108, 117, 101, 32, 111, 117, 116, 32, 111, 102, 32, 114, 97, 110, 103, 101]
theorem env_of_laid {W : World} {x0 x1 x3 : String × DataW Unit} {r : List (String × DataW Unit)}
    (h : laidMet Tryz.prog (x0 :: x1 :: ("internal/strconv.uint64pow10", Lib.tabData .u64 Lib.pow10Tab) :: x3 :: ("strconv.ErrRange", .iface "*errors.errorString" (.ptr (.agg [.lit (.string ErrsRange)]))) :: r) W) : Env W := by
  have h1 := h.tail.tail
  have h2 := h.tail.tail.tail.tail
  refine ⟨Lib.tabIs_of_head g_pow gt_pow Tryz.underlying158 Tryz.underlying132 cells_u64 cells_pow h1, ?_⟩
  obtain ⟨a0, s0, hv, _, _, _⟩ := laid_sentinel h2 g_err gt_err Tryz.underlying81 row_es Tryz.underlying147 Tryz.underlying149 rfl rfl Tryz.underlying9 cells_es cells_str
  exact ⟨_, World.var?_cell g_err hv 0, .inr ⟨_, _, rfl⟩⟩
end Go.Proofs.YtpkfnclbcmnckaaGreatDoor
namespace Go.Proofs.YtpkfnclbcmnckaaGreatDoor.wholeTotals
open Go.ChangeShapes Go.WideShapes Go.ChangeAt Go.RowKit
open Go.ChangeMaps (open_string shut_string)
open Go.Proofs.YtpkfnclbcmnckaaGreatDoorW.PrintWords
set_option linter.unusedVariables false
theorem laidOut : laidOutB Tryz.prog = true := by kernel_rfl
set_option maxRecDepth 100000 in
theorem lifted (os : Os) (started : os.Started) (H : Type) (enc : TypeId × Value → H) :
    ReturnsInHanded {} Tryz.checked os 5 .any (fun w args => (Rows.wholeTotalsSpec.pre enc Tryz.prog Tryz.f5 [] false w args ∧ laidMetH Tryz.prog Rows.wholeTotalsRow.laid w) ∧ sizedMet enc Tryz.prog Tryz.f5 (OpenSpec.ofChange Rows.wholeTotalsSpec) false w args)
      (Rows.wholeTotalsSpec.post enc Tryz.prog Tryz.f5 false true false false) := by
  refine returnsInHanded_of_change_and (C := Tryz.checked) (X := fun w _ => laidMetH Tryz.prog Rows.wholeTotalsRow.laid w) (fun _ _ _ hh h => h.of_heap hh) own started (by kernel_rfl) Tryz.func5
    (ChangeSpec.witness_shaped (enc := enc) (C := Tryz.checked) (os := os) (X := fun w _ => laidMetH Tryz.prog Rows.wholeTotalsRow.laid w) false (World.laidAll Tryz.prog os Rows.wholeTotalsRow.laid) #[.slice none 0 0] 8 (World.laidAll_os _ _ _)
      (World.shaped_of_ZipB (by kernel_rfl) (by kernel_rfl)) (by kernel_rfl) (by kernel_rfl) (by kernel_rfl)
      (by rw [MakeChecks.laidMetH_plain _ _ _ (by kernel_rfl)]; exact laidMet_laidAll _ (by kernel_rfl) (by kernel_rfl))) ?_
  intro W base args ds gs before hval0 hW hcnd hsz0 hL _
  rw [MakeChecks.laidMetH_plain _ _ _ (by kernel_rfl)] at hL
  have HE : Env W := env_of_laid hL
  have hsz : (DataW.weightsEach Tryz.prog (Tryz.f5.params.toList ++ Rows.wholeTotalsSpec.plain.varTypes Tryz.prog) (ds ++ gs)).all (· ≤ reachBytes) = true := hsz0
  have hval : ∀ (j : Nat) t v, Tryz.f5.params[j]? = some t → args[j]? = some v → Value.okWide Tryz.prog W .any base t v := hval0
  have hW' := hW
  obtain ⟨p, q, hA0, hV, rfl, hfz, hnd⟩ := hW
  have hA : DataW.TrodAll enc Tryz.prog W 0 (fun _ => true) true Tryz.f5.params.toList args.toList ds p := hA0
  rw [Tryz.params5] at hA hval hsz
  obtain ⟨v0, vs0, d0, ds0, p0, q0, hargs, rfl, rfl, h0, r0⟩ := trodAll_cons hA
  obtain ⟨rfl, rfl, rfl⟩ := trodAll_nil r0
  obtain rfl : args = #[v0] := by cases args; simp_all
  obtain ⟨rfl, rfl⟩ := trodVars_none hV
  obtain ⟨a0, len0, cap0, rfl⟩ := okWide_slice Tryz.underlying38 (hval 0 38 v0 rfl rfl)
  have k0 := h0
  have lt0 : ∀ x ∈ p0, x.block < W.heap.size := by obtain ⟨m, hm⟩ := k0; exact DataW.trod_lt m _ _ _ hm
  obtain ⟨l0, hlen0, hcap0, hR0, hS0⟩ : ∃ l : List ByteArray, l.length = len0 ∧ l.length ≤ cap0 ∧ Kd.C Kd.string W a0 l.length l ∧ ∀ s ∈ l, s.size ≤ maxLen := by
    obtain ⟨fuel, hf⟩ := h0
    rcases Deep.open_strs Tryz.underlying38 Tryz.underlying22 (by kernel_rfl) hf with ⟨hcs, _⟩ | ⟨x, len, cap, m, Sx, hcs, _, hl, hm, hmm, _, hcell⟩
    · simp [Value.cells] at hcs
      obtain ⟨rfl, rfl, rfl⟩ := hcs
      exact ⟨[], rfl, Nat.le_refl _, ⟨rfl, by decide, fun h => absurd h (by decide)⟩, by simp⟩
    · simp [Value.cells] at hcs
      obtain ⟨rfl, rfl, rfl⟩ := hcs
      exact strs_of_cells hl hm (by rw [hmm]; split <;> omega) hcell
  subst hlen0
  clear hA0 hval0 hsz0 hsz
  obtain ⟨k, hk⟩ := totals_pure l0 hS0
  refine (ZLT.metrolablaw01_WholeTotals.calls k a0 cap0 l0 true W hR0 hcap0 hk HE).mono fun e W' ⟨he, bel⟩ => ?_
  subst he
  exact ⟨_, rfl, _, _, _, [], _, [], hW', trodAll_mk1 (shut_bool Tryz.underlying4 _), (trodAll_cons_mk (Below.trod laidOut (by kernel_rfl) (of_decide_eq_true (by kernel_rfl)) k0 bel lt0) trodAll_mk0), rfl, bel.frame _, fun h => by cases h⟩
theorem said : Rows.WholeTotalsSaid :=
  OpenClaim.holds_of_wide 5 Tryz.f5 rfl rfl rfl rfl rfl rfl rfl ⟨rfl, rfl, rfl, rfl, rfl⟩ rfl rfl rfl rfl rfl (by kernel_rfl) Tryz.func5 (by kernel_rfl)
    (of_decide_eq_true (by kernel_rfl)) (by unfold Func.isWrapper; first | (rw [if_pos (by decide +kernel)]; kernel_rfl) | (rw [if_neg (by decide +kernel)]; exact ⟨rfl, rfl⟩))
    (fun os started H enc _ => lifted os started H enc)
theorem plain (f : FuncId) (fn : Func) (hf : Tryz.pinned.checked.prog.funcNamed "metrolab/metrolablaw01.WholeTotals" = some f) (hfn : Tryz.pinned.checked.prog.funcs[f]? = some fn) :
    true = Tryz.pinned.checked.prog.looks [] ∧ ∀ (j : Nat) t, fn.params[j]? = some t → Tryz.pinned.checked.prog.wantsStandIn t = false := by
  obtain rfl : f = 5 := Option.some.inj ((show Tryz.prog.funcNamed "metrolab/metrolablaw01.WholeTotals" = some 5 by kernel_rfl).symm.trans hf) |>.symm
  obtain rfl : fn = Tryz.f5 := (Option.some.inj (Tryz.func5.symm.trans hfn)).symm
  refine ⟨by kernel_rfl, fun j t ht => ?_⟩
  rw [Tryz.params5] at ht
  have hm : t ∈ [38] := by simpa using Array.mem_of_getElem? ht
  have hall : ([38].all fun u => !Tryz.prog.wantsStandIn u) = true := by kernel_rfl
  exact (show Tryz.prog.wantsStandIn t = false by simpa using List.all_eq_true.1 hall t hm)
theorem card : Rows.WholeTotalsCardSaid :=
  Claim7.holds_tied_plain_at .later [] _ _ _ _ said (fun _ h => by cases h) (by kernel_rfl) (fun _ h => by cases h) wholeTotals_row_tie rfl ⟨rfl, rfl⟩ (by kernel_rfl) rfl plain (by kernel_rfl)
#print axioms card
end Go.Proofs.YtpkfnclbcmnckaaGreatDoor.wholeTotals
namespace Go.Proofs.YtpkfnclbcmnckaaGreatDoor
/-- The card, under a short name. -/
theorem wholeTotals_holds : Rows.WholeTotalsCardSaid := wholeTotals.card
end Go.Proofs.YtpkfnclbcmnckaaGreatDoor
