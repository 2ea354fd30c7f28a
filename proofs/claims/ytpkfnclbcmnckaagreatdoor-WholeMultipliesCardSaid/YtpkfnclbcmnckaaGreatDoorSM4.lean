/- WholeMultiplies: Mul, Quo, Rem and Gcd return the results or errors of the reference for all texts. Conditions: package-level variables of Go's library hold what their initialisers lay (tied). -/
import Derived.Test.YtpkfnclbcmnckaaGreatDoorSM3
import Derived.Test.YtpkfnclbcmnckaaGreatDoorProg
import Derived.Below
import Derived.Deep.Draws
import Derived.Deep.AppendLies
import Derived.Maps.AppendAt
import Derived.OwnWalk
import Derived.Laws.BytesArg
import Derived.Laws.MakeOwn
import Derived.Laws.OwnMore
import Derived.Deep.OwnRows
import Derived.Tactics
import Derived.Lib.ConvBytes
import Derived.Laws.Slices
import Derived.WalkKit
import Derived.KernelRfl
import Derived.RowKit3
import Derived.Deep.LoopGhost
import Derived.Deep.QuietTactic
import Derived.BigQuiet
import Derived.WideLaws
import Derived.Deep.DeepCutAuto
import Derived.Deep.CutBlock
import Derived.Deep.RegionHeld3
import Derived.Laws.Rows
import Derived.Lib.AppendStr
import Derived.ArgAppend
import Derived.Laws.IdiomCopy
import Derived.OrdersHeld
import Derived.Laws.BitsLemmas
import Derived.RowKit
import Derived.Test.YtpkfnclbcmnckaaGreatDoorRows
import Derived.Lib.LaidTab
import Derived.Stop.LaidErr
import Derived.Lay
import Derived.ProofKit
import Derived.LaidMore
import Derived.Test.YtpkfnclbcmnckaaGreatDoorCards
import Derived.Test.YtpkfnclbcmnckaaGreatDoorTie
import Derived.OpenShut
import Derived.ShutString
import Derived.ChangeOld
import Derived.SizedLaws
import Derived.SevenTiedAt
set_option linter.unusedVariables false
namespace Go.Proofs.YtpkfnclbcmnckaaGreatDoor
open Go Go.RowKit Go.Proofs.YtpkfnclbcmnckaaGreatDoor.Dec Go.Proofs.YtpkfnclbcmnckaaGreatDoor.Mem Go.Proofs.YtpkfnclbcmnckaaGreatDoor.Wid Go.Proofs.YtpkfnclbcmnckaaGreatDoorW.PrintWords Go.Proofs.YtpkfnclbcmnckaaGreatDoorW.PrintMore
/-- The value of the first digits, at their places. -/
def pre10 (l : List UInt8) (i : Nat) : Nat := val (l.take i) * 10 ^ (l.length - i)
theorem pre10_zero (l : List UInt8) : pre10 l 0 = 0 := by unfold pre10; rw [List.take_zero]; show 0 * _ = 0; rw [Nat.zero_mul]
theorem pre10_len (l : List UInt8) : pre10 l l.length = val l := by unfold pre10; rw [List.take_length, Nat.sub_self, Nat.pow_zero, Nat.mul_one]
/-- A digit's number. -/
def dg (l : List UInt8) (j : Nat) : Nat := (l.getD j 0).toNat - 48
theorem dg_at (l : List UInt8) (j : Nat) (h : j < l.length) : l[j].toNat - 48 = dg l j := by
  unfold dg
  rw [List.getD_eq_getElem?_getD, List.getElem?_eq_getElem h]
  rfl
theorem dg_le {l : List UInt8} (hd : ∀ c ∈ l, isDig c = true) (j : Nat) : dg l j ≤ 9 := by
  by_cases h : j < l.length
  · have := (isDig_iff _).1 (hd _ (List.getElem_mem h))
    rw [← dg_at l j h]
    omega
  · unfold dg
    rw [List.getD_eq_getElem?_getD, List.getElem?_eq_none (by omega)]
    decide
theorem dg_bt (s : ByteArray) (hd : ∀ c ∈ s.data.toList, isDig c = true) (j : Nat) (h : j < s.data.toList.length) : (bt s (j : Int) - 48) % 256 = (dg s.data.toList j : Int) := by
  have := (isDig_iff _).1 (hd _ (List.getElem_mem h))
  rw [bt_dj s h, ← dg_at _ j h]
  omega
theorem pre10_succ (l : List UInt8) (i : Nat) (h : i < l.length) : pre10 l (i + 1) = pre10 l i + dg l i * 10 ^ (l.length - 1 - i) := by
  unfold pre10
  rw [val_take_succ l i h, dg_at l i h, show l.length - (i + 1) = l.length - 1 - i by omega, show l.length - i = (l.length - 1 - i) + 1 by omega, Nat.pow_succ, Nat.add_mul]
  generalize 10 ^ (l.length - 1 - i) = P
  generalize val (l.take i) = v
  rw [Nat.mul_comm P 10, ← Nat.mul_assoc, Nat.mul_comm v 10]
/-- What stands in the columns: no number is above a bound. -/
def Under (l : List Int) (b : Nat) : Prop := ∀ j, 0 ≤ l.getD j 0 ∧ l.getD j 0 ≤ (b : Int)
theorem Under.zero (n : Nat) : Under (List.replicate n 0) 0 := by
  intro j
  rw [List.getD_eq_getElem?_getD]
  by_cases h : j < n
  · rw [List.getElem?_replicate, if_pos h]; exact ⟨by decide, by decide⟩
  · rw [List.getElem?_replicate, if_neg h]; exact ⟨by decide, by decide⟩
theorem Under.add {l : List Int} {b m : Nat} (h : Under l b) (j : Nat) (hm : m ≤ 81) : Under (l.set j (l.getD j 0 + (m : Int))) (b + 81) := by
  intro i
  have hj := h j
  have hi := h i
  rw [List.getD_eq_getElem?_getD, List.getElem?_set]
  by_cases e : j = i
  · rw [if_pos e]
    split
    · show 0 ≤ l.getD j 0 + (m : Int) ∧ l.getD j 0 + (m : Int) ≤ _
      omega
    · show (0 : Int) ≤ 0 ∧ (0 : Int) ≤ _
      omega
  · rw [if_neg e, ← List.getD_eq_getElem?_getD]
    omega
theorem Under.mono {l : List Int} {b b' : Nat} (h : Under l b) (hb : b ≤ b') : Under l b' := fun j => ⟨(h j).1, by have := (h j).2; omega⟩
theorem cvl_add (l : List Int) (j m : Nat) (h : j < l.length) : cvl (l.set j (l.getD j 0 + (m : Int))) = cvl l + (m : Int) * 10 ^ (l.length - 1 - j) := by
  rw [cvl_set l j _ h, show l.getD j 0 + (m : Int) - l.getD j 0 = (m : Int) by omega]
theorem carry_val (v c x : Nat) (P T : Int) (h : (v : Int) + (c : Int) * P = T) : ((((c + x) % 10 : Nat) : Int) * P + (v : Int)) + (((c + x) / 10 : Nat) : Int) * (P * 10) = (x : Int) * P + T := by
  have e : ((c + x : Nat) : Int) = 10 * (((c + x) / 10 : Nat) : Int) + (((c + x) % 10 : Nat) : Int) := by omega
  have e2 : ((c : Int) + (x : Int)) * P = (10 * (((c + x) / 10 : Nat) : Int) + (((c + x) % 10 : Nat) : Int)) * P := by rw [← e, Int.natCast_add]
  rw [Int.add_mul, Int.add_mul] at e2
  have e3 : (((c + x) / 10 : Nat) : Int) * (P * 10) = 10 * (((c + x) / 10 : Nat) : Int) * P := by rw [Int.mul_comm P 10, ← Int.mul_assoc, Int.mul_comm _ 10]
  rw [e3]
  omega
theorem carry_end {v c Z n : Nat} (h : (v : Int) + (c : Int) * 10 ^ n = (Z : Int)) (hlt : Z < 10 ^ n) : c = 0 ∧ v = Z := by
  have e : ((v + c * 10 ^ n : Nat) : Int) = (Z : Int) := by rw [Int.natCast_add, Int.natCast_mul, Int.natCast_pow]; exact h
  have e2 : v + c * 10 ^ n = Z := Int.ofNat_inj.1 e
  rcases Nat.eq_zero_or_pos c with h0 | h0
  · subst h0
    rw [Nat.zero_mul] at e2
    exact ⟨rfl, by omega⟩
  · have h1 : 1 * 10 ^ n ≤ c * 10 ^ n := Nat.mul_le_mul_right _ h0
    generalize 10 ^ n = Q at *
    omega
theorem carry_dig (c x j : Nat) (hcx : c + x ≤ 2000000000000) (hj : j ≤ 100000) (cols : List Int) (hx : cols.getD j 0 = (x : Int)) :
    (wrap64 (48 + (Int.tmod (wrap64 ((c : Int) + (rd cols (j : Int)))) 10))) % 256 = ((48 + (c + x) % 10 : Nat) : Int) ∧ wrap64 (Int.tdiv (wrap64 ((c : Int) + (rd cols (j : Int)))) 10) = (((c + x) / 10 : Nat) : Int) := by
  have er : rd cols (j : Int) = (x : Int) := by unfold rd; rw [Int.toNat_natCast]; exact hx
  have es : wrap64 ((c : Int) + (x : Int)) = ((c + x : Nat) : Int) := IntWalk.wrap64_in _ (by omega)
  have q1 : Int.tmod ((c + x : Nat) : Int) 10 = (((c + x) % 10 : Nat) : Int) := tm (c + x) 10
  have q2 : Int.tdiv ((c + x : Nat) : Int) 10 = (((c + x) / 10 : Nat) : Int) := td (c + x) 10
  rw [er, es, q1, q2]
  clear er es q1 q2 hx
  exact ⟨by rw [IntWalk.wrap64_in _ (by omega)]; omega, IntWalk.wrap64_in _ (by omega)⟩
theorem nums_len (j : Nat) (D : List UInt8) : (List.replicate j (0 : Int) ++ nums D).length = j + D.length := by rw [List.length_append, List.length_replicate, nums, List.length_map]
theorem dig_of (d : Nat) (h : d < 10) : isDig (UInt8.ofNat (48 + d)) = true := (isDig_iff _).2 (by rw [u8_ofNat _ (by omega)]; omega)
/-- Carrying. -/
theorem rcarry (cols : List Int) (n : Nat) (hn : cols.length = n) (h0 : 0 < n) (hn2 : n ≤ 100000) (hu : Under cols 1000000000000) (Z : Nat) (hZ : cvl cols = (Z : Int)) (hlt : Z < 10 ^ n) :
    ∀ (j : Nat) (D : List UInt8) (c : Nat), j + D.length = n → (∀ x ∈ D, isDig x = true) → c ≤ 1000000000000 → ((val D : Nat) : Int) + (c : Int) * 10 ^ (n - j) = cvl (cols.drop j) →
    Ev (fun k => ZM.metrolabref01_product.l2 k cols (List.replicate j 0 ++ nums D) (c : Int) ((j : Int) - 1)) (dec (Z : Nat))
  | 0, D, c, hl, hd, hc, hv => by
    rw [List.drop_zero, Nat.sub_zero, hZ] at hv
    obtain ⟨rfl, hvD⟩ := carry_end hv hlt
    have hs := str_nums D
    have hb := rbare_is (strOfNums (nums D)) (by rw [size_list, hs]; omega) (by rw [hs]; exact hd)
    rw [hs, hvD] at hb
    refine Ev.step (f := fun k => (ZP.metrolabref01_bare.f k (strOfNums (nums D))).bind fun t => some t) (fun k => ?_) (Ev.bind hb (Ev.now _))
    simp only [ZM.metrolabref01_product.l2]
    exact if_neg (show ¬ (((0 : Nat) : Int) - 1 ≥ 0) by decide)
  | j + 1, D, c, hl, hd, hc, hv => by
    have hj : j < cols.length := by omega
    have hj5 : j ≤ 100000 := by omega
    obtain ⟨x, hx⟩ : ∃ x : Nat, cols.getD j 0 = (x : Int) := ⟨(cols.getD j 0).toNat, by have := (hu j).1; omega⟩
    have hxb : x ≤ 1000000000000 := by have := (hu j).2; rw [hx] at this; omega
    have hnew : ((val (UInt8.ofNat (48 + (c + x) % 10) :: D) : Nat) : Int) + (((c + x) / 10 : Nat) : Int) * 10 ^ (n - j) = cvl (cols.drop j) := by
      have hm : (c + x) % 10 < 10 := Nat.mod_lt _ (by decide)
      have h1 : D.length = n - (j + 1) := by omega
      have h2 : n - 1 - j = n - (j + 1) := by omega
      have h3 : n - j = (n - (j + 1)) + 1 := by omega
      rw [cvl_drop cols j hj, ← hv, hx, val_cons, u8_ofNat _ (by omega), h1, hn, h2, h3, Int.pow_succ, Nat.add_sub_cancel_left, Int.natCast_add, Int.natCast_mul, Int.natCast_pow]
      exact carry_val (val D) c x _ _ rfl
    have hcx : (c + x) / 10 ≤ 1000000000000 := by omega
    have hl2 : j + (UInt8.ofNat (48 + (c + x) % 10) :: D).length = n := by rw [List.length_cons]; omega
    have ih := rcarry cols n hn h0 hn2 hu Z hZ hlt j (UInt8.ofNat (48 + (c + x) % 10) :: D) ((c + x) / 10) hl2 (by intro y hy; rcases List.mem_cons.1 hy with rfl | hy; exact dig_of _ (Nat.mod_lt _ (by decide)); exact hd y hy) hcx hnew
    rw [← nums_cons ((c + x) % 10) (Nat.mod_lt _ (by decide))] at ih
    obtain ⟨g1, g2⟩ := carry_dig c x j (by omega) hj5 cols hx
    have hlen := nums_len (j + 1) D
    have ej : ((j + 1 : Nat) : Int) - 1 = (j : Int) := by omega
    have c1 : (j : Int) ≥ 0 := by omega
    have c2 : (j : Int) < (cols.length : Int) := by omega
    have c3 : (j : Int) < ((List.replicate (j + 1) (0 : Int) ++ nums D).length : Int) := by rw [hlen]; omega
    have c4 : wrap64 ((j : Int) - 1) = (j : Int) - 1 := IntWalk.wrap64_in _ (by omega)
    clear hnew hv hcx hl2 hxb
    refine Ev.step (f := fun k => ZM.metrolabref01_product.l2 k cols (List.replicate j 0 ++ (((48 + (c + x) % 10 : Nat) : Int) :: nums D)) (((c + x) / 10 : Nat) : Int) ((j : Int) - 1)) (fun k => ?_) ih
    simp only [ZM.metrolabref01_product.l2]
    rw [ej, if_pos c1, if_pos (show (0 : Int) ≤ (j : Int) from c1), if_pos c2, if_pos c3, g1, g2, c4, Int.toNat_natCast, set_row]
theorem inner_val (V a c X Y P : Nat) : V + a * X * P + a * c * (X * Y) = V + a * X * (P + c * Y) := by
  have e : a * X * (c * Y) = a * c * (X * Y) := by rw [Nat.mul_assoc, Nat.mul_left_comm X c Y, ← Nat.mul_assoc]
  rw [Nat.mul_add, e, Nat.add_assoc]
theorem pow_cast (n : Nat) : ((10 : Int) ^ n) = ((10 ^ n : Nat) : Int) := by rw [Int.natCast_pow]; rfl
/-- One row of the columns. -/
theorem rinner (A C : ByteArray) (p q : Nat) (hp : A.data.toList.length = p) (hq : C.data.toList.length = q) (dA : ∀ c ∈ A.data.toList, isDig c = true) (dC : ∀ c ∈ C.data.toList, isDig c = true) (hp2 : p ≤ 10000) (hq2 : q ≤ 10000) (r : ByteArray)
    (i : Nat) (hi : i < p) (V b : Nat) (hb : b + 81 * q ≤ 1000000000)
    (hnext : ∀ cols : List Int, cols.length = p + q → Under cols (b + 81 * q) → cvl cols = ((V + dg A.data.toList i * 10 ^ (p - 1 - i) * val C.data.toList : Nat) : Int) → Ev (fun n => ZM.metrolabref01_product.l0 n A C cols ((i + 1 : Nat) : Int)) r) :
    ∀ (d k : Nat) (cols : List Int), q - k = d → k ≤ q → cols.length = p + q → Under cols (b + 81 * k) →
    cvl cols = ((V + dg A.data.toList i * 10 ^ (p - 1 - i) * pre10 C.data.toList k : Nat) : Int) → Ev (fun n => ZM.metrolabref01_product.l1 n A C cols (i : Int) (k : Int)) r
  | 0, k, cols, hd, hk, hlen, hu, hv => by
    obtain rfl : k = q := by omega
    have e0 : pre10 C.data.toList k = val C.data.toList := by rw [← hq]; exact pre10_len _
    rw [e0] at hv
    have sC : ¬ ((k : Int) < (C.size : Int)) := by rw [size_list, hq]; omega
    have ei : wrap64 ((i : Int) + 1) = ((i + 1 : Nat) : Int) := IntWalk.wrap64_in _ (by omega)
    refine Ev.step (f := fun n => ZM.metrolabref01_product.l0 n A C cols ((i + 1 : Nat) : Int)) (fun n => ?_) (hnext cols hlen hu hv)
    simp only [ZM.metrolabref01_product.l1]
    rw [if_neg sC, ei]
  | d + 1, k, cols, hd, hk, hlen, hu, hv => by
    have hkq : k < q := by omega
    have hkC : k < C.data.toList.length := by omega
    have hiA : i < A.data.toList.length := by omega
    have c1 : (k : Int) < (C.size : Int) := by rw [size_list, hq]; omega
    have c2 : (0 : Int) ≤ ((i + k + 1 : Nat) : Int) := Int.natCast_nonneg _
    have c3 : ((i + k + 1 : Nat) : Int) < (cols.length : Int) := by rw [hlen]; omega
    have c4 : (0 : Int) ≤ (i : Int) := Int.natCast_nonneg _
    have c5 : (i : Int) < (A.size : Int) := by rw [size_list, hp]; omega
    have c6 : (0 : Int) ≤ (k : Int) := Int.natCast_nonneg _
    have c7 : i + k + 1 < cols.length := by omega
    have c8 : p + q - 1 - (i + k + 1) = (p - 1 - i) + (q - 1 - k) := by omega
    have c9 : q - (k + 1) = d := by omega
    have c10 : b + 81 * k + 81 ≤ b + 81 * (k + 1) := by omega
    have b1 : -9223372036854775808 ≤ (i : Int) + (k : Int) ∧ (i : Int) + (k : Int) ≤ 9223372036854775807 := by omega
    have b2 : -9223372036854775808 ≤ (i : Int) + (k : Int) + 1 ∧ (i : Int) + (k : Int) + 1 ≤ 9223372036854775807 := by omega
    have b3 : -9223372036854775808 ≤ (k : Int) + 1 ∧ (k : Int) + 1 ≤ 9223372036854775807 := by omega
    have hgu := hu (i + k + 1)
    have hac : dg A.data.toList i * dg C.data.toList k ≤ 81 := Nat.mul_le_mul (dg_le dA i) (dg_le dC k)
    have hv2 : cvl (cols.set (i + k + 1) (cols.getD (i + k + 1) 0 + ((dg A.data.toList i * dg C.data.toList k : Nat) : Int))) = ((V + dg A.data.toList i * 10 ^ (p - 1 - i) * pre10 C.data.toList (k + 1) : Nat) : Int) := by
      rw [cvl_add cols (i + k + 1) _ c7, hv, hlen, c8, pow_cast, Nat.pow_add, pre10_succ _ k hkC, hq, ← Int.natCast_mul, ← Int.natCast_add, inner_val]
    have ih := rinner A C p q hp hq dA dC hp2 hq2 r i hi V b hb hnext d (k + 1) _ c9 hkq (by rw [List.length_set]; exact hlen) ((hu.add (i + k + 1) hac).mono c10) hv2
    clear hv hv2 hnext
    have ea := dg_bt A dA i hiA
    have ec := dg_bt C dC k hkC
    generalize dg A.data.toList i = a at *
    generalize dg C.data.toList k = c at *
    have b4 : -9223372036854775808 ≤ ((a * c : Nat) : Int) ∧ ((a * c : Nat) : Int) ≤ 9223372036854775807 := by
      clear ea ec hgu
      generalize a * c = m at *
      omega
    have b5 : -9223372036854775808 ≤ cols.getD (i + k + 1) 0 + ((a * c : Nat) : Int) ∧ cols.getD (i + k + 1) 0 + ((a * c : Nat) : Int) ≤ 9223372036854775807 := by
      clear ea ec ih
      generalize a * c = m at *
      generalize cols.getD (i + k + 1) 0 = g at *
      omega
    have er : rd cols ((i + k + 1 : Nat) : Int) = cols.getD (i + k + 1) 0 := by unfold rd; rw [Int.toNat_natCast]
    have hidx : wrap64 (wrap64 ((i : Int) + (k : Int)) + 1) = ((i + k + 1 : Nat) : Int) := by rw [IntWalk.wrap64_in _ b1, IntWalk.wrap64_in _ b2]; rfl
    have w1 : wrap64 ((a : Int) * (c : Int)) = ((a * c : Nat) : Int) := by rw [← Int.natCast_mul]; exact IntWalk.wrap64_in _ b4
    refine Ev.step (f := fun n => ZM.metrolabref01_product.l1 n A C (cols.set (i + k + 1) (cols.getD (i + k + 1) 0 + ((a * c : Nat) : Int))) (i : Int) ((k + 1 : Nat) : Int)) (fun n => ?_) ih
    simp only [ZM.metrolabref01_product.l1]
    rw [hidx, if_pos c1, if_pos c2, if_pos c3, if_pos c4, if_pos c5, if_pos c6, ea, ec, er, w1, IntWalk.wrap64_in _ b5, IntWalk.wrap64_in _ b3, Int.toNat_natCast]
    rfl
/-- The columns of a product. -/
theorem rcols (A C : ByteArray) (p q : Nat) (hp : A.data.toList.length = p) (hq : C.data.toList.length = q) (dA : ∀ c ∈ A.data.toList, isDig c = true) (dC : ∀ c ∈ C.data.toList, isDig c = true) (hp2 : p ≤ 10000) (hq2 : q ≤ 10000) (r : ByteArray) (K : Nat) (hK : K = 81 * q) (hpK : p * K ≤ 1000000000 * 10)
    (hpK2 : ∀ i, i < p → i * K + K ≤ 1000000000)
    (hend : ∀ cols : List Int, cols.length = p + q → Under cols (p * K) → cvl cols = ((val A.data.toList * val C.data.toList : Nat) : Int) → Ev (fun k => ZM.metrolabref01_product.l2 k cols (List.replicate (p + q) 0) 0 (wrap64 (((p + q : Nat) : Int) - 1))) r) :
    ∀ (d i : Nat) (cols : List Int), p - i = d → i ≤ p → cols.length = p + q → Under cols (i * K) →
    cvl cols = ((pre10 A.data.toList i * val C.data.toList : Nat) : Int) → Ev (fun n => ZM.metrolabref01_product.l0 n A C cols (i : Int)) r
  | 0, i, cols, hd, hi, hlen, hu, hv => by
    obtain rfl : i = p := by omega
    have hpl : pre10 A.data.toList i = val A.data.toList := by rw [← hp]; exact pre10_len _
    rw [hpl] at hv
    have c1 : ¬ ((i : Int) < (A.size : Int)) := by rw [size_list, hp]; omega
    have c2 : (0 : Int) ≤ ((i + q : Nat) : Int) := by omega
    have c3 : i + q ≤ 281474976710656 := by omega
    refine Ev.step (f := fun n => ZM.metrolabref01_product.l2 n cols (List.replicate (i + q) 0) 0 (wrap64 (((i + q : Nat) : Int) - 1))) (fun n => ?_) (hend cols hlen hu hv)
    simp only [ZM.metrolabref01_product.l0]
    rw [if_neg c1, hlen, if_pos c2, Int.toNat_natCast, if_pos c3]
  | d + 1, i, cols, hd, hi, hlen, hu, hv => by
    have hip : i < p := by omega
    have hiA : i < A.data.toList.length := by omega
    have c1 : (i : Int) < (A.size : Int) := by rw [size_list, hp]; omega
    have hb : i * K + 81 * q ≤ 1000000000 := by rw [← hK]; exact hpK2 i hip
    refine Ev.step (f := fun n => ZM.metrolabref01_product.l1 n A C cols (i : Int) ((0 : Nat) : Int)) (fun n => ?_) ?_
    · simp only [ZM.metrolabref01_product.l0]
      rw [if_pos c1]
      rfl
    · refine rinner A C p q hp hq dA dC hp2 hq2 r i hip (pre10 A.data.toList i * val C.data.toList) (i * K) hb ?_ _ 0 cols rfl (Nat.zero_le _) hlen hu ?_
      · intro cols' hlen' hu' hv'
        refine rcols A C p q hp hq dA dC hp2 hq2 r K hK hpK hpK2 hend d (i + 1) cols' (by omega) hip hlen' ?_ ?_
        · rw [← hK] at hu'
          rw [Nat.succ_mul]
          exact hu'
        · rw [hv', pre10_succ _ i hiA, hp, Nat.add_mul]
      · rw [hv, pre10_zero, Nat.mul_zero, Nat.add_zero]
theorem prod_bound {i q : Nat} (hi : i ≤ 2000) (hq : q ≤ 2000) : i * (81 * q) ≤ 324000000 := Nat.le_trans (Nat.mul_le_mul hi (Nat.mul_le_mul_left 81 hq)) (by decide)
theorem rproduct_of (A C : ByteArray) (p q x y : Nat) (gA : A.data.toList.length = p) (gC : C.data.toList.length = q) (dA : ∀ c ∈ A.data.toList, isDig c = true) (dC : ∀ c ∈ C.data.toList, isDig c = true)
    (hp : p ≤ 2000) (hq : q ≤ 2000) (p0 : 0 < p) (vA : val A.data.toList = x) (vC : val C.data.toList = y) (hlt : x * y < 10 ^ (p + q)) :
    Ev (fun k => ZM.metrolabref01_product.f k A C) (dec ((x * y : Nat) : Int)) := by
  have b1 : -9223372036854775808 ≤ (p : Int) + (q : Int) ∧ (p : Int) + (q : Int) ≤ 9223372036854775807 := by omega
  have b2 : -9223372036854775808 ≤ ((p + q : Nat) : Int) - 1 ∧ ((p + q : Nat) : Int) - 1 ≤ 9223372036854775807 := by omega
  have c1 : (0 : Int) ≤ ((p + q : Nat) : Int) := Int.natCast_nonneg _
  have c2 : p + q ≤ 35184372088832 := by omega
  have c3 : p + q ≤ 100000 := by omega
  have c4 : 0 < p + q := by omega
  have c5 : p ≤ 10000 := by omega
  have c6 : q ≤ 10000 := by omega
  have hK : ∀ i, i ≤ p → i * (81 * q) ≤ 324000000 := fun i hi => prod_bound (Nat.le_trans hi hp) hq
  have hK2 : ∀ i, i < p → i * (81 * q) + 81 * q ≤ 1000000000 := fun i hi => by rw [← Nat.succ_mul]; exact Nat.le_trans (hK (i + 1) hi) (by decide)
  have e : wrap64 ((A.size : Int) + (C.size : Int)) = ((p + q : Nat) : Int) := by
    rw [size_list, size_list, gA, gC, IntWalk.wrap64_in _ b1]
    rfl
  unfold ZM.metrolabref01_product.f
  rw [e]
  refine Ev.pos c1 ?_
  refine Ev.pos (by rw [Int.toNat_natCast]; exact c2) ?_
  rw [Int.toNat_natCast]
  refine rcols A C p q gA gC dA dC c5 c6 _ (81 * q) rfl (Nat.le_trans (hK p (Nat.le_refl _)) (by decide)) hK2 ?_ _ 0 _ rfl (Nat.zero_le _) (by rw [List.length_replicate]) ((Under.zero _).mono (Nat.zero_le _)) ?_
  · intro cols hlen hu hv
    rw [vA, vC] at hv
    have e0 : cols.drop (p + q) = [] := List.drop_of_length_le (Nat.le_of_eq hlen)
    have := rcarry cols (p + q) hlen c4 c3 (hu.mono (Nat.le_trans (hK p (Nat.le_refl _)) (by decide))) (x * y) hv hlt (p + q) [] 0 rfl (by simp) (by decide) (by rw [e0]; show ((0 : Nat) : Int) + 0 * _ = 0; rw [Int.zero_mul]; rfl)
    rw [show nums ([] : List UInt8) = [] from rfl, List.append_nil] at this
    rw [IntWalk.wrap64_in _ b2]
    exact this
  · rw [cvl_zero, pre10_zero, Nat.zero_mul]
    rfl
theorem rproduct_is (x y : Nat) (hx : lg x ≤ 2000) (hy : lg y ≤ 2000) : Ev (fun k => ZM.metrolabref01_product.f k (dec (x : Int)) (dec (y : Int))) (dec ((x * y : Nat) : Int)) := by
  have lA : (dec (x : Int)).data.toList = Lib.decDigits x := by rw [dec_nat]
  have lC : (dec (y : Int)).data.toList = Lib.decDigits y := by rw [dec_nat]
  exact rproduct_of _ _ (lg x) (lg y) x y (by rw [lA]; rfl) (by rw [lC]; rfl) (by rw [lA]; exact decDigits_dig x) (by rw [lC]; exact decDigits_dig y) hx hy (lg_pos x) (by rw [lA, decDigits_val]) (by rw [lC, decDigits_val])
    (by rw [Nat.pow_add]; exact Nat.mul_lt_mul_of_lt_of_lt (lg_lt x) (lg_lt y))
end Go.Proofs.YtpkfnclbcmnckaaGreatDoor
set_option linter.unusedVariables false
namespace Go.Proofs.YtpkfnclbcmnckaaGreatDoor
open Go Go.RowKit Go.Proofs.YtpkfnclbcmnckaaGreatDoor.Dec Go.Proofs.YtpkfnclbcmnckaaGreatDoor.Mem Go.Proofs.YtpkfnclbcmnckaaGreatDoor.Wid Go.Proofs.YtpkfnclbcmnckaaGreatDoorW.PrintWords Go.Proofs.YtpkfnclbcmnckaaGreatDoorW.PrintMore
theorem times_small (x y : Int) (hb : brief18 x y) : (-9223372036854775808 ≤ ((dec x).size : Int) + ((dec y).size : Int) ∧ ((dec x).size : Int) + ((dec y).size : Int) ≤ 9223372036854775807) ∧
    ((((dec x).size : Int) + ((dec y).size : Int)) ≤ 18 → -9223372036854775808 ≤ x * y ∧ x * y ≤ 9223372036854775807) := by
  have s1 := lg_le_size x
  have s2 := lg_le_size y
  have z1 := lg_size_le x
  have z2 := lg_size_le y
  have b1 := hb.1
  have b2 := hb.2
  rw [lg_size] at b1 b2
  have h1 := lgI_mul x y
  generalize (dec x).size = n1 at *
  generalize (dec y).size = n2 at *
  generalize x * y = xy at *
  refine ⟨by omega, fun hs => ?_⟩
  have h2 := lt_of_lg (show lg xy.natAbs ≤ 18 by omega)
  have h3 : (10 : Nat) ^ 18 = 1000000000000000000 := by decide
  rw [h3] at h2
  omega
theorem rtimes_long (x y : Int) (hx : lg x.natAbs ≤ 2000) (hy : lg y.natAbs ≤ 2000) (m n : Int) : Ev (fun k => ZM.metrolabref01_Times.j0 k (dec x) (dec y) m n false) (dec (x * y)) := by
  have hs : lg (x.natAbs * y.natAbs) ≤ 4000 := Nat.le_trans (lg_mul _ _) (Nat.add_le_add hx hy)
  refine Ev.step (f := fun k => (ZM.metrolabref01_product.f k (dec (x.natAbs : Int)) (dec (y.natAbs : Int))).bind fun t137 => ((ZP.metrolabref01_signed.f t137 (decide (x < 0) != decide (y < 0))).bind fun t140 => (some t140))) (fun k => ?_) ?_
  · rw [ZM.metrolabref01_Times.j0, if_neg (show ¬ (false = true) by decide), rsize_is, Option.bind_some, rsize_is, Option.bind_some, magS_dec, magS_dec]
    simp only [rbelow_is, Option.bind_some]
  · refine Ev.bind (rproduct_is x.natAbs y.natAbs hx hy) ?_
    rw [rsigned_is _ _ (dec_size_lg _ _ hs (by decide)), sv_mul]
    simp only [Option.bind_some]
    exact Ev.now _
theorem rtimes_short (x y : Int) (b1 : -9223372036854775808 ≤ x * y) (b2 : x * y ≤ 9223372036854775807) : Ev (fun k => ZM.metrolabref01_Times.j0 k (dec x) (dec y) x y true) (dec (x * y)) := by
  refine Ev.step (f := fun k => (ZP.metrolabref01_Of.f k (x * y)).bind fun t => some t) (fun k => ?_) (Ev.bind (rof_is (x * y) b1 b2) (Ev.now _))
  simp only [ZM.metrolabref01_Times.j0]
  rw [if_pos trivial, IntWalk.wrap64_in _ ⟨b1, b2⟩]
theorem rtimes_is (x y : Int) (hx : lg x.natAbs ≤ 2000) (hy : lg y.natAbs ≤ 2000) : Ev (fun k => ZM.metrolabref01_Times.f k (dec x) (dec y)) (dec (x * y)) := by
  unfold ZM.metrolabref01_Times.f
  by_cases hb : brief18 x y
  · refine Ev.bind (rbrief_yes x y hb) ?_
    refine Ev.pos rfl ?_
    obtain ⟨b0, hm⟩ := times_small x y hb
    rw [IntWalk.wrap64_in _ b0]
    by_cases hs : (((dec x).size : Int) + ((dec y).size : Int)) ≤ 18
    · rw [decide_eq_true hs]
      exact rtimes_short x y (hm hs).1 (hm hs).2
    · rw [decide_eq_false hs]
      exact rtimes_long x y hx hy x y
  · refine Ev.bind (rbrief_no x y hb) ?_
    exact Ev.neg (by decide) (rtimes_long x y hx hy 0 0)
theorem both_chk {a b : ByteArray} (h : errs [a, b] = 0) : chk a = 0 ∧ chk b = 0 := ⟨errs_all h a (by simp), errs_all h b (by simp)⟩
theorem canon_of {a : ByteArray} (h : chk a = 0) : dec (iv a) = a := dec_iv (chk_zero h).1
theorem lg_of {a : ByteArray} (h : chk a = 0) : lg (iv a).natAbs ≤ 1024 := lg_fit (by rw [canon_of h]; exact h)
theorem rmul_is (a b : ByteArray) (ha : a.size ≤ 9223372036854775807) (hb : b.size ≤ 9223372036854775807) : Ev (fun k => ZM.metrolabref01_Mul.f k a b) (two a b (iv a * iv b)) := by
  unfold ZM.metrolabref01_Mul.f two
  refine Ev.bind (rboth_is a b ha hb) ?_
  by_cases h : errs [a, b] = 0
  · refine Ev.pos h ?_
    rw [if_pos h]
    obtain ⟨h1, h2⟩ := both_chk h
    have := rtimes_is (iv a) (iv b) (by have := lg_of h1; omega) (by have := lg_of h2; omega)
    rw [canon_of h1, canon_of h2] at this
    refine Ev.bind this ?_
    rw [rkept_is]
    exact Ev.now _
  · refine Ev.neg h ?_
    rw [if_neg h]
    exact Ev.now _
end Go.Proofs.YtpkfnclbcmnckaaGreatDoor
set_option linter.unusedVariables false
namespace Go.Proofs.YtpkfnclbcmnckaaGreatDoor
open Go Go.RowKit Go.Proofs.YtpkfnclbcmnckaaGreatDoor.Dec Go.Proofs.YtpkfnclbcmnckaaGreatDoor.Mem Go.Proofs.YtpkfnclbcmnckaaGreatDoor.Wid Go.Proofs.YtpkfnclbcmnckaaGreatDoorW.PrintWords Go.Proofs.YtpkfnclbcmnckaaGreatDoorW.PrintMore
theorem dec_data (v : Nat) : (dec (v : Int)).data.toList = Lib.decDigits v := by rw [dec_nat]
theorem digit_step (R y : Nat) (h : y ≤ R) : (R - y) + y = R := Nat.sub_add_cancel h
theorem lg_ten {R y : Nat} (h : R < 10 * y) : lg R ≤ lg y + 1 := by
  refine lg_le (Nat.succ_pos _) ?_
  rw [Nat.pow_succ]
  have := lg_lt y
  omega
/-- One digit of the quotient: the divisor is taken away as often as it goes. -/
theorem rdigit (A : ByteArray) (y : Nat) (hy : 0 < y) (hyl : lg y ≤ 3000) (q : ByteArray) (i : Int) (r : ByteArray × ByteArray) (T : Nat) (hT : T < 10 * y)
    (hnext : ∀ d R : Nat, d < 10 → R < y → d * y + R = T → Ev (fun k => (some (([((48 + d : Nat) : Int)] : List Int) : List Int)).bind fun y148 => (if q.size + (strOfNums y148).size ≤ 9223372036854775807 then (ZM.metrolabref01_divided.l0 k A (dec (y : Int)) (q ++ (strOfNums y148)) (dec (R : Int)) (wrap64 (i + 1))) else (none))) r) :
    ∀ (R d : Nat), d * y + R = T → d < 10 → Ev (fun k => ZM.metrolabref01_divided.l1 k A (dec (y : Int)) q (dec (R : Int)) i ((48 + d : Nat) : Int)) r := by
  intro R
  induction R using Nat.strongRecOn with
  | _ R ih =>
    intro d hd h10
    by_cases h : R < y
    · refine Ev.step (f := fun k => (some (([((48 + d : Nat) : Int)] : List Int) : List Int)).bind fun y148 => (if q.size + (strOfNums y148).size ≤ 9223372036854775807 then (ZM.metrolabref01_divided.l0 k A (dec (y : Int)) (q ++ (strOfNums y148)) (dec (R : Int)) (wrap64 (i + 1))) else (none))) (fun k => ?_) (hnext d R h10 h hd)
      rw [ZM.metrolabref01_divided.l1, rless_is, Option.bind_some, if_pos (decide_eq_true h)]
    · have hle : y ≤ R := Nat.le_of_not_lt h
      have hmul : (d + 1) * y + (R - y) = T := by rw [Nat.succ_mul, Nat.add_assoc, Nat.add_comm y, digit_step R y hle]; exact hd
      have hd9 : d + 1 < 10 := by
        rcases Nat.lt_or_ge (d + 1) 10 with k | k
        · exact k
        · have : 10 * y ≤ (d + 1) * y := Nat.mul_le_mul_right _ k
          omega
      have hRl : lg R ≤ 3001 := Nat.le_trans (lg_ten (show R < 10 * y by omega)) (Nat.succ_le_succ hyl)
      have hm : max (Lib.decDigits R).length (Lib.decDigits y).length + 1 ≤ 100000 := by
        have h1 : (Lib.decDigits R).length ≤ 3001 := hRl
        have h2 : (Lib.decDigits y).length ≤ 3000 := hyl
        omega
      have e8 : (((48 + d : Nat) : Int) + 1) % 256 = ((48 + (d + 1) : Nat) : Int) := by omega
      have := ih (R - y) (by omega) (d + 1) hmul hd9
      refine Ev.step (f := fun k => (ZP.metrolabref01_paper.f k (dec (R : Int)) (dec (y : Int)) false).bind fun t => ZM.metrolabref01_divided.l1 k A (dec (y : Int)) q t i ((48 + (d + 1) : Nat) : Int)) (fun k => ?_) (Ev.bind (rpaper_minus R y hle hm) this)
      rw [ZM.metrolabref01_divided.l1, rless_is, Option.bind_some, if_neg (show ¬ (decide (R < y) = true) by simpa using h), e8]
theorem ext_one (A : ByteArray) (i : Nat) (h : i < A.data.toList.length) : (A.extract i (i + 1)).data.toList = [A.data.toList[i]] := by
  rw [ByteArray.data_extract, Array.toList_extract, List.extract_eq_take_drop, show i + 1 - i = 1 by omega, List.drop_eq_getElem_cons h]
  rfl
theorem str_one (d : Nat) (h : d < 10) : (strOfNums [((48 + d : Nat) : Int)]).data.toList = [UInt8.ofNat (48 + d)] := by
  rw [strOfNums_data]
  show [UInt8.ofNat ((48 + d : Nat) : Int).toNat] = _
  rw [Int.toNat_natCast]
theorem rdiv_loop (A : ByteArray) (n : Nat) (hA : A.data.toList.length = n) (dA : ∀ c ∈ A.data.toList, isDig c = true) (hn0 : 0 < n) (hn : n ≤ 3000) (y : Nat) (hy : 0 < y) (hyl : lg y ≤ 3000) :
    ∀ (d i : Nat) (Q : List UInt8) (R : Nat), n - i = d → i ≤ n → Q.length = i → (∀ c ∈ Q, isDig c = true) → R < y → val Q * y + R = val (A.data.toList.take i) →
    Ev (fun k => ZM.metrolabref01_divided.l0 k A (dec (y : Int)) ⟨Q.toArray⟩ (dec (R : Int)) (i : Int)) (dec ((val A.data.toList / y : Nat) : Int), dec ((val A.data.toList % y : Nat) : Int))
  | 0, i, Q, R, hd, hi, hQ, dQ, hR, hv => by
    obtain rfl : i = n := by omega
    rw [← hA, List.take_length] at hv
    have hq : val A.data.toList / y = val Q := by rw [← hv, Nat.add_comm, Nat.mul_comm, Nat.add_mul_div_left _ _ hy, Nat.div_eq_of_lt hR, Nat.zero_add]
    have hr : val A.data.toList % y = R := by rw [← hv, Nat.add_comm, Nat.mul_comm, Nat.add_mul_mod_self_left, Nat.mod_eq_of_lt hR]
    have hb := rbare_is ⟨Q.toArray⟩ (by rw [size_list]; show 0 < Q.length; omega) dQ
    have c1 : ¬ ((i : Int) < (A.size : Int)) := by rw [size_list, hA]; omega
    refine Ev.step (f := fun k => (ZP.metrolabref01_bare.f k ⟨Q.toArray⟩).bind fun t145 => (some (t145, dec (R : Int)))) (fun k => ?_) ?_
    · rw [ZM.metrolabref01_divided.l0, if_neg c1]
    · refine Ev.bind hb ?_
      rw [hq, hr]
      exact Ev.now _
  | d + 1, i, Q, R, hd, hi, hQ, dQ, hR, hv => by
    have hi' : i < n := by omega
    have hiA : i < A.data.toList.length := by omega
    have hw : -9223372036854775808 ≤ (i : Int) + 1 ∧ (i : Int) + 1 ≤ 9223372036854775807 := by omega
    have c1 : (i : Int) < (A.size : Int) := by rw [size_list, hA]; omega
    have c2 : (i : Int) ≤ ((i + 1 : Nat) : Int) := by omega
    have c3 : ((i + 1 : Nat) : Int) ≤ (A.size : Int) := by rw [size_list, hA]; omega
    have c4 : Q.length + 1 ≤ 9223372036854775807 := by omega
    have hRl : lg R ≤ 3000 := Nat.le_trans (lg_mono (Nat.le_of_lt hR)) hyl
    have hl1 := ext_one A i hiA
    have hs1 : (A.extract i (i + 1)).size = 1 := by rw [size_list, hl1]; rfl
    have c5 : (dec (R : Int)).size + (A.extract i (i + 1)).size ≤ 9223372036854775807 := by
      rw [hs1, dec_len]
      have : (Lib.decDigits R).length ≤ 3000 := hRl
      omega
    have hcat : (dec (R : Int) ++ A.extract i (i + 1)).data.toList = Lib.decDigits R ++ [A.data.toList[i]] := by
      rw [ByteArray.data_append, Array.toList_append, hl1, dec_data]
    have hcatv : val (dec (R : Int) ++ A.extract i (i + 1)).data.toList = 10 * R + dg A.data.toList i := by rw [hcat, val_snoc, decDigits_val, dg_at]
    have hb := rbare_is (dec (R : Int) ++ A.extract i (i + 1)) (by rw [size_list, hcat, List.length_append]; show 0 < _ + 1; omega) (by
      rw [hcat]
      intro c hc
      rcases List.mem_append.1 hc with h | h
      · exact decDigits_dig R c h
      · rw [List.mem_singleton.1 h]; exact dA _ (List.getElem_mem hiA))
    rw [hcatv] at hb
    have hdg := dg_le dA i
    have hT : 10 * R + dg A.data.toList i < 10 * y := by omega
    have htake : val (A.data.toList.take (i + 1)) = 10 * val (A.data.toList.take i) + dg A.data.toList i := by rw [val_take_succ _ i hiA, dg_at]
    refine Ev.step (f := fun k => (ZP.metrolabref01_bare.f k (dec (R : Int) ++ A.extract i (i + 1))).bind fun t => ZM.metrolabref01_divided.l1 k A (dec (y : Int)) ⟨Q.toArray⟩ t (i : Int) ((48 + 0 : Nat) : Int)) (fun k => ?_) (Ev.bind hb ?_)
    · rw [ZM.metrolabref01_divided.l0, if_pos c1, if_pos (Int.natCast_nonneg i), IntWalk.wrap64_in _ hw]
      rw [if_pos (show (i : Int) ≤ (i : Int) + 1 from c2), if_pos (show (i : Int) + 1 ≤ (A.size : Int) from c3), Int.toNat_natCast, show ((i : Int) + 1).toNat = i + 1 from rfl, if_pos c5]
      rfl
    · refine rdigit A y hy hyl ⟨Q.toArray⟩ (i : Int) _ _ hT ?_ _ 0 (by rw [Nat.zero_mul, Nat.zero_add]) (by decide)
      intro e R2 he hR2 heq
      have hso := str_one e he
      have hQs : (⟨Q.toArray⟩ : ByteArray).size = Q.length := by rw [size_list]
      have hss : (strOfNums [((48 + e : Nat) : Int)]).size = 1 := by rw [size_list, hso]; rfl
      have hqq : (⟨Q.toArray⟩ : ByteArray) ++ strOfNums [((48 + e : Nat) : Int)] = ⟨(Q ++ [UInt8.ofNat (48 + e)]).toArray⟩ := by
        refine bytes_ext ?_
        rw [ByteArray.data_append, Array.toList_append, hso]
      have hdd : isDig (UInt8.ofNat (48 + e)) = true := dig_of e he
      have hvn : val (Q ++ [UInt8.ofNat (48 + e)]) * y + R2 = val (A.data.toList.take (i + 1)) := by
        rw [val_snoc, u8_ofNat _ (by omega), htake, ← hv, Nat.add_sub_cancel_left, Nat.add_mul, Nat.mul_add, Nat.mul_assoc, Nat.add_assoc, heq, Nat.add_assoc]
      have ih := rdiv_loop A n hA dA hn0 hn y hy hyl d (i + 1) (Q ++ [UInt8.ofNat (48 + e)]) R2 (by omega) hi' (by rw [List.length_append, hQ]; rfl) (by
        intro c hc
        rcases List.mem_append.1 hc with h | h
        · exact dQ c h
        · rw [List.mem_singleton.1 h]; exact hdd) hR2 hvn
      rw [← hqq] at ih
      refine Ev.bind (a := ([((48 + e : Nat) : Int)] : List Int)) (Ev.now _) ?_
      rw [IntWalk.wrap64_in _ hw]
      exact Ev.pos (by rw [hQs, hss]; exact c4) ih
theorem rdivided_is (x y : Nat) (hx : lg x ≤ 3000) (hy : 0 < y) (hyl : lg y ≤ 3000) : Ev (fun k => ZM.metrolabref01_divided.f k (dec (x : Int)) (dec (y : Int))) (dec ((x / y : Nat) : Int), dec ((x % y : Nat) : Int)) := by
  have hl := dec_data x
  have h := rdiv_loop (dec (x : Int)) (lg x) (by rw [hl]; rfl) (by rw [hl]; exact decDigits_dig x) (lg_pos x) hx y hy hyl _ 0 [] 0 rfl (Nat.zero_le _) rfl (by simp) hy (by rw [List.take_zero]; show 0 * y + 0 = 0; rw [Nat.zero_mul])
  rw [hl, decDigits_val] at h
  have e0 : (dec ((0 : Nat) : Int)) = ⟨#[48]⟩ := bytes_ext itoa_zero
  rw [e0] at h
  exact h
end Go.Proofs.YtpkfnclbcmnckaaGreatDoor
set_option linter.unusedVariables false
namespace Go.Proofs.YtpkfnclbcmnckaaGreatDoor
open Go Go.RowKit Go.Proofs.YtpkfnclbcmnckaaGreatDoor.Dec Go.Proofs.YtpkfnclbcmnckaaGreatDoor.Mem Go.Proofs.YtpkfnclbcmnckaaGreatDoor.Wid Go.Proofs.YtpkfnclbcmnckaaGreatDoorW.PrintWords Go.Proofs.YtpkfnclbcmnckaaGreatDoorW.PrintMore
theorem lg_sv (b : Bool) (v : Nat) : lg (sv b v).natAbs = lg v := by
  unfold sv
  split
  · rw [abs_neg]
  · rw [abs_nat]
theorem lg_one : lg (1 : Int).natAbs ≤ 1 := lg_le (by decide) (by decide)
theorem parted_tail (x y q : Int) (hx : lg x.natAbs ≤ 1900) (hy : lg y.natAbs ≤ 1900) (hq : lg q.natAbs ≤ 1900) (z : Int) (hz : x - q * y = z) :
    Ev (fun k => (ZM.metrolabref01_Times.f k (dec q) (dec y)).bind fun t171 => ((ZP.metrolabref01_Minus.f k (dec x) t171).bind fun t172 => (some (dec q, t172)))) (dec q, dec z) := by
  have h1 : lg (q * y).natAbs ≤ 90000 := Nat.le_trans (lgI_mul q y) (by omega)
  refine Ev.bind (rtimes_is q y (by omega) (by omega)) ?_
  have h2 := rminus_is x (q * y) (by omega) h1
  rw [hz] at h2
  exact Ev.bind h2 (Ev.now _)
theorem parted_j1 (x y q : Int) (hx : lg x.natAbs ≤ 1800) (hy : lg y.natAbs ≤ 1800) (hq : lg q.natAbs ≤ 1800) :
    Ev (fun k => ZM.metrolabref01_Parted.j1 k (dec x) (dec y) (dec q) false) (dec q, dec (x - q * y)) ∧ Ev (fun k => ZM.metrolabref01_Parted.j1 k (dec x) (dec y) (dec q) true) (dec (q - 1), dec (x - (q - 1) * y)) := by
  constructor
  · refine Ev.step (f := fun k => (ZM.metrolabref01_Times.f k (dec q) (dec y)).bind fun t171 => ((ZP.metrolabref01_Minus.f k (dec x) t171).bind fun t172 => (some (dec q, t172)))) (fun k => ?_) (parted_tail x y q (by omega) (by omega) (by omega) _ rfl)
    rw [ZM.metrolabref01_Parted.j1, if_neg (show ¬ (false = true) by decide)]
  · have e1 : (⟨#[49]⟩ : ByteArray) = dec 1 := by
      refine bytes_ext ?_
      show [49] = Lib.itoa 1
      unfold Lib.itoa
      rw [if_neg (by decide), show Int.toNat 1 = 1 from rfl, Lib.decDigits, dif_pos (by decide)]
      rfl
    have hl : lg (q - 1).natAbs ≤ 1900 := by
      have h := lgI_add q (-1)
      have h1 : lg (-1 : Int).natAbs ≤ 1 := lg_le (by decide) (by decide)
      rw [← Int.sub_eq_add_neg] at h
      omega
    refine Ev.step (f := fun k => (ZP.metrolabref01_Minus.f k (dec q) (dec 1)).bind fun t168 => ((ZM.metrolabref01_Times.f k t168 (dec y)).bind fun t169 => ((ZP.metrolabref01_Minus.f k (dec x) t169).bind fun t170 => (some (t168, t170))))) (fun k => ?_) ?_
    · rw [ZM.metrolabref01_Parted.j1, if_pos (rfl : true = true), e1]
    · refine Ev.bind (rminus_is q 1 (by omega) (by have := lg_one; omega)) ?_
      exact parted_tail x y (q - 1) (by omega) (by omega) hl _ rfl
theorem parted_short_num (x y : Int) (hy : y ≠ 0) (hx : x.natAbs < 1000000000000000000) (hy2 : y.natAbs < 1000000000000000000) :
    (-9223372036854775808 ≤ x.tmod y ∧ x.tmod y ≤ 9223372036854775807) ∧ (-9223372036854775808 ≤ x - x.tmod y ∧ x - x.tmod y ≤ 9223372036854775807) ∧ (-9223372036854775808 ≤ x.tmod y + y ∧ x.tmod y + y ≤ 9223372036854775807) ∧
    (-9223372036854775808 ≤ x - (x.tmod y + y) ∧ x - (x.tmod y + y) ≤ 9223372036854775807) ∧ (-9223372036854775808 ≤ x.tdiv y ∧ x.tdiv y ≤ 9223372036854775807) ∧ (-9223372036854775808 ≤ x.tdiv y - 1 ∧ x.tdiv y - 1 ≤ 9223372036854775807) ∧
    (x - x.tmod y).tdiv y = x.tdiv y ∧ (x - (x.tmod y + y)).tdiv y = x.tdiv y - 1 := by
  have h1 : x.tmod y + y * x.tdiv y = x := Int.tmod_add_mul_tdiv x y
  have h2 : (x.tmod y).natAbs ≤ y.natAbs := by
    rw [Int.natAbs_tmod]
    exact Nat.le_of_lt (Nat.mod_lt _ (by omega))
  have h3 : (x.tdiv y).natAbs ≤ x.natAbs := by
    rw [Int.natAbs_tdiv]
    exact Nat.div_le_self _ _
  have e1 : x - x.tmod y = y * x.tdiv y := by omega
  have e2 : x - (x.tmod y + y) = y * (x.tdiv y - 1) := by rw [Int.mul_sub, Int.mul_one]; omega
  have e3 : (x - x.tmod y).tdiv y = x.tdiv y := by rw [e1]; exact Int.mul_tdiv_cancel_left _ hy
  have e4 : (x - (x.tmod y + y)).tdiv y = x.tdiv y - 1 := by rw [e2]; exact Int.mul_tdiv_cancel_left _ hy
  clear e1 e2 h1
  refine ⟨?_, ?_, ?_, ?_, ?_, ?_, e3, e4⟩ <;> (clear e3 e4; generalize x.tmod y = r at *; generalize x.tdiv y = q at *; omega)
theorem rparted_brief (x y : Int) (hy : y ≠ 0) (hb : brief18 x y) : Ev (fun k => ZM.metrolabref01_Parted.f k (dec x) (dec y)) (dec (x.fdiv y), dec (x.fmod y)) := by
  unfold ZM.metrolabref01_Parted.f
  obtain ⟨n1, n2, n3, n4, n5, n6, e1, e2⟩ := parted_short_num x y hy (size_18 hb.1) (size_18 hb.2)
  obtain ⟨p1, p2⟩ := parted_short x y hy
  refine Ev.bind (rbrief_yes x y hb) ?_
  refine Ev.pos rfl (Ev.neg hy ?_)
  have no : ∀ b, b = false → (¬ (x.tmod y ≠ 0 ∧ decide (x.tmod y < 0) ≠ decide (y < 0))) → Ev (fun k => ZM.metrolabref01_Parted.j0 k x y (x.tmod y) b) (dec (x.fdiv y), dec (x.fmod y)) := by
    intro b hbf hc
    subst hbf
    obtain ⟨q1, q2⟩ := p2 hc
    refine Ev.step (f := fun k => (ZP.metrolabref01_Of.f k (x.tdiv y)).bind fun t157 => ((ZP.metrolabref01_Of.f k (x.tmod y)).bind fun t158 => (some (t157, t158)))) (fun k => ?_) ?_
    · rw [ZM.metrolabref01_Parted.j0, if_neg (show ¬ (false = true) by decide), if_neg hy, IntWalk.wrap64_in _ n2, e1, IntWalk.wrap64_in _ n5]
    · rw [q1, q2]
      exact Ev.bind (rof_is _ n5.1 n5.2) (Ev.bind (rof_is _ n1.1 n1.2) (Ev.now _))
  have yes : ∀ b, b = true → (x.tmod y ≠ 0 ∧ decide (x.tmod y < 0) ≠ decide (y < 0)) → Ev (fun k => ZM.metrolabref01_Parted.j0 k x y (x.tmod y) b) (dec (x.fdiv y), dec (x.fmod y)) := by
    intro b hbf hc
    subst hbf
    obtain ⟨q1, q2⟩ := p1 hc
    refine Ev.step (f := fun k => (ZP.metrolabref01_Of.f k (x.tdiv y - 1)).bind fun t157 => ((ZP.metrolabref01_Of.f k (x.tmod y + y)).bind fun t158 => (some (t157, t158)))) (fun k => ?_) ?_
    · rw [ZM.metrolabref01_Parted.j0, if_pos (rfl : true = true), if_neg hy, IntWalk.wrap64_in _ n3, IntWalk.wrap64_in _ n4, e2, IntWalk.wrap64_in _ n6]
    · rw [q1, q2]
      exact Ev.bind (rof_is _ n6.1 n6.2) (Ev.bind (rof_is _ n3.1 n3.2) (Ev.now _))
  show Ev (fun k => if x.tmod y = 0 then ZM.metrolabref01_Parted.j0 k x y (x.tmod y) false else ZM.metrolabref01_Parted.j0 k x y (x.tmod y) ((decide (x.tmod y < 0)) != (decide (y < 0)))) _
  by_cases h0 : x.tmod y = 0
  · exact Ev.pos h0 (no _ rfl (fun h => h.1 h0))
  · refine Ev.neg h0 ?_
    by_cases hs : decide (x.tmod y < 0) = decide (y < 0)
    · exact no _ (by rw [hs]; simp) (fun h => h.2 hs)
    · exact yes _ (by simpa using hs) ⟨h0, hs⟩
theorem rparted_long (x y : Int) (hy : y ≠ 0) (hx : lg x.natAbs ≤ 1800) (hyl : lg y.natAbs ≤ 1800) (hb : ¬ brief18 x y) : Ev (fun k => ZM.metrolabref01_Parted.f k (dec x) (dec y)) (dec (x.fdiv y), dec (x.fmod y)) := by
  unfold ZM.metrolabref01_Parted.f
  obtain ⟨p1, p2⟩ := parted_long x y hy
  have hf : x.fdiv y * y + x.fmod y = x := by rw [Int.mul_comm]; exact Int.mul_fdiv_add_fmod x y
  have hlq : lg (x.natAbs / y.natAbs) ≤ 1800 := Nat.le_trans (lg_mono (Nat.div_le_self _ _)) hx
  refine Ev.bind (rbrief_no x y hb) (Ev.neg (by decide) ?_)
  rw [rsize_is, rsize_is, magS_dec, magS_dec]
  simp only [Option.bind_some]
  refine Ev.bind (rdivided_is x.natAbs y.natAbs (by omega) (by omega) (by omega)) ?_
  rw [rbelow_is, rbelow_is]
  simp only [Option.bind_some]
  rw [rsigned_is _ _ (dec_size_lg _ _ hlq (by decide))]
  simp only [Option.bind_some]
  have hlsv : lg (sv (decide (x < 0) != decide (y < 0)) (x.natAbs / y.natAbs)).natAbs ≤ 1800 := by rw [lg_sv]; exact hlq
  obtain ⟨j1, j2⟩ := parted_j1 x y (sv (decide (x < 0) != decide (y < 0)) (x.natAbs / y.natAbs)) hx hyl hlsv
  rw [toL]
  by_cases hr : x.natAbs % y.natAbs = 0
  · refine Ev.pos ((dec_zero_iff _).2 hr) ?_
    obtain ⟨q1, q2⟩ := p2 (fun h => by omega)
    rw [← q1] at j1
    rw [← q1]
    have e : x - x.fdiv y * y = x.fmod y := by omega
    rw [e] at j1
    exact j1
  · refine Ev.neg (fun h => hr ((dec_zero_iff _).1 h)) ?_
    by_cases hs : decide (x < 0) = decide (y < 0)
    · obtain ⟨q1, q2⟩ := p2 (fun h => h.2 hs)
      have e : x - x.fdiv y * y = x.fmod y := by omega
      rw [← q1, e] at j1
      rw [← q1, show (decide (x < 0) != decide (y < 0)) = false by rw [hs]; simp]
      exact j1
    · obtain ⟨q1, q2⟩ := p1 ⟨by omega, hs⟩
      have hne : (decide (x < 0) != decide (y < 0)) = true := by simpa using hs
      rw [hne] at j2 ⊢
      have q1' : sv true (x.natAbs / y.natAbs) - 1 = x.fdiv y := by rw [q1]; omega
      rw [q1'] at j2
      have e : x - x.fdiv y * y = x.fmod y := by omega
      rw [e] at j2
      exact j2
theorem rparted_is (x y : Int) (hy : y ≠ 0) (hx : lg x.natAbs ≤ 1800) (hyl : lg y.natAbs ≤ 1800) : Ev (fun k => ZM.metrolabref01_Parted.f k (dec x) (dec y)) (dec (x.fdiv y), dec (x.fmod y)) := by
  by_cases hb : brief18 x y
  · exact rparted_brief x y hy hb
  · exact rparted_long x y hy hx hyl hb
/-- The numbers of Euclid's loop. -/
theorem rshared_num (r : ByteArray) : ∀ (n m : Nat), m < 1000000000000000000 → n < 1000000000000000000 → r = dec ((Nat.gcd m n : Nat) : Int) → Ev (fun k => ZM.metrolabref01_Shared.l1 k (m : Int) (n : Int)) r := by
  intro n
  induction n using Nat.strongRecOn with
  | _ n ih =>
    intro m hm hn hr
    by_cases h : n = 0
    · subst h
      rw [Nat.gcd_zero_right] at hr
      rw [hr]
      refine Ev.step (f := fun k => (ZP.metrolabref01_Of.f k (m : Int)).bind fun t183 => (some t183)) (fun k => ?_) (Ev.bind (rof_is _ (by omega) (by omega)) (Ev.now _))
      rw [ZM.metrolabref01_Shared.l1, if_neg (show ¬ (((0 : Nat) : Int) > 0) by decide)]
    · have hp : (n : Int) > 0 := by omega
      have hz : ¬ ((n : Int) = 0) := by omega
      have hlt : m % n < n := Nat.mod_lt _ (by omega)
      have := ih (m % n) hlt n hn (by omega) (by rw [hr, Nat.gcd_comm, Nat.gcd_rec, Nat.gcd_comm])
      refine Ev.step (f := fun k => ZM.metrolabref01_Shared.l1 k (n : Int) ((m % n : Nat) : Int)) (fun k => ?_) this
      rw [ZM.metrolabref01_Shared.l1, if_pos hp, if_neg hz, tm]
theorem rshared_loop (r : ByteArray) : ∀ (n m : Nat), lg m ≤ 1800 → lg n ≤ 1800 → r = dec ((Nat.gcd m n : Nat) : Int) → Ev (fun k => ZM.metrolabref01_Shared.l0 k (dec (m : Int)) (dec (n : Int))) r := by
  intro n
  induction n using Nat.strongRecOn with
  | _ n ih =>
    intro m hm hn hr
    by_cases h : n = 0
    · subst h
      rw [Nat.gcd_zero_right] at hr
      rw [hr]
      refine Ev.after 1 fun k => ?_
      rw [ZM.metrolabref01_Shared.l0, toL, if_pos ((dec_zero_iff 0).2 rfl)]
    · have hz : ¬ ((dec (n : Int)).toList = [48]) := by rw [toL]; exact fun k => h ((dec_zero_iff n).1 k)
      refine Ev.step (f := fun k => (ZP.metrolabref01_brief.f k (dec (m : Int)) (dec (n : Int))).bind fun bt180 => (if bt180.2.2 = true then (ZM.metrolabref01_Shared.l1 k bt180.1 bt180.2.1) else ((ZM.metrolabref01_Parted.f k (dec (m : Int)) (dec (n : Int))).bind fun bt184 => (ZM.metrolabref01_Shared.l0 k (dec (n : Int)) bt184.2)))) (fun k => ?_) ?_
      · rw [ZM.metrolabref01_Shared.l0, if_neg hz]
      · by_cases hb : brief18 (m : Int) (n : Int)
        · refine Ev.bind (rbrief_yes _ _ hb) (Ev.pos rfl ?_)
          have h1 := size_18 hb.1
          have h2 := size_18 hb.2
          rw [abs_nat] at h1 h2
          exact rshared_num r n m h1 h2 hr
        · refine Ev.bind (rbrief_no _ _ hb) (Ev.neg (by decide) ?_)
          refine Ev.bind (rparted_is (m : Int) (n : Int) (by omega) (by rw [abs_nat]; exact hm) (by rw [abs_nat]; exact hn)) ?_
          have e : (m : Int).fmod (n : Int) = ((m % n : Nat) : Int) := by rw [Int.fmod_eq_emod_of_nonneg _ (Int.natCast_nonneg n)]; rfl
          rw [e]
          have hlt : m % n < n := Nat.mod_lt _ (by omega)
          exact ih (m % n) hlt n hn (Nat.le_trans (lg_mono (Nat.le_of_lt hlt)) hn) (by rw [hr, Nat.gcd_comm, Nat.gcd_rec, Nat.gcd_comm])
theorem rshared_is (x y : Int) (hx : lg x.natAbs ≤ 1800) (hy : lg y.natAbs ≤ 1800) : Ev (fun k => ZM.metrolabref01_Shared.f k (dec x) (dec y)) (dec ((x.gcd y : Nat) : Int)) := by
  unfold ZM.metrolabref01_Shared.f
  rw [rsize_is, rsize_is, magS_dec, magS_dec]
  simp only [Option.bind_some]
  rw [rsigned_is _ _ (dec_size_lg _ _ hx (by decide)), rsigned_is _ _ (dec_size_lg _ _ hy (by decide))]
  simp only [Option.bind_some]
  exact rshared_loop _ y.natAbs x.natAbs hx hy rfl
theorem rdivide_is (a b : ByteArray) (ha : a.size ≤ 9223372036854775807) (hb : b.size ≤ 9223372036854775807) : Ev (fun k => ZM.metrolabref01_Divide.f k a b)
    (if errs [a, b] = 0 then (if iv b = 0 then ((⟨#[]⟩ : ByteArray), (⟨#[]⟩ : ByteArray), (10 : Int)) else (dec ((iv a).fdiv (iv b)), dec ((iv a).fmod (iv b)), 0)) else (⟨#[]⟩, ⟨#[]⟩, errs [a, b])) := by
  unfold ZM.metrolabref01_Divide.f
  refine Ev.bind (rboth_is a b ha hb) ?_
  by_cases h : errs [a, b] = 0
  · refine Ev.pos h ?_
    rw [if_pos h, toL]
    obtain ⟨h1, h2⟩ := both_chk h
    by_cases hz : iv b = 0
    · rw [if_pos hz]
      exact Ev.pos ((zero_list h2).2 hz) (Ev.now _)
    · rw [if_neg hz]
      refine Ev.neg (fun k => hz ((zero_list h2).1 k)) ?_
      have := rparted_is (iv a) (iv b) hz (by have := lg_of h1; omega) (by have := lg_of h2; omega)
      rw [canon_of h1, canon_of h2] at this
      exact Ev.bind this (Ev.now _)
  · rw [if_neg h]
    exact Ev.neg h (Ev.now _)
theorem rgcd_is (a b : ByteArray) (ha : a.size ≤ 9223372036854775807) (hb : b.size ≤ 9223372036854775807) : Ev (fun k => ZM.metrolabref01_Gcd.f k a b) (gcdS a b) := by
  unfold ZM.metrolabref01_Gcd.f gcdS
  refine Ev.bind (rboth_is a b ha hb) ?_
  by_cases h : errs [a, b] = 0
  · refine Ev.pos h ?_
    rw [if_pos h]
    obtain ⟨h1, h2⟩ := both_chk h
    have := rshared_is (iv a) (iv b) (by have := lg_of h1; omega) (by have := lg_of h2; omega)
    rw [canon_of h1, canon_of h2] at this
    exact Ev.bind this (Ev.now _)
  · rw [if_neg h]
    exact Ev.neg h (Ev.now _)
end Go.Proofs.YtpkfnclbcmnckaaGreatDoor
set_option linter.unusedVariables false
namespace Go.Proofs.YtpkfnclbcmnckaaGreatDoor
open Go Go.RowKit Go.Proofs.YtpkfnclbcmnckaaGreatDoor.Dec Go.Proofs.YtpkfnclbcmnckaaGreatDoor.Mem Go.Proofs.YtpkfnclbcmnckaaGreatDoor.Wid Go.Proofs.YtpkfnclbcmnckaaGreatDoorW.PrintWords
/-- An integer of at most so many digits. -/
def fit (n : Nat) (z : Int) : Prop := z.natAbs < 10 ^ n
theorem fit_le {n : Nat} {x y : Int} (hx : fit n x) (h : y.natAbs ≤ x.natAbs) : fit n y := Nat.lt_of_le_of_lt h hx
theorem fit_chk {z : Int} (h : fit 1024 z) : chk (dec z) = 0 := by rw [chk_dec, if_neg (Nat.not_le.2 h)]
theorem fit_lim {z : Int} (h : fit 1024 z) : lim z = (dec z, 0) := lim_fit (fit_chk h)
/-- Division rounded down: what the laws ask. -/
theorem fdiv_abs (x y : Int) (hy : y ≠ 0) : (x.fdiv y).natAbs ≤ x.natAbs := by
  have h := parted_long x y hy
  have hd : x.natAbs / y.natAbs ≤ x.natAbs := Nat.div_le_self _ _
  have hm : x.natAbs % y.natAbs + y.natAbs * (x.natAbs / y.natAbs) = x.natAbs := Nat.mod_add_div _ _
  by_cases c : 0 < x.natAbs % y.natAbs ∧ decide (x < 0) ≠ decide (y < 0)
  · rw [(h.1 c).1]
    have h1 : 1 * (x.natAbs / y.natAbs) ≤ y.natAbs * (x.natAbs / y.natAbs) := Nat.mul_le_mul_right _ (by omega)
    have := c.1
    unfold sv
    rw [if_pos rfl]
    omega
  · rw [(h.2 c).1]
    unfold sv
    split
    · rw [abs_neg]; exact hd
    · rw [abs_nat]; exact hd
end Go.Proofs.YtpkfnclbcmnckaaGreatDoor
namespace Go.Proofs.YtpkfnclbcmnckaaGreatDoor.ZLM
open Go.RowKit Go.Proofs.YtpkfnclbcmnckaaGreatDoorW.PrintWords Go.Proofs.YtpkfnclbcmnckaaGreatDoorW.PrintLast Go.Proofs.YtpkfnclbcmnckaaGreatDoorW.PrintMore
attribute [local go_sem] max2_int min2_int max_two min_two max_three min_three max_four min_four   -- for this text's walks alone
set_option linter.unusedVariables false
set_option linter.unusedSimpArgs false
def errW : Option Int → Value
  | none => .nilIface
  | some c => .iface 0 (.int .i64 c)
theorem errW_none : errW none = .nilIface := rfl
theorem errW_some (c : Int) : errW (some c) = .iface 0 (.int .i64 c) := rfl
end Go.Proofs.YtpkfnclbcmnckaaGreatDoor.ZLM
namespace Go.Proofs.YtpkfnclbcmnckaaGreatDoor.ZLM
open Go.RowKit Go.Proofs.YtpkfnclbcmnckaaGreatDoorW.PrintWords Go.Proofs.YtpkfnclbcmnckaaGreatDoorW.PrintLast Go.Proofs.YtpkfnclbcmnckaaGreatDoorW.PrintMore
attribute [local go_sem] max2_int min2_int max_two min_two max_three min_three max_four min_four   -- for this text's walks alone
set_option linter.unusedVariables false
set_option linter.unusedSimpArgs false
mutual
def metrolablaw01_WholeMultiplies.j0 : Nat → ByteArray → ByteArray → Bool → Option (Bool)
  | 0, _, _, _ => none
  | k + 1, x0, x1, x25 => if x25 = true then ((awake.f).bind fun t103 => (some t103)) else ((whole_Mul.f x0 x1).bind fun bt104 => ((ZM.metrolabref01_Mul.f k x0 x1).bind fun bt106 => ((whole_Quo.f x0 x1).bind fun bt108 => ((whole_Rem.f x0 x1).bind fun bt110 => ((ZM.metrolabref01_Divide.f k x0 x1).bind fun bt112 => (if bt104.1.toList = bt106.1.toList then (if bt104.2 = bt106.2 then (if bt108.1.toList = bt112.1.toList then (if bt110.1.toList = bt112.2.1.toList then (if bt108.2 = bt112.2.2 then (metrolablaw01_WholeMultiplies.j1 k x0 x1 (bt110.2 != bt112.2.2)) else (metrolablaw01_WholeMultiplies.j1 k x0 x1 true)) else (metrolablaw01_WholeMultiplies.j1 k x0 x1 true)) else (metrolablaw01_WholeMultiplies.j1 k x0 x1 true)) else (metrolablaw01_WholeMultiplies.j1 k x0 x1 true)) else (metrolablaw01_WholeMultiplies.j1 k x0 x1 true)))))))
def metrolablaw01_WholeMultiplies.j1 : Nat → ByteArray → ByteArray → Bool → Option (Bool)
  | 0, _, _, _ => none
  | k + 1, x0, x1, x85 => if x85 = true then (some false) else ((whole_Gcd.f x0 x1).bind fun bt115 => ((ZM.metrolabref01_Gcd.f k x0 x1).bind fun bt117 => (if bt115.1.toList = bt117.1.toList then (if bt115.2 = bt117.2 then ((awake.f).bind fun t119 => (some t119)) else (some false)) else (some false))))
end
def metrolablaw01_WholeMultiplies.f (k : Nat) (a0 : ByteArray) (a1 : ByteArray) : Option (Bool) := (ZP.metrolabref01_Few.f k a0).bind fun t101 => (if t101 = true then ((ZP.metrolabref01_Few.f k a1).bind fun t102 => (metrolablaw01_WholeMultiplies.j0 k a0 a1 (!t102))) else (metrolablaw01_WholeMultiplies.j0 k a0 a1 true))
theorem metrolablaw01_WholeMultiplies.mono_l : ∀ k, (∀ y0 y1 y2, LeO (metrolablaw01_WholeMultiplies.j0 k y0 y1 y2) (metrolablaw01_WholeMultiplies.j0 (k + 1) y0 y1 y2)) ∧ (∀ y0 y1 y2, LeO (metrolablaw01_WholeMultiplies.j1 k y0 y1 y2) (metrolablaw01_WholeMultiplies.j1 (k + 1) y0 y1 y2))
  | 0 => ⟨fun _ _ _ r h => by simp [metrolablaw01_WholeMultiplies.j0] at h, fun _ _ _ r h => by simp [metrolablaw01_WholeMultiplies.j1] at h⟩
  | k + 1 => by
    obtain ⟨ih0, ih1⟩ := metrolablaw01_WholeMultiplies.mono_l k
    refine ⟨?_, ?_⟩
    · intro y0 y1 y2
      unfold metrolablaw01_WholeMultiplies.j0
      repeat' first
      | (with_reducible exact ih0 _ _ _)
      | (with_reducible exact ih1 _ _ _)
      | (with_reducible exact ZM.metrolabref01_Divide.mono _ _ _)
      | (with_reducible exact ZM.metrolabref01_Gcd.mono _ _ _)
      | (with_reducible exact ZM.metrolabref01_Mul.mono _ _ _)
      | (with_reducible exact ZP.metrolabref01_Few.mono _ _)
      | (with_reducible exact LeO.refl _)
      | (with_reducible exact LeO.none _)
      | (with_reducible refine LeO.ite ?_ ?_)
      | (with_reducible refine LeO.bind ?_ (fun _ => ?_))
      | exact ih0 _ _ _
      | exact ih1 _ _ _
      | exact ZM.metrolabref01_Divide.mono _ _ _
      | exact ZM.metrolabref01_Gcd.mono _ _ _
      | exact ZM.metrolabref01_Mul.mono _ _ _
      | exact ZP.metrolabref01_Few.mono _ _
      | exact LeO.none _
      | refine LeO.ite ?_ ?_
      | refine LeO.bind ?_ (fun _ => ?_)
    · intro y0 y1 y2
      unfold metrolablaw01_WholeMultiplies.j1
      repeat' first
      | (with_reducible exact ih0 _ _ _)
      | (with_reducible exact ih1 _ _ _)
      | (with_reducible exact ZM.metrolabref01_Divide.mono _ _ _)
      | (with_reducible exact ZM.metrolabref01_Gcd.mono _ _ _)
      | (with_reducible exact ZM.metrolabref01_Mul.mono _ _ _)
      | (with_reducible exact ZP.metrolabref01_Few.mono _ _)
      | (with_reducible exact LeO.refl _)
      | (with_reducible exact LeO.none _)
      | (with_reducible refine LeO.ite ?_ ?_)
      | (with_reducible refine LeO.bind ?_ (fun _ => ?_))
      | exact ih0 _ _ _
      | exact ih1 _ _ _
      | exact ZM.metrolabref01_Divide.mono _ _ _
      | exact ZM.metrolabref01_Gcd.mono _ _ _
      | exact ZM.metrolabref01_Mul.mono _ _ _
      | exact ZP.metrolabref01_Few.mono _ _
      | exact LeO.none _
      | refine LeO.ite ?_ ?_
      | refine LeO.bind ?_ (fun _ => ?_)
theorem metrolablaw01_WholeMultiplies.mono : ∀ a0 a1 k, LeO (metrolablaw01_WholeMultiplies.f k a0 a1) (metrolablaw01_WholeMultiplies.f (k + 1) a0 a1) := by
  intro a0 a1 k
  obtain ⟨ih0, ih1⟩ := metrolablaw01_WholeMultiplies.mono_l k
  unfold metrolablaw01_WholeMultiplies.f
  repeat' first
      | (with_reducible exact ih0 _ _ _)
      | (with_reducible exact ih1 _ _ _)
      | (with_reducible exact ZM.metrolabref01_Divide.mono _ _ _)
      | (with_reducible exact ZM.metrolabref01_Gcd.mono _ _ _)
      | (with_reducible exact ZM.metrolabref01_Mul.mono _ _ _)
      | (with_reducible exact ZP.metrolabref01_Few.mono _ _)
      | (with_reducible exact LeO.refl _)
      | (with_reducible exact LeO.none _)
      | (with_reducible refine LeO.ite ?_ ?_)
      | (with_reducible refine LeO.bind ?_ (fun _ => ?_))
      | exact ih0 _ _ _
      | exact ih1 _ _ _
      | exact ZM.metrolabref01_Divide.mono _ _ _
      | exact ZM.metrolabref01_Gcd.mono _ _ _
      | exact ZM.metrolabref01_Mul.mono _ _ _
      | exact ZP.metrolabref01_Few.mono _ _
      | exact LeO.none _
      | refine LeO.ite ?_ ?_
      | refine LeO.bind ?_ (fun _ => ?_)
set_option maxHeartbeats 8000000 in
set_option maxRecDepth 100000 in
theorem metrolablaw01_WholeMultiplies.calls (k : Nat) (a0 : ByteArray) (a1 : ByteArray) (r : Bool) (w : World) (h : metrolablaw01_WholeMultiplies.f k a0 a1 = some r) (HE_ : Env w) :
    Calls Tryz.prog 3 #[.string a0, .string a1] w fun e w' => e = .returned (.bool r) ∧ Below w.heap.size w w' := by
  have ENV0 := Aside0.mk HE_
  clear HE_
  have HB := Aside0.mk (Below.refl w.heap.size w)
  have H : ((ZP.metrolabref01_Few.f k a0).bind fun t101 => (if t101 = true then ((ZP.metrolabref01_Few.f k a1).bind fun t102 => (metrolablaw01_WholeMultiplies.j0 k a0 a1 (!t102))) else (metrolablaw01_WholeMultiplies.j0 k a0 a1 true))) = some r := h
  clear h
  have HC3 := Aside0.mk H
  clear H
  go_enter Tryz.func3, Tryz.ntmps3
  go_upto_region 1 with (fail)
  go_cut [25] (fun v25 wc => ∃ (kq : Nat) (x25_2 : Bool), v25 = .bool x25_2 ∧ Aside0 (metrolablaw01_WholeMultiplies.j0 kq a0 a1 x25_2 = some r) ∧ Aside0 (kq ≤ k) ∧ Aside0 (Below w.heap.size w wc))
  case first =>
    have H := HC3.out
    clear HC3
    replace H := Option.bind_eq_some_iff.mp H
    obtain ⟨t101, A40, H⟩ := H
    replace H : (if t101 = true then ((ZP.metrolabref01_Few.f k a1).bind fun t102 => (metrolablaw01_WholeMultiplies.j0 k a0 a1 (!t102))) else (metrolablaw01_WholeMultiplies.j0 k a0 a1 true)) = some r := H
    have A4 := Aside0.mk A40
    clear A40
    by_cases c5 : t101 = true
    · subst c5
      have H1 : ((ZP.metrolabref01_Few.f k a1).bind fun t102 => (metrolablaw01_WholeMultiplies.j0 k a0 a1 (!t102))) = some r := by rw [if_pos rfl] at H; exact H
      clear H
      have H := H1
      clear H1
      replace H := Option.bind_eq_some_iff.mp H
      obtain ⟨t102, A60, H⟩ := H
      replace H : (metrolablaw01_WholeMultiplies.j0 k a0 a1 (!t102)) = some r := H
      have A6 := Aside0.mk A60
      clear A60
      have H' := Aside0.mk H
      clear H
      go_wp2_with (first | ((with_reducible refine gate_callee (f := 8) rfl ?_); refine goesL_ (some 19) rfl rfl Tryz.func8 (by kernel_rfl) rfl #[.string a0] rfl (by (try simp only [List.map_toArray, List.map_cons, List.map_nil]); first | done | rfl | (simp only [List.length_drop, List.length_take]; rfl)) ?_; (with_reducible refine (ZP.metrolabref01_Few.calls k a0 true _ A4.out).mono ?_); rintro e w' ⟨rfl, ⟨nd, rfl⟩⟩; refine ⟨_, rfl, ?_⟩) | (go_at_call 8; (with_reducible refine (ZP.metrolabref01_Few.calls k a1 t102 _ A6.out).mono ?_); rintro e w' ⟨rfl, ⟨nd, rfl⟩⟩))
      go_meet
      case rel => exact ⟨_, (!t102), (by first | rfl | exact congrArg Value.bool (not_empty _) | exact congrArg Value.bool (is_empty _) | (simp; done) | (simp [*]; done)), H', ⟨by first | omega | exact Nat.le_refl _⟩, ⟨by repeat (first | (with_reducible first | exact HB.out | apply below_alloc | apply pw_below_drewN | apply below_drew1) | exact HB.out)⟩⟩
    · replace c5 := Bool.eq_false_iff.mpr c5
      subst c5
      have H1 : (metrolablaw01_WholeMultiplies.j0 k a0 a1 true) = some r := by rw [if_neg (show ¬ (false = true) by decide)] at H; exact H
      clear H
      have H := H1
      clear H1
      have H' := Aside0.mk H
      clear H
      go_wp2_with (first | ((with_reducible refine gate_callee (f := 8) rfl ?_); refine goesL_ (some 19) rfl rfl Tryz.func8 (by kernel_rfl) rfl #[.string a0] rfl (by (try simp only [List.map_toArray, List.map_cons, List.map_nil]); first | done | rfl | (simp only [List.length_drop, List.length_take]; rfl)) ?_; (with_reducible refine (ZP.metrolabref01_Few.calls k a0 false _ A4.out).mono ?_); rintro e w' ⟨rfl, ⟨nd, rfl⟩⟩; refine ⟨_, rfl, ?_⟩))
      go_meet
      case rel => exact ⟨_, (true), (by first | rfl | exact congrArg Value.bool (not_empty _) | exact congrArg Value.bool (is_empty _) | (simp; done) | (simp [*]; done)), H', ⟨by first | omega | exact Nat.le_refl _⟩, ⟨by repeat (first | (with_reducible first | exact HB.out | apply below_alloc | apply pw_below_drewN | apply below_drew1) | exact HB.out)⟩⟩
  case rest =>
    clear HC3
    try clear p2
    try clear c3
    try clear c5
    obtain ⟨kq, x25_2, rfl, HA, HJ2, HB⟩ := hcut
    cases kq with
    | zero => exact absurd HA.out (by simp [metrolablaw01_WholeMultiplies.j0])
    | succ kj2 =>
      have H := HA.out
      clear HA
      simp only [metrolablaw01_WholeMultiplies.j0] at H
      by_cases c7 : x25_2 = true
      · subst c7
        have H1 : ((awake.f).bind fun t103 => (some t103)) = some r := by rw [if_pos rfl] at H; exact H
        clear H
        have H := H1
        clear H1
        replace H := Option.bind_eq_some_iff.mp H
        obtain ⟨t103, A80, H⟩ := H
        replace H : (some t103) = some r := H
        have A8 := Aside0.mk A80
        clear A80
        obtain rfl := Option.some.inj H
        go_wp2_with (first | ((with_reducible refine gate_callee (f := 9) rfl ?_); refine goesL_ (some 26) rfl rfl Tryz.func9 (by kernel_rfl) rfl #[] rfl (by (try simp only [List.map_toArray, List.map_cons, List.map_nil]); first | done | rfl | (simp only [List.length_drop, List.length_take]; rfl)) ?_; (with_reducible refine (awake.calls  t103 _ A8.out (Env.below ENV0.out (by repeat (first | (with_reducible first | exact HB.out | apply below_alloc | apply pw_below_drewN | apply below_drew1) | exact HB.out)))).mono ?_); rintro e w9 ⟨rfl, hb⟩; refine ⟨_, rfl, ?_⟩; have n0_ := Aside0.mk (below_step (by repeat (first | (with_reducible first | exact HB.out | apply below_alloc | apply pw_below_drewN | apply below_drew1) | exact HB.out)) hb); clear HB; have HB := n0_; clear n0_; (try clear hb); (try clear hb2); (try clear hk); (try clear hi)))
        go_ret
        exact ⟨by first | rfl | (simp [errW_none, errW_some] <;> rfl) | (simp [*, errW_none, errW_some] <;> rfl), by repeat (first | (with_reducible first | exact HB.out | apply below_alloc | apply pw_below_drewN | apply below_drew1) | exact HB.out)⟩
      · replace c7 := Bool.eq_false_iff.mpr c7
        subst c7
        have H1 : ((whole_Mul.f a0 a1).bind fun bt104 => ((ZM.metrolabref01_Mul.f kj2 a0 a1).bind fun bt106 => ((whole_Quo.f a0 a1).bind fun bt108 => ((whole_Rem.f a0 a1).bind fun bt110 => ((ZM.metrolabref01_Divide.f kj2 a0 a1).bind fun bt112 => (if bt104.1.toList = bt106.1.toList then (if bt104.2 = bt106.2 then (if bt108.1.toList = bt112.1.toList then (if bt110.1.toList = bt112.2.1.toList then (if bt108.2 = bt112.2.2 then (metrolablaw01_WholeMultiplies.j1 kj2 a0 a1 (bt110.2 != bt112.2.2)) else (metrolablaw01_WholeMultiplies.j1 kj2 a0 a1 true)) else (metrolablaw01_WholeMultiplies.j1 kj2 a0 a1 true)) else (metrolablaw01_WholeMultiplies.j1 kj2 a0 a1 true)) else (metrolablaw01_WholeMultiplies.j1 kj2 a0 a1 true)) else (metrolablaw01_WholeMultiplies.j1 kj2 a0 a1 true))))))) = some r := by rw [if_neg (show ¬ (false = true) by decide)] at H; exact H
        clear H
        have H := H1
        clear H1
        replace H := Option.bind_eq_some_iff.mp H
        obtain ⟨⟨t104, t105⟩, A100, H⟩ := H
        replace H : ((ZM.metrolabref01_Mul.f kj2 a0 a1).bind fun bt106 => ((whole_Quo.f a0 a1).bind fun bt108 => ((whole_Rem.f a0 a1).bind fun bt110 => ((ZM.metrolabref01_Divide.f kj2 a0 a1).bind fun bt112 => (if t104.toList = bt106.1.toList then (if t105 = bt106.2 then (if bt108.1.toList = bt112.1.toList then (if bt110.1.toList = bt112.2.1.toList then (if bt108.2 = bt112.2.2 then (metrolablaw01_WholeMultiplies.j1 kj2 a0 a1 (bt110.2 != bt112.2.2)) else (metrolablaw01_WholeMultiplies.j1 kj2 a0 a1 true)) else (metrolablaw01_WholeMultiplies.j1 kj2 a0 a1 true)) else (metrolablaw01_WholeMultiplies.j1 kj2 a0 a1 true)) else (metrolablaw01_WholeMultiplies.j1 kj2 a0 a1 true)) else (metrolablaw01_WholeMultiplies.j1 kj2 a0 a1 true)))))) = some r := H
        have A10 := Aside0.mk A100
        clear A100
        replace H := Option.bind_eq_some_iff.mp H
        obtain ⟨⟨t106, t107⟩, A110, H⟩ := H
        replace H : ((whole_Quo.f a0 a1).bind fun bt108 => ((whole_Rem.f a0 a1).bind fun bt110 => ((ZM.metrolabref01_Divide.f kj2 a0 a1).bind fun bt112 => (if t104.toList = t106.toList then (if t105 = t107 then (if bt108.1.toList = bt112.1.toList then (if bt110.1.toList = bt112.2.1.toList then (if bt108.2 = bt112.2.2 then (metrolablaw01_WholeMultiplies.j1 kj2 a0 a1 (bt110.2 != bt112.2.2)) else (metrolablaw01_WholeMultiplies.j1 kj2 a0 a1 true)) else (metrolablaw01_WholeMultiplies.j1 kj2 a0 a1 true)) else (metrolablaw01_WholeMultiplies.j1 kj2 a0 a1 true)) else (metrolablaw01_WholeMultiplies.j1 kj2 a0 a1 true)) else (metrolablaw01_WholeMultiplies.j1 kj2 a0 a1 true))))) = some r := H
        have A11 := Aside0.mk A110
        clear A110
        replace H := Option.bind_eq_some_iff.mp H
        obtain ⟨⟨t108, t109⟩, A120, H⟩ := H
        replace H : ((whole_Rem.f a0 a1).bind fun bt110 => ((ZM.metrolabref01_Divide.f kj2 a0 a1).bind fun bt112 => (if t104.toList = t106.toList then (if t105 = t107 then (if t108.toList = bt112.1.toList then (if bt110.1.toList = bt112.2.1.toList then (if t109 = bt112.2.2 then (metrolablaw01_WholeMultiplies.j1 kj2 a0 a1 (bt110.2 != bt112.2.2)) else (metrolablaw01_WholeMultiplies.j1 kj2 a0 a1 true)) else (metrolablaw01_WholeMultiplies.j1 kj2 a0 a1 true)) else (metrolablaw01_WholeMultiplies.j1 kj2 a0 a1 true)) else (metrolablaw01_WholeMultiplies.j1 kj2 a0 a1 true)) else (metrolablaw01_WholeMultiplies.j1 kj2 a0 a1 true)))) = some r := H
        have A12 := Aside0.mk A120
        clear A120
        replace H := Option.bind_eq_some_iff.mp H
        obtain ⟨⟨t110, t111⟩, A130, H⟩ := H
        replace H : ((ZM.metrolabref01_Divide.f kj2 a0 a1).bind fun bt112 => (if t104.toList = t106.toList then (if t105 = t107 then (if t108.toList = bt112.1.toList then (if t110.toList = bt112.2.1.toList then (if t109 = bt112.2.2 then (metrolablaw01_WholeMultiplies.j1 kj2 a0 a1 (t111 != bt112.2.2)) else (metrolablaw01_WholeMultiplies.j1 kj2 a0 a1 true)) else (metrolablaw01_WholeMultiplies.j1 kj2 a0 a1 true)) else (metrolablaw01_WholeMultiplies.j1 kj2 a0 a1 true)) else (metrolablaw01_WholeMultiplies.j1 kj2 a0 a1 true)) else (metrolablaw01_WholeMultiplies.j1 kj2 a0 a1 true))) = some r := H
        have A13 := Aside0.mk A130
        clear A130
        replace H := Option.bind_eq_some_iff.mp H
        obtain ⟨⟨t112, t113, t114⟩, A140, H⟩ := H
        replace H : (if t104.toList = t106.toList then (if t105 = t107 then (if t108.toList = t112.toList then (if t110.toList = t113.toList then (if t109 = t114 then (metrolablaw01_WholeMultiplies.j1 kj2 a0 a1 (t111 != t114)) else (metrolablaw01_WholeMultiplies.j1 kj2 a0 a1 true)) else (metrolablaw01_WholeMultiplies.j1 kj2 a0 a1 true)) else (metrolablaw01_WholeMultiplies.j1 kj2 a0 a1 true)) else (metrolablaw01_WholeMultiplies.j1 kj2 a0 a1 true)) else (metrolablaw01_WholeMultiplies.j1 kj2 a0 a1 true)) = some r := H
        have A14 := Aside0.mk A140
        clear A140
        have HC15 := Aside0.mk H
        clear H
        go_upto_region 8 with (first | ((with_reducible refine gate_callee (f := 10) rfl ?_); refine goesL_ (some 30) rfl rfl Tryz.func10 (by kernel_rfl) rfl #[.string a0, .string a1] rfl (by (try simp only [List.map_toArray, List.map_cons, List.map_nil]); first | done | rfl | (simp only [List.length_drop, List.length_take]; rfl)) ?_; (with_reducible refine (whole_Mul.calls a0 a1 t104 t105 _ A10.out (Env.below ENV0.out (by repeat (first | (with_reducible first | exact HB.out | apply below_alloc | apply pw_below_drewN | apply below_drew1) | exact HB.out)))).mono ?_); rintro e w16 ⟨rfl, hb⟩; refine ⟨_, rfl, ?_⟩; have n0_ := Aside0.mk (below_step (by repeat (first | (with_reducible first | exact HB.out | apply below_alloc | apply pw_below_drewN | apply below_drew1) | exact HB.out)) hb); clear HB; have HB := n0_; clear n0_; (try clear hb); (try clear hb2); (try clear hk); (try clear hi)) | ((with_reducible refine gate_callee (f := 11) rfl ?_); refine goesL_ (some 36) rfl rfl Tryz.func11 (by kernel_rfl) rfl #[.string a0, .string a1] rfl (by (try simp only [List.map_toArray, List.map_cons, List.map_nil]); first | done | rfl | (simp only [List.length_drop, List.length_take]; rfl)) ?_; (with_reducible refine (ZM.metrolabref01_Mul.calls kj2 a0 a1 t106 t107 _ A11.out).mono ?_); rintro e w17 ⟨rfl, hb⟩; refine ⟨_, rfl, ?_⟩; have n0_ := Aside0.mk (below_step (by repeat (first | (with_reducible first | exact HB.out | apply below_alloc | apply pw_below_drewN | apply below_drew1) | exact HB.out)) hb); clear HB; have HB := n0_; clear n0_; (try clear hb); (try clear hb2); (try clear hk); (try clear hi)) | ((with_reducible refine gate_callee (f := 12) rfl ?_); refine goesL_ (some 42) rfl rfl Tryz.func12 (by kernel_rfl) rfl #[.string a0, .string a1] rfl (by (try simp only [List.map_toArray, List.map_cons, List.map_nil]); first | done | rfl | (simp only [List.length_drop, List.length_take]; rfl)) ?_; (with_reducible refine (whole_Quo.calls a0 a1 t108 t109 _ A12.out (Env.below ENV0.out (by repeat (first | (with_reducible first | exact HB.out | apply below_alloc | apply pw_below_drewN | apply below_drew1) | exact HB.out)))).mono ?_); rintro e w18 ⟨rfl, hb⟩; refine ⟨_, rfl, ?_⟩; have n0_ := Aside0.mk (below_step (by repeat (first | (with_reducible first | exact HB.out | apply below_alloc | apply pw_below_drewN | apply below_drew1) | exact HB.out)) hb); clear HB; have HB := n0_; clear n0_; (try clear hb); (try clear hb2); (try clear hk); (try clear hi)) | ((with_reducible refine gate_callee (f := 13) rfl ?_); refine goesL_ (some 48) rfl rfl Tryz.func13 (by kernel_rfl) rfl #[.string a0, .string a1] rfl (by (try simp only [List.map_toArray, List.map_cons, List.map_nil]); first | done | rfl | (simp only [List.length_drop, List.length_take]; rfl)) ?_; (with_reducible refine (whole_Rem.calls a0 a1 t110 t111 _ A13.out (Env.below ENV0.out (by repeat (first | (with_reducible first | exact HB.out | apply below_alloc | apply pw_below_drewN | apply below_drew1) | exact HB.out)))).mono ?_); rintro e w19 ⟨rfl, hb⟩; refine ⟨_, rfl, ?_⟩; have n0_ := Aside0.mk (below_step (by repeat (first | (with_reducible first | exact HB.out | apply below_alloc | apply pw_below_drewN | apply below_drew1) | exact HB.out)) hb); clear HB; have HB := n0_; clear n0_; (try clear hb); (try clear hb2); (try clear hk); (try clear hi)) | ((with_reducible refine gate_callee (f := 14) rfl ?_); refine goesL_ (some 54) rfl rfl Tryz.func14 (by kernel_rfl) rfl #[.string a0, .string a1] rfl (by (try simp only [List.map_toArray, List.map_cons, List.map_nil]); first | done | rfl | (simp only [List.length_drop, List.length_take]; rfl)) ?_; (with_reducible refine (ZM.metrolabref01_Divide.calls kj2 a0 a1 t112 t113 t114 _ A14.out).mono ?_); rintro e w20 ⟨rfl, hb⟩; refine ⟨_, rfl, ?_⟩; have n0_ := Aside0.mk (below_step (by repeat (first | (with_reducible first | exact HB.out | apply below_alloc | apply pw_below_drewN | apply below_drew1) | exact HB.out)) hb); clear HB; have HB := n0_; clear n0_; (try clear hb); (try clear hb2); (try clear hk); (try clear hi)))
        (try simp only [Act.put, List.setIfInBounds_toArray, List.set_cons_zero, List.set_cons_succ])
        go_cut [85] (fun v85 wc => ∃ (kq : Nat) (x85_14 : Bool), v85 = .bool x85_14 ∧ Aside0 (metrolablaw01_WholeMultiplies.j1 kq a0 a1 x85_14 = some r) ∧ Aside0 (kq ≤ kj2) ∧ Aside0 (Below w.heap.size w wc))
        case first =>
          have H := HC15.out
          clear HC15
          by_cases c21 : t104.toList = t106.toList
          · rw [if_pos c21] at H
            have c21b0 : (t104.toList == t106.toList) = true := beq_iff_eq.mpr c21
            have c21b1 : (t104.toList != t106.toList) = false := bne_eq_false_iff_eq.mpr c21
            clear c21
            (first | rw [c21b0] | (simp only [i64_w, i32_w]; rw [c21b0]) | skip)
            by_cases c22 : t105 = t107
            · rw [if_pos c22] at H
              have c22b0 : (t105 == t107) = true := beq_iff_eq.mpr c22
              have c22b1 : (t105 != t107) = false := bne_eq_false_iff_eq.mpr c22
              clear c22
              by_cases c23 : t108.toList = t112.toList
              · rw [if_pos c23] at H
                have c23b0 : (t108.toList == t112.toList) = true := beq_iff_eq.mpr c23
                have c23b1 : (t108.toList != t112.toList) = false := bne_eq_false_iff_eq.mpr c23
                clear c23
                by_cases c24 : t110.toList = t113.toList
                · rw [if_pos c24] at H
                  have c24b0 : (t110.toList == t113.toList) = true := beq_iff_eq.mpr c24
                  have c24b1 : (t110.toList != t113.toList) = false := bne_eq_false_iff_eq.mpr c24
                  clear c24
                  by_cases c25 : t109 = t114
                  · rw [if_pos c25] at H
                    have c25b0 : (t109 == t114) = true := beq_iff_eq.mpr c25
                    have c25b1 : (t109 != t114) = false := bne_eq_false_iff_eq.mpr c25
                    clear c25
                    have H' := Aside0.mk H
                    clear H
                    go_wp2
                    go_meet
                    case rel => exact ⟨_, ((t111 != t114)), (by first | rfl | exact congrArg Value.bool (not_empty _) | exact congrArg Value.bool (is_empty _) | (simp; done) | (simp [*]; done)), H', ⟨by have := HJ2.out; first | omega | exact Nat.le_refl _⟩, ⟨by repeat (first | (with_reducible first | exact HB.out | apply below_alloc | apply pw_below_drewN | apply below_drew1) | exact HB.out)⟩⟩
                  · rw [if_neg c25] at H
                    have c25b0 : (t109 == t114) = false := beq_eq_false_iff_ne.mpr c25
                    have c25b1 : (t109 != t114) = true := bne_iff_ne.mpr c25
                    have H' := Aside0.mk H
                    clear H
                    go_wp2
                    go_meet
                    case rel => exact ⟨_, (true), (by first | rfl | exact congrArg Value.bool (not_empty _) | exact congrArg Value.bool (is_empty _) | (simp; done) | (simp [*]; done)), H', ⟨by have := HJ2.out; first | omega | exact Nat.le_refl _⟩, ⟨by repeat (first | (with_reducible first | exact HB.out | apply below_alloc | apply pw_below_drewN | apply below_drew1) | exact HB.out)⟩⟩
                · rw [if_neg c24] at H
                  have c24b0 : (t110.toList == t113.toList) = false := beq_eq_false_iff_ne.mpr c24
                  have c24b1 : (t110.toList != t113.toList) = true := bne_iff_ne.mpr c24
                  have H' := Aside0.mk H
                  clear H
                  go_wp2
                  go_meet
                  case rel => exact ⟨_, (true), (by first | rfl | exact congrArg Value.bool (not_empty _) | exact congrArg Value.bool (is_empty _) | (simp; done) | (simp [*]; done)), H', ⟨by have := HJ2.out; first | omega | exact Nat.le_refl _⟩, ⟨by repeat (first | (with_reducible first | exact HB.out | apply below_alloc | apply pw_below_drewN | apply below_drew1) | exact HB.out)⟩⟩
              · rw [if_neg c23] at H
                have c23b0 : (t108.toList == t112.toList) = false := beq_eq_false_iff_ne.mpr c23
                have c23b1 : (t108.toList != t112.toList) = true := bne_iff_ne.mpr c23
                have H' := Aside0.mk H
                clear H
                go_wp2
                go_meet
                case rel => exact ⟨_, (true), (by first | rfl | exact congrArg Value.bool (not_empty _) | exact congrArg Value.bool (is_empty _) | (simp; done) | (simp [*]; done)), H', ⟨by have := HJ2.out; first | omega | exact Nat.le_refl _⟩, ⟨by repeat (first | (with_reducible first | exact HB.out | apply below_alloc | apply pw_below_drewN | apply below_drew1) | exact HB.out)⟩⟩
            · rw [if_neg c22] at H
              have c22b0 : (t105 == t107) = false := beq_eq_false_iff_ne.mpr c22
              have c22b1 : (t105 != t107) = true := bne_iff_ne.mpr c22
              have H' := Aside0.mk H
              clear H
              go_wp2
              go_meet
              case rel => exact ⟨_, (true), (by first | rfl | exact congrArg Value.bool (not_empty _) | exact congrArg Value.bool (is_empty _) | (simp; done) | (simp [*]; done)), H', ⟨by have := HJ2.out; first | omega | exact Nat.le_refl _⟩, ⟨by repeat (first | (with_reducible first | exact HB.out | apply below_alloc | apply pw_below_drewN | apply below_drew1) | exact HB.out)⟩⟩
          · rw [if_neg c21] at H
            have c21b0 : (t104.toList == t106.toList) = false := beq_eq_false_iff_ne.mpr c21
            have c21b1 : (t104.toList != t106.toList) = true := bne_iff_ne.mpr c21
            (first | rw [c21b0] | (simp only [i64_w, i32_w]; rw [c21b0]) | skip)
            have H' := Aside0.mk H
            clear H
            go_wp2
            go_meet
            case rel => exact ⟨_, (true), (by first | rfl | exact congrArg Value.bool (not_empty _) | exact congrArg Value.bool (is_empty _) | (simp; done) | (simp [*]; done)), H', ⟨by have := HJ2.out; first | omega | exact Nat.le_refl _⟩, ⟨by repeat (first | (with_reducible first | exact HB.out | apply below_alloc | apply pw_below_drewN | apply below_drew1) | exact HB.out)⟩⟩
        case rest =>
          clear HC15
          try clear c1
          try clear c2
          try clear p2
          try clear c3
          try clear c5
          try clear c7
          try clear c8
          try clear c9
          try clear c10
          try clear c11
          try clear c12
          try clear c13
          try clear c14
          try clear c21
          try clear c21b0
          try clear c21b1
          try clear c22
          try clear c22b0
          try clear c22b1
          try clear c23
          try clear c23b0
          try clear c23b1
          try clear c24
          try clear c24b0
          try clear c24b1
          try clear c25
          try clear c25b0
          try clear c25b1
          try clear p2
          obtain ⟨kq, x85_14, rfl, HA, HJ14, HB⟩ := hcut
          cases kq with
          | zero => exact absurd HA.out (by simp [metrolablaw01_WholeMultiplies.j1])
          | succ kj14 =>
            have H := HA.out
            clear HA
            simp only [metrolablaw01_WholeMultiplies.j1] at H
            by_cases c26 : x85_14 = true
            · subst c26
              have H1 : (some false) = some r := by rw [if_pos rfl] at H; exact H
              clear H
              have H := H1
              clear H1
              obtain rfl := Option.some.inj H
              go_wp2
              go_ret
              exact ⟨by first | rfl | (simp [errW_none, errW_some] <;> rfl) | (simp [*, errW_none, errW_some] <;> rfl), by repeat (first | (with_reducible first | exact HB.out | apply below_alloc | apply pw_below_drewN | apply below_drew1) | exact HB.out)⟩
            · replace c26 := Bool.eq_false_iff.mpr c26
              subst c26
              have H1 : ((whole_Gcd.f a0 a1).bind fun bt115 => ((ZM.metrolabref01_Gcd.f kj14 a0 a1).bind fun bt117 => (if bt115.1.toList = bt117.1.toList then (if bt115.2 = bt117.2 then ((awake.f).bind fun t119 => (some t119)) else (some false)) else (some false)))) = some r := by rw [if_neg (show ¬ (false = true) by decide)] at H; exact H
              clear H
              have H := H1
              clear H1
              replace H := Option.bind_eq_some_iff.mp H
              obtain ⟨⟨t115, t116⟩, A270, H⟩ := H
              replace H : ((ZM.metrolabref01_Gcd.f kj14 a0 a1).bind fun bt117 => (if t115.toList = bt117.1.toList then (if t116 = bt117.2 then ((awake.f).bind fun t119 => (some t119)) else (some false)) else (some false))) = some r := H
              have A27 := Aside0.mk A270
              clear A270
              replace H := Option.bind_eq_some_iff.mp H
              obtain ⟨⟨t117, t118⟩, A280, H⟩ := H
              replace H : (if t115.toList = t117.toList then (if t116 = t118 then ((awake.f).bind fun t119 => (some t119)) else (some false)) else (some false)) = some r := H
              have A28 := Aside0.mk A280
              clear A280
              by_cases c29 : t115.toList = t117.toList
              · rw [if_pos c29] at H
                have c29b0 : (t115.toList == t117.toList) = true := beq_iff_eq.mpr c29
                have c29b1 : (t115.toList != t117.toList) = false := bne_eq_false_iff_eq.mpr c29
                clear c29
                by_cases c30 : t116 = t118
                · rw [if_pos c30] at H
                  have c30b0 : (t116 == t118) = true := beq_iff_eq.mpr c30
                  have c30b1 : (t116 != t118) = false := bne_eq_false_iff_eq.mpr c30
                  clear c30
                  replace H := Option.bind_eq_some_iff.mp H
                  obtain ⟨t119, A310, H⟩ := H
                  replace H : (some t119) = some r := H
                  have A31 := Aside0.mk A310
                  clear A310
                  obtain rfl := Option.some.inj H
                  go_wp2_with (first | ((with_reducible refine gate_callee (f := 15) rfl ?_); refine goesL_ (some 89) rfl rfl Tryz.func15 (by kernel_rfl) rfl #[.string a0, .string a1] rfl (by (try simp only [List.map_toArray, List.map_cons, List.map_nil]); first | done | rfl | (simp only [List.length_drop, List.length_take]; rfl)) ?_; (with_reducible refine (whole_Gcd.calls a0 a1 t115 t116 _ A27.out (Env.below ENV0.out (by repeat (first | (with_reducible first | exact HB.out | apply below_alloc | apply pw_below_drewN | apply below_drew1) | exact HB.out)))).mono ?_); rintro e w32 ⟨rfl, hb⟩; refine ⟨_, rfl, ?_⟩; have n0_ := Aside0.mk (below_step (by repeat (first | (with_reducible first | exact HB.out | apply below_alloc | apply pw_below_drewN | apply below_drew1) | exact HB.out)) hb); clear HB; have HB := n0_; clear n0_; (try clear hb); (try clear hb2); (try clear hk); (try clear hi)) | ((with_reducible refine gate_callee (f := 16) rfl ?_); refine goesL_ (some 95) rfl rfl Tryz.func16 (by kernel_rfl) rfl #[.string a0, .string a1] rfl (by (try simp only [List.map_toArray, List.map_cons, List.map_nil]); first | done | rfl | (simp only [List.length_drop, List.length_take]; rfl)) ?_; (with_reducible refine (ZM.metrolabref01_Gcd.calls kj14 a0 a1 t117 t118 _ A28.out).mono ?_); rintro e w33 ⟨rfl, hb⟩; refine ⟨_, rfl, ?_⟩; have n0_ := Aside0.mk (below_step (by repeat (first | (with_reducible first | exact HB.out | apply below_alloc | apply pw_below_drewN | apply below_drew1) | exact HB.out)) hb); clear HB; have HB := n0_; clear n0_; (try clear hb); (try clear hb2); (try clear hk); (try clear hi)) | (go_at_call 9; (with_reducible refine (awake.calls  t119 _ A31.out (Env.below ENV0.out (by repeat (first | (with_reducible first | exact HB.out | apply below_alloc | apply pw_below_drewN | apply below_drew1) | exact HB.out)))).mono ?_); rintro e w34 ⟨rfl, hb⟩; have n0_ := Aside0.mk (below_step (by repeat (first | (with_reducible first | exact HB.out | apply below_alloc | apply pw_below_drewN | apply below_drew1) | exact HB.out)) hb); clear HB; have HB := n0_; clear n0_; (try clear hb); (try clear hb2); (try clear hk); (try clear hi)))
                  go_ret
                  exact ⟨by first | rfl | (simp [errW_none, errW_some] <;> rfl) | (simp [*, errW_none, errW_some] <;> rfl), by repeat (first | (with_reducible first | exact HB.out | apply below_alloc | apply pw_below_drewN | apply below_drew1) | exact HB.out)⟩
                · rw [if_neg c30] at H
                  have c30b0 : (t116 == t118) = false := beq_eq_false_iff_ne.mpr c30
                  have c30b1 : (t116 != t118) = true := bne_iff_ne.mpr c30
                  obtain rfl := Option.some.inj H
                  go_wp2_with (first | ((with_reducible refine gate_callee (f := 15) rfl ?_); refine goesL_ (some 89) rfl rfl Tryz.func15 (by kernel_rfl) rfl #[.string a0, .string a1] rfl (by (try simp only [List.map_toArray, List.map_cons, List.map_nil]); first | done | rfl | (simp only [List.length_drop, List.length_take]; rfl)) ?_; (with_reducible refine (whole_Gcd.calls a0 a1 t115 t116 _ A27.out (Env.below ENV0.out (by repeat (first | (with_reducible first | exact HB.out | apply below_alloc | apply pw_below_drewN | apply below_drew1) | exact HB.out)))).mono ?_); rintro e w35 ⟨rfl, hb⟩; refine ⟨_, rfl, ?_⟩; have n0_ := Aside0.mk (below_step (by repeat (first | (with_reducible first | exact HB.out | apply below_alloc | apply pw_below_drewN | apply below_drew1) | exact HB.out)) hb); clear HB; have HB := n0_; clear n0_; (try clear hb); (try clear hb2); (try clear hk); (try clear hi)) | ((with_reducible refine gate_callee (f := 16) rfl ?_); refine goesL_ (some 95) rfl rfl Tryz.func16 (by kernel_rfl) rfl #[.string a0, .string a1] rfl (by (try simp only [List.map_toArray, List.map_cons, List.map_nil]); first | done | rfl | (simp only [List.length_drop, List.length_take]; rfl)) ?_; (with_reducible refine (ZM.metrolabref01_Gcd.calls kj14 a0 a1 t117 t118 _ A28.out).mono ?_); rintro e w36 ⟨rfl, hb⟩; refine ⟨_, rfl, ?_⟩; have n0_ := Aside0.mk (below_step (by repeat (first | (with_reducible first | exact HB.out | apply below_alloc | apply pw_below_drewN | apply below_drew1) | exact HB.out)) hb); clear HB; have HB := n0_; clear n0_; (try clear hb); (try clear hb2); (try clear hk); (try clear hi)))
                  go_ret
                  exact ⟨by first | rfl | (simp [errW_none, errW_some] <;> rfl) | (simp [*, errW_none, errW_some] <;> rfl), by repeat (first | (with_reducible first | exact HB.out | apply below_alloc | apply pw_below_drewN | apply below_drew1) | exact HB.out)⟩
              · rw [if_neg c29] at H
                have c29b0 : (t115.toList == t117.toList) = false := beq_eq_false_iff_ne.mpr c29
                have c29b1 : (t115.toList != t117.toList) = true := bne_iff_ne.mpr c29
                obtain rfl := Option.some.inj H
                go_wp2_with (first | ((with_reducible refine gate_callee (f := 15) rfl ?_); refine goesL_ (some 89) rfl rfl Tryz.func15 (by kernel_rfl) rfl #[.string a0, .string a1] rfl (by (try simp only [List.map_toArray, List.map_cons, List.map_nil]); first | done | rfl | (simp only [List.length_drop, List.length_take]; rfl)) ?_; (with_reducible refine (whole_Gcd.calls a0 a1 t115 t116 _ A27.out (Env.below ENV0.out (by repeat (first | (with_reducible first | exact HB.out | apply below_alloc | apply pw_below_drewN | apply below_drew1) | exact HB.out)))).mono ?_); rintro e w37 ⟨rfl, hb⟩; refine ⟨_, rfl, ?_⟩; have n0_ := Aside0.mk (below_step (by repeat (first | (with_reducible first | exact HB.out | apply below_alloc | apply pw_below_drewN | apply below_drew1) | exact HB.out)) hb); clear HB; have HB := n0_; clear n0_; (try clear hb); (try clear hb2); (try clear hk); (try clear hi)) | ((with_reducible refine gate_callee (f := 16) rfl ?_); refine goesL_ (some 95) rfl rfl Tryz.func16 (by kernel_rfl) rfl #[.string a0, .string a1] rfl (by (try simp only [List.map_toArray, List.map_cons, List.map_nil]); first | done | rfl | (simp only [List.length_drop, List.length_take]; rfl)) ?_; (with_reducible refine (ZM.metrolabref01_Gcd.calls kj14 a0 a1 t117 t118 _ A28.out).mono ?_); rintro e w38 ⟨rfl, hb⟩; refine ⟨_, rfl, ?_⟩; have n0_ := Aside0.mk (below_step (by repeat (first | (with_reducible first | exact HB.out | apply below_alloc | apply pw_below_drewN | apply below_drew1) | exact HB.out)) hb); clear HB; have HB := n0_; clear n0_; (try clear hb); (try clear hb2); (try clear hk); (try clear hi)))
                go_ret
                exact ⟨by first | rfl | (simp [errW_none, errW_some] <;> rfl) | (simp [*, errW_none, errW_some] <;> rfl), by repeat (first | (with_reducible first | exact HB.out | apply below_alloc | apply pw_below_drewN | apply below_drew1) | exact HB.out)⟩
end Go.Proofs.YtpkfnclbcmnckaaGreatDoor.ZLM
set_option linter.unusedVariables false
namespace Go.Proofs.YtpkfnclbcmnckaaGreatDoor
open Go Go.RowKit Go.Proofs.YtpkfnclbcmnckaaGreatDoor.Dec Go.Proofs.YtpkfnclbcmnckaaGreatDoor.Mem Go.Proofs.YtpkfnclbcmnckaaGreatDoor.Wid Go.Proofs.YtpkfnclbcmnckaaGreatDoorW.PrintWords Go.Proofs.YtpkfnclbcmnckaaGreatDoorW.PrintMore
theorem quo_lim {a b : ByteArray} (h1 : chk a = 0) (hz : iv b ≠ 0) : lim ((iv a).fdiv (iv b)) = (dec ((iv a).fdiv (iv b)), 0) := by
  refine fit_lim ?_
  have hf : fit 1024 (iv a) := ival_lt (chk_zero h1).1 1024 (chk_zero h1).2
  exact fit_le hf (fdiv_abs _ _ hz)
theorem mul_j1 (a b : ByteArray) (ha : a.size ≤ 9223372036854775807) (hb : b.size ≤ 9223372036854775807) : Ev (fun k => ZLM.metrolablaw01_WholeMultiplies.j1 k a b false) true := by
  have e1 : whole_Gcd.f a b = some (gcdS a b) := if_pos ⟨ha, hb⟩
  generalize hg : gcdS a b = g at e1
  refine Ev.step (f := fun k => (ZM.metrolabref01_Gcd.f k a b).bind fun bt117 => (if g.1.toList = bt117.1.toList then (if g.2 = bt117.2 then ((awake.f).bind fun t119 => (some t119)) else (some false)) else (some false))) (fun k => ?_) ?_
  · rw [ZLM.metrolablaw01_WholeMultiplies.j1, if_neg (show ¬ (false = true) by decide), e1]
    rfl
  · have h := rgcd_is a b ha hb
    rw [hg] at h
    exact Ev.bind h (Ev.pos rfl (Ev.pos rfl (Ev.now _)))
theorem mul_j0 (a b : ByteArray) (ha : a.size ≤ 9223372036854775807) (hb : b.size ≤ 9223372036854775807) (c : Bool) : Ev (fun k => ZLM.metrolablaw01_WholeMultiplies.j0 k a b c) true := by
  cases c
  · have e1 : whole_Mul.f a b = some (two a b (iv a * iv b)) := if_pos ⟨ha, hb⟩
    have e2 : whole_Quo.f a b = some (quoS a b) := if_pos ⟨ha, hb⟩
    have e3 : whole_Rem.f a b = some (remS a b) := if_pos ⟨ha, hb⟩
    have hd := rdivide_is a b ha hb
    have hm := rmul_is a b ha hb
    have hq : ∃ r : ByteArray × ByteArray × Int, (if errs [a, b] = 0 then (if iv b = 0 then ((⟨#[]⟩ : ByteArray), (⟨#[]⟩ : ByteArray), (10 : Int)) else (dec ((iv a).fdiv (iv b)), dec ((iv a).fmod (iv b)), 0)) else (⟨#[]⟩, ⟨#[]⟩, errs [a, b])) = r ∧ (quoS a b).1 = r.1 ∧ (remS a b).1 = r.2.1 ∧ (quoS a b).2 = r.2.2 ∧ (remS a b).2 = r.2.2 := by
      refine ⟨_, rfl, ?_⟩
      unfold quoS remS
      by_cases h : errs [a, b] = 0
      · rw [if_pos h, if_pos h, if_pos h]
        by_cases hz : iv b = 0
        · rw [if_pos hz, if_pos hz, if_pos hz]; exact ⟨rfl, rfl, rfl, rfl⟩
        · rw [if_neg hz, if_neg hz, if_neg hz, quo_lim (both_chk h).1 hz]; exact ⟨rfl, rfl, rfl, rfl⟩
      · rw [if_neg h, if_neg h, if_neg h]; exact ⟨rfl, rfl, rfl, rfl⟩
    obtain ⟨r, hr, q1, q2, q3, q4⟩ := hq
    rw [hr] at hd
    generalize two a b (iv a * iv b) = m at e1 hm
    generalize quoS a b = q at e2 q1 q3
    generalize remS a b = s at e3 q2 q4
    refine Ev.step (f := fun k => (ZM.metrolabref01_Mul.f k a b).bind fun bt106 => ((ZM.metrolabref01_Divide.f k a b).bind fun bt112 => (if m.1.toList = bt106.1.toList then (if m.2 = bt106.2 then (if q.1.toList = bt112.1.toList then (if s.1.toList = bt112.2.1.toList then (if q.2 = bt112.2.2 then (ZLM.metrolablaw01_WholeMultiplies.j1 k a b (s.2 != bt112.2.2)) else (ZLM.metrolablaw01_WholeMultiplies.j1 k a b true)) else (ZLM.metrolablaw01_WholeMultiplies.j1 k a b true)) else (ZLM.metrolablaw01_WholeMultiplies.j1 k a b true)) else (ZLM.metrolablaw01_WholeMultiplies.j1 k a b true)) else (ZLM.metrolablaw01_WholeMultiplies.j1 k a b true)))) (fun k => ?_) ?_
    · rw [ZLM.metrolablaw01_WholeMultiplies.j0, if_neg (show ¬ (false = true) by decide), e1, e2, e3]
      rfl
    · refine Ev.bind hm (Ev.bind hd (Ev.pos rfl (Ev.pos rfl (Ev.pos (by rw [q1]) (Ev.pos (by rw [q2]) (Ev.pos q3 ?_))))))
      rw [show (s.2 != r.2.2) = false by rw [q4]; simp]
      exact mul_j1 a b ha hb
  · exact Ev.after 1 fun k => rfl
theorem multiplies_pure (a b : ByteArray) (ha0 : a.size ≤ 140737488351232) (hb0 : b.size ≤ 140737488351232) : ∃ k, ZLM.metrolablaw01_WholeMultiplies.f k a b = some true := by
  have ha : a.size ≤ 9223372036854775807 := Nat.le_trans ha0 (by decide)
  have hb : b.size ≤ 9223372036854775807 := Nat.le_trans hb0 (by decide)
  have h : Ev (fun k => ZLM.metrolablaw01_WholeMultiplies.f k a b) true := by
    have h0 := fun c => mul_j0 a b ha hb c
    unfold ZLM.metrolablaw01_WholeMultiplies.f
    obtain ⟨t, ht, _⟩ := rfew_is a ha
    obtain ⟨u, hu, _⟩ := rfew_is b hb
    refine Ev.bind ht ?_
    cases t
    · exact Ev.neg (by decide) (h0 _)
    · exact Ev.pos rfl (Ev.bind hu (h0 _))
  obtain ⟨K, hK⟩ := h
  exact ⟨K, hK K (Nat.le_refl _)⟩
end Go.Proofs.YtpkfnclbcmnckaaGreatDoor
set_option linter.unusedVariables false
namespace Go.Proofs.YtpkfnclbcmnckaaGreatDoor
open Go Go.RowKit Go.ChangeShapes Go.WideShapes Go.ChangeAt
theorem own : ownKnob Tryz.prog.godebug = none := by kernel_rfl
theorem g_pow : Tryz.prog.globalNamed "internal/strconv.uint64pow10" = some 5 := by kernel_rfl
theorem gt_pow : (Tryz.prog.globals[5]?).map (·.type) = some 158 := by kernel_rfl
theorem g_err : Tryz.prog.globalNamed "strconv.ErrRange" = some 1 := by kernel_rfl
theorem gt_err : (Tryz.prog.globals[1]?).map (·.type) = some 81 := by kernel_rfl
theorem cells_u64 : Tryz.prog.cellsOf 132 = 1 := by kernel_rfl
theorem cells_pow : Tryz.prog.cellsOf 158 = 20 := by kernel_rfl
theorem cells_es : Tryz.prog.cellsOf 149 = 1 := by kernel_rfl
theorem cells_str : Tryz.prog.cellsOf 9 = 1 := by kernel_rfl
theorem row_es (u : TypeId) (h : Tryz.prog.typeName? 3 u = some "*errors.errorString") : u = 147 :=
  typeName_ptr_named (nm := "errors.errorString") (by kernel_rfl) (by kernel_rfl) (by decide) u h
def ErrsRange : List UInt8 := [118, 97, 108, 117, 101, 32, 111, 117, 116, 32, 111, 102, 32, 114, 97, 110, 103, 101]
theorem env_of_laid {W : World} {x0 x1 x3 : String × DataW Unit} {r : List (String × DataW Unit)}
    (h : laidMet Tryz.prog (x0 :: x1 :: ("internal/strconv.uint64pow10", Lib.tabData .u64 Lib.pow10Tab) :: x3 :: ("strconv.ErrRange", .iface "*errors.errorString" (.ptr (.agg [.lit (.string ErrsRange)]))) :: r) W) : Env W := by
  have h1 := h.tail.tail
  have h2 := h.tail.tail.tail.tail
  refine ⟨Lib.tabIs_of_head g_pow gt_pow Tryz.underlying158 Tryz.underlying132 cells_u64 cells_pow h1, ?_⟩
  obtain ⟨a0, s0, hv, _, _, _⟩ := laid_sentinel h2 g_err gt_err Tryz.underlying81 row_es Tryz.underlying147 Tryz.underlying149 rfl rfl Tryz.underlying9 cells_es cells_str
  exact ⟨_, World.var?_cell g_err hv 0, .inr ⟨_, _, rfl⟩⟩
end Go.Proofs.YtpkfnclbcmnckaaGreatDoor
namespace Go.Proofs.YtpkfnclbcmnckaaGreatDoor.wholeMultiplies
open Go.ChangeShapes Go.WideShapes Go.ChangeAt Go.RowKit
open Go.ChangeMaps (open_string shut_string)
open Go.Proofs.YtpkfnclbcmnckaaGreatDoorW.PrintWords
set_option linter.unusedVariables false
set_option maxRecDepth 100000 in
theorem lifted (os : Os) (started : os.Started) (H : Type) (enc : TypeId × Value → H) :
    ReturnsInHanded {} Tryz.checked os 3 .any (fun w args => (Rows.wholeMultipliesSpec.pre enc Tryz.prog Tryz.f3 [] false w args ∧ laidMetH Tryz.prog Rows.wholeMultipliesRow.laid w) ∧ sizedMet enc Tryz.prog Tryz.f3 (OpenSpec.ofChange Rows.wholeMultipliesSpec) false w args)
      (Rows.wholeMultipliesSpec.post enc Tryz.prog Tryz.f3 false true false false) := by
  refine returnsInHanded_of_change_and (C := Tryz.checked) (X := fun w _ => laidMetH Tryz.prog Rows.wholeMultipliesRow.laid w) (fun _ _ _ hh h => h.of_heap hh) own started (by kernel_rfl) Tryz.func3
    (ChangeSpec.witness_shaped (enc := enc) (C := Tryz.checked) (os := os) (X := fun w _ => laidMetH Tryz.prog Rows.wholeMultipliesRow.laid w) false (World.laidAll Tryz.prog os Rows.wholeMultipliesRow.laid) #[.string ByteArray.empty, .string ByteArray.empty] 8 (World.laidAll_os _ _ _)
      (World.shaped_of_ZipB (by kernel_rfl) (by kernel_rfl)) (by kernel_rfl) (by kernel_rfl) (by kernel_rfl)
      (by rw [MakeChecks.laidMetH_plain _ _ _ (by kernel_rfl)]; exact laidMet_laidAll _ (by kernel_rfl) (by kernel_rfl))) ?_
  intro W base args ds gs before hval0 hW hcnd hsz0 hL _
  rw [MakeChecks.laidMetH_plain _ _ _ (by kernel_rfl)] at hL
  have HE : Env W := env_of_laid hL
  have hsz : (DataW.weightsEach Tryz.prog (Tryz.f3.params.toList ++ Rows.wholeMultipliesSpec.plain.varTypes Tryz.prog) (ds ++ gs)).all (· ≤ reachBytes) = true := hsz0
  have hval : ∀ (j : Nat) t v, Tryz.f3.params[j]? = some t → args[j]? = some v → Value.okWide Tryz.prog W .any base t v := hval0
  have hW' := hW
  obtain ⟨p, q, hA0, hV, rfl, hfz, hnd⟩ := hW
  have hA : DataW.TrodAll enc Tryz.prog W 0 (fun _ => true) true Tryz.f3.params.toList args.toList ds p := hA0
  rw [Tryz.params3] at hA hval hsz
  obtain ⟨v0, vs0, d0, ds0, p0, q0, hargs, rfl, rfl, h0, r0⟩ := trodAll_cons hA
  obtain ⟨v1, vs1, d1, ds1, p1, q1, rfl, rfl, rfl, h1, r1⟩ := trodAll_cons r0
  obtain ⟨rfl, rfl, rfl⟩ := trodAll_nil r1
  obtain rfl : args = #[v0, v1] := by cases args; simp_all
  obtain ⟨rfl, rfl⟩ := trodVars_none hV
  obtain ⟨a0, rfl, rfl, rfl, y0⟩ := open_string Tryz.underlying22 (hval 0 22 v0 rfl rfl) h0
  have w0 : a0.size ≤ 140737488351232 := by
    have z := sized_string hsz (j := 0) (t := 22) rfl rfl
    rw [Array.length_toList] at z
    exact z
  obtain ⟨a1, rfl, rfl, rfl, y1⟩ := open_string Tryz.underlying22 (hval 1 22 v1 rfl rfl) h1
  have w1 : a1.size ≤ 140737488351232 := by
    have z := sized_string hsz (j := 1) (t := 22) rfl rfl
    rw [Array.length_toList] at z
    exact z
  clear hA0 hval0 hsz0 hsz
  obtain ⟨k, hk⟩ := multiplies_pure a0 a1 w0 w1
  refine (ZLM.metrolablaw01_WholeMultiplies.calls k a0 a1 true W hk HE).mono fun e W' ⟨he, bel⟩ => ?_
  subst he
  exact ⟨_, rfl, _, _, _, [], _, [], hW', trodAll_mk1 (shut_bool Tryz.underlying4 _), (trodAll_cons_mk (shut_string Tryz.underlying22 y0) (trodAll_cons_mk (shut_string Tryz.underlying22 y1) trodAll_mk0)), rfl, bel.frame _, fun h => by cases h⟩
theorem said : Rows.WholeMultipliesSaid :=
  OpenClaim.holds_of_wide 3 Tryz.f3 rfl rfl rfl rfl rfl rfl rfl ⟨rfl, rfl, rfl, rfl, rfl⟩ rfl rfl rfl rfl rfl (by kernel_rfl) Tryz.func3 (by kernel_rfl)
    (of_decide_eq_true (by kernel_rfl)) (by unfold Func.isWrapper; first | (rw [if_pos (by decide +kernel)]; kernel_rfl) | (rw [if_neg (by decide +kernel)]; exact ⟨rfl, rfl⟩))
    (fun os started H enc _ => lifted os started H enc)
theorem plain (f : FuncId) (fn : Func) (hf : Tryz.pinned.checked.prog.funcNamed "metrolab/metrolablaw01.WholeMultiplies" = some f) (hfn : Tryz.pinned.checked.prog.funcs[f]? = some fn) :
    true = Tryz.pinned.checked.prog.looks [] ∧ ∀ (j : Nat) t, fn.params[j]? = some t → Tryz.pinned.checked.prog.wantsStandIn t = false := by
  obtain rfl : f = 3 := Option.some.inj ((show Tryz.prog.funcNamed "metrolab/metrolablaw01.WholeMultiplies" = some 3 by kernel_rfl).symm.trans hf) |>.symm
  obtain rfl : fn = Tryz.f3 := (Option.some.inj (Tryz.func3.symm.trans hfn)).symm
  refine ⟨by kernel_rfl, fun j t ht => ?_⟩
  rw [Tryz.params3] at ht
  have hm : t ∈ [22, 22] := by simpa using Array.mem_of_getElem? ht
  have hall : ([22, 22].all fun u => !Tryz.prog.wantsStandIn u) = true := by kernel_rfl
  exact (show Tryz.prog.wantsStandIn t = false by simpa using List.all_eq_true.1 hall t hm)
theorem card : Rows.WholeMultipliesCardSaid :=
  Claim7.holds_tied_plain_at .later [] _ _ _ _ said (fun _ h => by cases h) (by kernel_rfl) (fun _ h => by cases h) wholeMultiplies_row_tie rfl ⟨rfl, rfl⟩ (by kernel_rfl) rfl plain (by kernel_rfl)
end Go.Proofs.YtpkfnclbcmnckaaGreatDoor.wholeMultiplies
namespace Go.Proofs.YtpkfnclbcmnckaaGreatDoor
/-- The card, under a short name. -/
theorem wholeMultiplies_holds : Rows.WholeMultipliesCardSaid := wholeMultiplies.card
end Go.Proofs.YtpkfnclbcmnckaaGreatDoor
