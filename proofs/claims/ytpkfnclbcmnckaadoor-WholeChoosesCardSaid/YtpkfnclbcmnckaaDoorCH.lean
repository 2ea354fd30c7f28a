/- WholeChooses: the binomials of n add up to 2 to the power of n, each is the sum of two of n - 1, and they are the same from both ends; powers add their exponents. Conditions: package-level variables of Go's library hold what their initialisers lay (tied). -/
import Derived.Test.YtpkfnclbcmnckaaDoorA4
import Derived.Test.YtpkfnclbcmnckaaDoorZLH1m
import Derived.Test.YtpkfnclbcmnckaaDoorRows
import Derived.Test.YtpkfnclbcmnckaaDoorA1
import Derived.Lib.LaidTab
import Derived.Stop.LaidErr
import Derived.Lay
import Derived.ProofKit
import Derived.LaidMore
import Derived.Test.YtpkfnclbcmnckaaDoorCards
import Derived.Test.YtpkfnclbcmnckaaDoorTie
import Derived.WalkKit
import Derived.OpenShut
import Derived.ShutString
import Derived.ChangeOld
import Derived.Below
import Derived.SizedLaws
import Derived.SevenTiedAt
/- The law WholeChooses comes to true for all numbers and texts. -/
set_option linter.unusedVariables false
namespace Go.Proofs.YtpkfnclbcmnckaaDoor
open Go Go.RowKit Go.Proofs.YtpkfnclbcmnckaaDoor.Dec Go.Proofs.YtpkfnclbcmnckaaDoor.Mem Go.Proofs.YtpkfnclbcmnckaaDoor.Wid Go.Proofs.YtpkfnclbcmnckaaDoorW.PrintWords

theorem ch_two : ∀ (n k : Nat), ch n k ≤ 2 ^ n
  | n, 0 => by rw [ch_zero]; exact Nat.one_le_pow _ _ (by decide)
  | 0, k + 1 => Nat.zero_le _
  | n + 1, k + 1 => by
    rw [ch_succ, Nat.pow_succ]
    have := ch_two n k
    have := ch_two n (k + 1)
    omega
/-- The binomial of a number and any integer. -/
def cB (n : Nat) (k : Int) : Nat := if k < 0 then 0 else ch n k.toNat
theorem cB_nat (n k : Nat) : cB n (k : Int) = ch n k := by unfold cB; rw [if_neg (by omega), Int.toNat_natCast]
theorem cB_fit (n : Nat) (k : Int) (hn : n ≤ 60) : fit 20 ((cB n k : Nat) : Int) := by
  unfold fit
  rw [Int.natAbs_natCast]
  refine Nat.lt_of_le_of_lt ?_ (show 2 ^ 60 < 10 ^ 20 by decide)
  unfold cB
  split
  · exact Nat.zero_le _
  · exact Nat.le_trans (ch_two n _) (Nat.pow_le_pow_right (by decide) hn)
theorem sBin (n : Nat) (k : Int) (hn : n ≤ 60) : whole_Binomial.f (n : Int) k = some (dec ((cB n k : Nat) : Int), 0) := by
  have hf := fit_mono (cB_fit n k hn) (show 20 ≤ 1024 by decide)
  unfold whole_Binomial.f binS
  rw [if_neg (by omega)]
  by_cases h : k < 0 ∨ (n : Int) < k
  · rw [if_pos h, zero_dec]
    have e : cB n k = 0 := by
      unfold cB
      split
      · rfl
      · exact ch_over n _ (by omega)
    rw [e]
    rfl
  · rw [if_neg h, Int.toNat_natCast]
    have e : cB n k = ch n k.toNat := by unfold cB; rw [if_neg (by omega)]
    rw [← e, fit_lim hf]
theorem cB_pascal (n : Nat) (j : Nat) : cB (n + 1) (j : Int) = cB n (j : Int) + cB n ((j : Int) - 1) := by
  cases j with
  | zero =>
    rw [cB_nat, cB_nat, ch_zero, ch_zero]
    rfl
  | succ j =>
    rw [show ((j + 1 : Nat) : Int) - 1 = (j : Int) by omega, cB_nat, cB_nat, cB_nat, ch_succ, Nat.add_comm]
theorem cB_sym (n : Nat) (j : Nat) : cB n (j : Int) = cB n ((n : Int) - (j : Int)) := by
  rw [cB_nat]
  by_cases h : j ≤ n
  · rw [show (n : Int) - (j : Int) = ((n - j : Nat) : Int) by omega, cB_nat]
    exact ch_sym n j h
  · unfold cB
    rw [if_pos (by omega), ch_over n j (by omega)]
/-- Sums of a row of the triangle. -/
def chS (n : Nat) : Nat → Nat
  | 0 => 0
  | j + 1 => chS n j + ch n j
theorem chS_succ (n : Nat) : ∀ j : Nat, chS (n + 1) (j + 1) = chS n j + chS n (j + 1)
  | 0 => by simp only [chS, ch_zero]
  | j + 1 => by
    have ih := chS_succ n j
    show chS (n + 1) (j + 1) + ch (n + 1) (j + 1) = (chS n j + ch n j) + (chS n (j + 1) + ch n (j + 1))
    rw [ih, ch_succ]
    omega
theorem chS_all : ∀ n : Nat, chS n (n + 1) = 2 ^ n
  | 0 => rfl
  | n + 1 => by
    rw [chS_succ, Nat.pow_succ]
    have ih := chS_all n
    have e : chS n (n + 1 + 1) = chS n (n + 1) + ch n (n + 1) := rfl
    rw [e, ch_over n (n + 1) (by omega), ih]
    omega
def crow (m j : Nat) : List ByteArray := (List.range j).map fun t => dec ((ch m t : Nat) : Int)
theorem crow_len (m j : Nat) : (crow m j).length = j := by unfold crow; simp
theorem crow_snoc (m j : Nat) : crow m j ++ [dec ((ch m j : Nat) : Int)] = crow m (j + 1) := by
  unfold crow
  rw [List.range_succ, List.map_append]
  rfl
theorem crow_total (m : Nat) : ∀ j : Nat, total (crow m j) = ((chS m j : Nat) : Int)
  | 0 => rfl
  | j + 1 => by
    rw [← crow_snoc, total_append, crow_total m j]
    show ((chS m j : Nat) : Int) + (iv (dec ((ch m j : Nat) : Int)) + 0) = ((chS m j + ch m j : Nat) : Int)
    rw [iv_dec]
    omega
theorem crow_mem (m j : Nat) (hm : m ≤ 60) (s : ByteArray) (h : s ∈ crow m j) : chk s = 0 ∧ okS s := by
  obtain ⟨t, _, rfl⟩ := List.mem_map.1 h
  have hf : fit 1024 ((ch m t : Nat) : Int) := by
    have := cB_fit m (t : Int) hm
    rw [cB_nat] at this
    exact fit_mono this (by decide)
  exact ⟨fit_chk hf, fit_ok hf⟩
theorem errs_zero : ∀ (l : List ByteArray), (∀ s ∈ l, chk s = 0) → errs l = 0
  | [], _ => rfl
  | a :: l, h => by
    unfold errs
    rw [if_pos (h a (by simp))]
    exact errs_zero l fun s hs => h s (by simp [hs])
theorem fit_two (m : Nat) (hm : m ≤ 60) : fit 1024 (((2 ^ m : Nat) : Int)) := by
  refine fit_mono (n := 20) ?_ (by decide)
  unfold fit
  rw [Int.natAbs_natCast]
  exact Nat.lt_of_le_of_lt (Nat.pow_le_pow_right (by decide) hm) (by decide)
theorem sTotal (m : Nat) (hm : m ≤ 60) : whole_Total.f (crow m (m + 1)) = some (dec ((2 ^ m : Nat) : Int), 0) := by
  unfold whole_Total.f totalS
  rw [if_pos (fun s h => (crow_mem m _ hm s h).2), crow_len, if_neg (by omega), if_pos (errs_zero _ fun s h => (crow_mem m _ hm s h).1), crow_total, chS_all, fit_lim (fit_two m hm)]
theorem fit_pow {n : Nat} {x : Int} (hx : fit n x) : ∀ m : Nat, fit (n * m + 1) (x ^ m)
  | 0 => by
    unfold fit
    rw [Int.pow_zero]
    exact Nat.lt_of_lt_of_le (show 1 < 10 ^ 1 by decide) (Nat.pow_le_pow_right (by decide) (by omega))
  | m + 1 => by
    rw [Int.pow_succ]
    exact fit_mono (fit_mul (fit_pow hx m) hx) (by rw [Nat.mul_succ]; omega)
theorem two_dec : (⟨#[50]⟩ : ByteArray) = dec 2 := (dec_of (by decide) (by decide)).symm
theorem chooses_j2 (x : Int) (m : Nat) (hx : fit 12 x) (hm : m ≤ 60) : Ev (fun k => ZLH.metrolablaw01_WholeChooses.j2 k (dec x) (m : Int) false) true := by
  have hx' := fit_mono hx (show 12 ≤ 1024 by decide)
  have h7 : m % 7 ≤ 6 := by omega
  have f1 : fit 1024 (x ^ m) := fit_mono (fit_pow hx m) (by omega)
  have f2 : fit 1024 (x ^ (m % 7)) := fit_mono (fit_pow hx (m % 7)) (by omega)
  have f3 : fit 1024 (x ^ (m + m % 7)) := fit_mono (fit_pow hx (m + m % 7)) (by omega)
  have e7 : Int.tmod (m : Int) 7 = ((m % 7 : Nat) : Int) := tm m 7
  have hw : -9223372036854775808 ≤ (m : Int) + ((m % 7 : Nat) : Int) ∧ (m : Int) + ((m % 7 : Nat) : Int) ≤ 9223372036854775807 := by omega
  have b1 : m ≤ 4096 := by omega
  have b2 : m % 7 ≤ 4096 := by omega
  have b3 : m + m % 7 ≤ 4096 := by omega
  have ep : x ^ m * x ^ (m % 7) = x ^ (m + m % 7) := (Int.pow_add x m (m % 7)).symm
  refine Ev.after 1 fun k => ?_
  rw [ZLH.metrolablaw01_WholeChooses.j2, if_neg (show ¬ (false = true) by decide), e7, IntWalk.wrap64_in _ hw, ← Int.natCast_add, sPow hx' b1 f1, sPow hx' b2 f2, sPow hx' b3 f3]
  simp only [Option.bind_some]
  rw [sMul f1 f2 (by rw [ep]; exact f3), ep]
  simp only [Option.bind_some]
  rw [if_pos (show wrap64 (wrap64 (wrap64 (0 + 0) + 0) + 0) = 0 by simp only [w0]), if_pos trivial]
  rfl
theorem chooses_end (x : Int) (m j : Nat) (hx : fit 12 x) (hm : m + 1 ≤ 60) (hj : j ≤ 100) : Ev (fun k => ZLH.metrolablaw01_WholeChooses.l0 k (dec x) ((m + 1 : Nat) : Int) (j : Int) (crow (m + 1) (m + 2)) ((m + 2 : Nat) : Int) ((m + 2 : Nat) : Int)) true := by
  have hw1 : -9223372036854775808 ≤ ((m + 1 : Nat) : Int) - 1 ∧ ((m + 1 : Nat) : Int) - 1 ≤ 9223372036854775807 := by omega
  have hw2 : -9223372036854775808 ≤ (j : Int) - 1 ∧ (j : Int) - 1 ≤ 9223372036854775807 := by omega
  have hw3 : -9223372036854775808 ≤ ((m + 1 : Nat) : Int) - (j : Int) ∧ ((m + 1 : Nat) : Int) - (j : Int) ≤ 9223372036854775807 := by omega
  have e1 : ((m + 1 : Nat) : Int) - 1 = (m : Int) := by omega
  have c1 : ¬ (((m + 2 : Nat) : Int) < ((m + 2 : Nat) : Int)) := by omega
  have hm60 : m ≤ 60 := by omega
  have t1 : whole_Pow.f ⟨#[50]⟩ ((m + 1 : Nat) : Int) = some (dec ((2 ^ (m + 1) : Nat) : Int), 0) := by
    have e : (2 : Int) ^ (m + 1) = ((2 ^ (m + 1) : Nat) : Int) := by rw [Int.natCast_pow]; rfl
    have := sPow (x := 2) (fit_mono (n := 1) (by unfold fit; decide) (show 1 ≤ 1024 by decide)) (n := m + 1) (by omega) (by rw [e]; exact fit_two (m + 1) hm)
    rw [two_dec, this, e]
  have fy := fit_mono (cB_fit m (j : Int) hm60) (show 20 ≤ 1024 by decide)
  have fz := fit_mono (cB_fit m ((j : Int) - 1) hm60) (show 20 ≤ 1024 by decide)
  have fx := fit_mono (cB_fit (m + 1) (j : Int) hm) (show 20 ≤ 1024 by decide)
  have ha := sAdd fy fz (by rw [← Int.natCast_add, ← cB_pascal]; exact fx)
  rw [← Int.natCast_add, ← cB_pascal] at ha
  have hb : ((dec ((cB (m + 1) (j : Int) : Nat) : Int)).toList != (dec ((cB (m + 1) (((m + 1 : Nat) : Int) - (j : Int)) : Nat) : Int)).toList) = false := by
    rw [← cB_sym (m + 1) j]
    simp
  have h2 := chooses_j2 x (m + 1) hx hm
  refine Ev.step (f := fun k => ZLH.metrolablaw01_WholeChooses.j2 k (dec x) ((m + 1 : Nat) : Int) false) (fun k => ?_) h2
  rw [ZLH.metrolablaw01_WholeChooses.l0, if_neg c1, sTotal (m + 1) hm, t1, IntWalk.wrap64_in _ hw1, IntWalk.wrap64_in _ hw2, IntWalk.wrap64_in _ hw3, e1, sBin (m + 1) _ hm, sBin m _ hm60, sBin m _ hm60, sBin (m + 1) _ hm]
  simp only [Option.bind_some]
  rw [ha]
  simp only [Option.bind_some]
  rw [if_pos (show wrap64 (wrap64 (wrap64 (wrap64 (wrap64 (wrap64 (0 + 0) + 0) + 0) + 0) + 0) + 0) = 0 by simp only [w0]), if_pos trivial, if_pos trivial, hb]
theorem chooses_loop (x : Int) (m j : Nat) (hx : fit 12 x) (hm : m + 1 ≤ 60) (hj : j ≤ 100) : ∀ (d i : Nat), m + 2 - i = d → i ≤ m + 2 →
    Ev (fun k => ZLH.metrolablaw01_WholeChooses.l0 k (dec x) ((m + 1 : Nat) : Int) (j : Int) (crow (m + 1) i) ((m + 2 : Nat) : Int) (i : Int)) true
  | 0, i, hd, hi => by
    obtain rfl : i = m + 2 := by omega
    exact chooses_end x m j hx hm hj
  | d + 1, i, hd, hi => by
    have hw : -9223372036854775808 ≤ (i : Int) + 1 ∧ (i : Int) + 1 ≤ 9223372036854775807 := by omega
    have c1 : (i : Int) < ((m + 2 : Nat) : Int) := by omega
    have c2 : (crow (m + 1) i).length < 8796093022208 := by rw [crow_len]; omega
    have hb := sBin (m + 1) (i : Int) hm
    rw [cB_nat] at hb
    refine Ev.step (f := fun k => ZLH.metrolablaw01_WholeChooses.l0 k (dec x) ((m + 1 : Nat) : Int) (j : Int) (crow (m + 1) (i + 1)) ((m + 2 : Nat) : Int) ((i + 1 : Nat) : Int)) (fun k => ?_) (chooses_loop x m j hx hm hj d (i + 1) (by omega) (by omega))
    rw [ZLH.metrolablaw01_WholeChooses.l0, if_pos c1, hb]
    simp only [Option.bind_some]
    rw [if_pos trivial, if_pos c2, crow_snoc, IntWalk.wrap64_in _ hw]
    rfl
theorem chooses_pure (n k : Int) (a : ByteArray) (n0 : 0 ≤ n) (n1 : n ≤ 255) (k0 : 0 ≤ k) (k1 : k ≤ 255) (ha0 : a.size ≤ 140737488351232) : ∃ q, ZLH.metrolablaw01_WholeChooses.f q n k a = some true := by
  have h : Ev (fun q => ZLH.metrolablaw01_WholeChooses.f q n k a) true := by
    obtain ⟨n, rfl⟩ : ∃ m : Nat, n = (m : Int) := ⟨n.toNat, by omega⟩
    obtain ⟨k, rfl⟩ : ∃ m : Nat, k = (m : Int) := ⟨k.toNat, by omega⟩
    have e1 : Int.tmod (n : Int) 60 = ((n % 60 : Nat) : Int) := tm n 60
    have e2 : Int.tmod (k : Int) 70 = ((k % 70 : Nat) : Int) := tm k 70
    have hn : n % 60 + 1 ≤ 60 := by omega
    have hk : k % 70 ≤ 100 := by omega
    generalize n % 60 = m at *
    generalize k % 70 = j at *
    have hw1 : -9223372036854775808 ≤ (m : Int) ∧ (m : Int) ≤ 9223372036854775807 := by omega
    have hw2 : -9223372036854775808 ≤ 1 + (m : Int) ∧ 1 + (m : Int) ≤ 9223372036854775807 := by omega
    have hw3 : -9223372036854775808 ≤ (j : Int) ∧ (j : Int) ≤ 9223372036854775807 := by omega
    have hw4 : -9223372036854775808 ≤ ((m + 1 : Nat) : Int) + 1 ∧ ((m + 1 : Nat) : Int) + 1 ≤ 9223372036854775807 := by omega
    have e3 : 1 + (m : Int) = ((m + 1 : Nat) : Int) := by omega
    unfold ZLH.metrolablaw01_WholeChooses.f
    rw [e1, e2, IntWalk.wrap64_in _ hw1, IntWalk.wrap64_in _ hw2, IntWalk.wrap64_in _ hw3, e3]
    have hj : ∀ a, Ev (fun q => ZLH.metrolablaw01_WholeChooses.j0 q a ((m + 1 : Nat) : Int) (j : Int) true) true := fun a => Ev.after 1 fun q => rfl
    by_cases h12 : (a.size : Int) > 12
    · exact Ev.pos h12 (hj a)
    · refine Ev.neg h12 ?_
      obtain ⟨t, ht, hs⟩ := short_is [a] (show (1 : Nat) ≤ 1000 by decide)
      refine Ev.bind ht ?_
      cases t
      · exact hj a
      · have hc := (hs rfl a (by simp)).2
        have hx : fit 12 (iv a) := by
          refine ival_lt (chk_zero hc).1 12 ?_
          have := mag_le a.data.toList
          rw [← size_list] at this
          omega
        have ea : a = dec (iv a) := (dec_iv (chk_zero hc).1).symm
        generalize iv a = x at *
        subst ea
        refine Ev.step (f := fun q => ZLH.metrolablaw01_WholeChooses.l0 q (dec x) ((m + 1 : Nat) : Int) (j : Int) (crow (m + 1) 0) ((m + 2 : Nat) : Int) ((0 : Nat) : Int)) (fun q => ?_) (chooses_loop x m j hx hn hk _ 0 rfl (Nat.zero_le _))
        show ZLH.metrolablaw01_WholeChooses.j0 (q + 1) (dec x) ((m + 1 : Nat) : Int) (j : Int) false = _
        rw [ZLH.metrolablaw01_WholeChooses.j0, if_neg (show ¬ (false = true) by decide), IntWalk.wrap64_in _ hw4]
        rfl
  obtain ⟨K, hK⟩ := h
  exact ⟨K, hK K (Nat.le_refl _)⟩
end Go.Proofs.YtpkfnclbcmnckaaDoor
/- What the listed package-level variables give the walks. -/
set_option linter.unusedVariables false
namespace Go.Proofs.YtpkfnclbcmnckaaDoor
open Go Go.RowKit Go.ChangeShapes Go.WideShapes Go.ChangeAt

theorem own : ownKnob Tryd.prog.godebug = none := by kernel_rfl
theorem g_pow : Tryd.prog.globalNamed "internal/strconv.uint64pow10" = some 5 := by kernel_rfl
theorem gt_pow : (Tryd.prog.globals[5]?).map (·.type) = some 133 := by kernel_rfl
theorem g_err : Tryd.prog.globalNamed "strconv.ErrRange" = some 2 := by kernel_rfl
theorem gt_err : (Tryd.prog.globals[2]?).map (·.type) = some 67 := by kernel_rfl
theorem cells_u64 : Tryd.prog.cellsOf 108 = 1 := by kernel_rfl
theorem cells_pow : Tryd.prog.cellsOf 133 = 20 := by kernel_rfl
theorem cells_es : Tryd.prog.cellsOf 131 = 1 := by kernel_rfl
theorem cells_str : Tryd.prog.cellsOf 9 = 1 := by kernel_rfl
theorem row_es (u : TypeId) (h : Tryd.prog.typeName? 3 u = some "*errors.errorString") : u = 129 :=
  typeName_ptr_named (nm := "errors.errorString") (by kernel_rfl) (by kernel_rfl) (by decide) u h
def ErrsRange : List UInt8 := [118, 97, 108, 117, 101, 32, 111, 117, 116, 32, 111, 102, 32, 114, 97, 110, 103, 101]
theorem env_of_laid {W : World} {x0 x1 x3 : String × DataW Unit} {r : List (String × DataW Unit)}
    (h : laidMet Tryd.prog (x0 :: x1 :: ("internal/strconv.uint64pow10", Lib.tabData .u64 Lib.pow10Tab) :: x3 :: ("strconv.ErrRange", .iface "*errors.errorString" (.ptr (.agg [.lit (.string ErrsRange)]))) :: r) W) : Env W := by
  have h1 := h.tail.tail
  have h2 := h.tail.tail.tail.tail
  refine ⟨Lib.tabIs_of_head g_pow gt_pow Tryd.underlying133 Tryd.underlying108 cells_u64 cells_pow h1, ?_⟩
  obtain ⟨a0, s0, hv, _, _, _⟩ := laid_sentinel h2 g_err gt_err Tryd.underlying67 row_es Tryd.underlying129 Tryd.underlying131 rfl rfl Tryd.underlying9 cells_es cells_str
  exact ⟨_, World.var?_cell g_err hv 0, .inr ⟨_, _, rfl⟩⟩
end Go.Proofs.YtpkfnclbcmnckaaDoor
namespace Go.Proofs.YtpkfnclbcmnckaaDoor.wholeChooses
open Go.ChangeShapes Go.WideShapes Go.ChangeAt Go.RowKit
open Go.ChangeMaps (open_string shut_string)
open Go.Proofs.YtpkfnclbcmnckaaDoorW.PrintWords
set_option linter.unusedVariables false
set_option maxRecDepth 100000 in
theorem lifted (os : Os) (started : os.Started) (H : Type) (enc : TypeId × Value → H) :
    ReturnsInHanded {} Tryd.checked os 3 .any (fun w args => (Rows.wholeChoosesSpec.pre enc Tryd.prog Tryd.f3 [] false w args ∧ laidMetH Tryd.prog Rows.wholeChoosesRow.laid w) ∧ sizedMet enc Tryd.prog Tryd.f3 (OpenSpec.ofChange Rows.wholeChoosesSpec) false w args)
      (Rows.wholeChoosesSpec.post enc Tryd.prog Tryd.f3 false true false false) := by
  refine returnsInHanded_of_change_and (C := Tryd.checked) (X := fun w _ => laidMetH Tryd.prog Rows.wholeChoosesRow.laid w) (fun _ _ _ hh h => h.of_heap hh) own started (by kernel_rfl) Tryd.func3
    (ChangeSpec.witness_shaped (enc := enc) (C := Tryd.checked) (os := os) (X := fun w _ => laidMetH Tryd.prog Rows.wholeChoosesRow.laid w) false (World.laidAll Tryd.prog os Rows.wholeChoosesRow.laid) #[.int .u8 0, .int .u8 0, .string ByteArray.empty] 8 (World.laidAll_os _ _ _)
      (World.shaped_of_ZipB (by kernel_rfl) (by kernel_rfl)) (by kernel_rfl) (by kernel_rfl) (by kernel_rfl)
      (by rw [MakeChecks.laidMetH_plain _ _ _ (by kernel_rfl)]; exact laidMet_laidAll _ (by kernel_rfl) (by kernel_rfl))) ?_
  intro W base args ds gs before hval0 hW hcnd hsz0 hL _
  rw [MakeChecks.laidMetH_plain _ _ _ (by kernel_rfl)] at hL
  have HE : Env W := env_of_laid hL
  have hsz : (DataW.weightsEach Tryd.prog (Tryd.f3.params.toList ++ Rows.wholeChoosesSpec.plain.varTypes Tryd.prog) (ds ++ gs)).all (· ≤ reachBytes) = true := hsz0
  have hval : ∀ (j : Nat) t v, Tryd.f3.params[j]? = some t → args[j]? = some v → Value.okWide Tryd.prog W .any base t v := hval0
  have hW' := hW
  obtain ⟨p, q, hA0, hV, rfl, hfz, hnd⟩ := hW
  have hA : DataW.TrodAll enc Tryd.prog W 0 (fun _ => true) true Tryd.f3.params.toList args.toList ds p := hA0
  rw [Tryd.params3] at hA hval hsz
  obtain ⟨v0, vs0, d0, ds0, p0, q0, hargs, rfl, rfl, h0, r0⟩ := trodAll_cons hA
  obtain ⟨v1, vs1, d1, ds1, p1, q1, rfl, rfl, rfl, h1, r1⟩ := trodAll_cons r0
  obtain ⟨v2, vs2, d2, ds2, p2, q2, rfl, rfl, rfl, h2, r2⟩ := trodAll_cons r1
  obtain ⟨rfl, rfl, rfl⟩ := trodAll_nil r2
  obtain rfl : args = #[v0, v1, v2] := by cases args; simp_all
  obtain ⟨rfl, rfl⟩ := trodVars_none hV
  obtain ⟨a0, rfl, rfl, rfl, w0⟩ := open_int Tryd.underlying5 (hval 0 5 v0 rfl rfl) h0
  have b0 : 0 ≤ a0 ∧ a0 ≤ 255 := by simpa [Lit.wf, IntKind.min, IntKind.max, IntKind.signed, IntKind.bits] using w0
  obtain ⟨a1, rfl, rfl, rfl, w1⟩ := open_int Tryd.underlying5 (hval 1 5 v1 rfl rfl) h1
  have b1 : 0 ≤ a1 ∧ a1 ≤ 255 := by simpa [Lit.wf, IntKind.min, IntKind.max, IntKind.signed, IntKind.bits] using w1
  obtain ⟨a2, rfl, rfl, rfl, y2⟩ := open_string Tryd.underlying22 (hval 2 22 v2 rfl rfl) h2
  have w2 : a2.size ≤ 140737488351232 := by
    have z := sized_string hsz (j := 2) (t := 22) rfl rfl
    rw [Array.length_toList] at z
    exact z
  clear hA0 hval0 hsz0 hsz
  obtain ⟨k, hk⟩ := chooses_pure a0 a1 a2 b0.1 b0.2 b1.1 b1.2 w2
  refine (ZLH.metrolablaw01_WholeChooses.calls k a0 a1 a2 true W hk HE).mono fun e W' ⟨he, bel⟩ => ?_
  subst he
  exact ⟨_, rfl, _, _, _, [], _, [], hW', trodAll_mk1 (shut_bool Tryd.underlying4 _), (trodAll_cons_mk (shut_int Tryd.underlying5 w0) (trodAll_cons_mk (shut_int Tryd.underlying5 w1) (trodAll_cons_mk (shut_string Tryd.underlying22 y2) trodAll_mk0))), rfl, bel.frame _, fun h => by cases h⟩
theorem said : Rows.WholeChoosesSaid :=
  OpenClaim.holds_of_wide 3 Tryd.f3 rfl rfl rfl rfl rfl rfl rfl ⟨rfl, rfl, rfl, rfl, rfl⟩ rfl rfl rfl rfl rfl (by kernel_rfl) Tryd.func3 (by kernel_rfl)
    (of_decide_eq_true (by kernel_rfl)) (by unfold Func.isWrapper; first | (rw [if_pos (by decide +kernel)]; kernel_rfl) | (rw [if_neg (by decide +kernel)]; exact ⟨rfl, rfl⟩))
    (fun os started H enc _ => lifted os started H enc)
theorem plain (f : FuncId) (fn : Func) (hf : Tryd.pinned.checked.prog.funcNamed "metrolab/metrolablaw01.WholeChooses" = some f) (hfn : Tryd.pinned.checked.prog.funcs[f]? = some fn) :
    true = Tryd.pinned.checked.prog.looks [] ∧ ∀ (j : Nat) t, fn.params[j]? = some t → Tryd.pinned.checked.prog.wantsStandIn t = false := by
  obtain rfl : f = 3 := Option.some.inj ((show Tryd.prog.funcNamed "metrolab/metrolablaw01.WholeChooses" = some 3 by kernel_rfl).symm.trans hf) |>.symm
  obtain rfl : fn = Tryd.f3 := (Option.some.inj (Tryd.func3.symm.trans hfn)).symm
  refine ⟨by kernel_rfl, fun j t ht => ?_⟩
  rw [Tryd.params3] at ht
  have hm : t ∈ [5, 5, 22] := by simpa using Array.mem_of_getElem? ht
  have hall : ([5, 5, 22].all fun u => !Tryd.prog.wantsStandIn u) = true := by kernel_rfl
  exact (show Tryd.prog.wantsStandIn t = false by simpa using List.all_eq_true.1 hall t hm)
theorem card : Rows.WholeChoosesCardSaid :=
  Claim7.holds_tied_plain_at .later [] _ _ _ _ said (fun _ h => by cases h) (by kernel_rfl) (fun _ h => by cases h) wholeChooses_row_tie rfl ⟨rfl, rfl⟩ (by kernel_rfl) rfl plain (by kernel_rfl)
#print axioms card
end Go.Proofs.YtpkfnclbcmnckaaDoor.wholeChooses
namespace Go.Proofs.YtpkfnclbcmnckaaDoor
/-- The card, under a short name. -/
theorem wholeChooses_holds : Rows.WholeChoosesCardSaid := wholeChooses.card
end Go.Proofs.YtpkfnclbcmnckaaDoor
