/- A part of what the claim's last text leans on. -/
import Derived.Test.YtkohjcfmcliioaaGreatDoorSC0
import Derived.Test.YtkohjcfmcliioaaGreatDoorProg
import Derived.Below
import Derived.Deep.Draws
import Derived.Deep.AppendLies
import Derived.Maps.AppendAt
import Derived.OwnWalk
import Derived.Laws.BytesArg
import Derived.Laws.MakeOwn
import Derived.Laws.OwnMore
import Derived.Deep.OwnRows
import Derived.Tactics
import Derived.Lib.ConvBytes
import Derived.Laws.Slices
import Derived.WalkKit
import Derived.KernelRfl
import Derived.RowKit3
import Derived.Deep.LoopGhost
import Derived.Deep.QuietTactic
import Derived.BigQuiet
import Derived.WideLaws
import Derived.Deep.DeepCutAuto
import Derived.Deep.CutBlock
import Derived.Deep.RegionHeld3
import Derived.Laws.Rows
import Derived.Lib.AppendStr
import Derived.ArgAppend
import Derived.Laws.IdiomCopy
import Derived.OrdersHeld
import Derived.Laws.BitsLemmas
import Derived.RowKit
import Derived.WalkLawsBesides
namespace Go.Proofs.YtkohjcfmcliioaaGreatDoor.ZA
open Go.RowKit Go.Proofs.YtkohjcfmcliioaaGreatDoorW.PrintWords Go.Proofs.YtkohjcfmcliioaaGreatDoorW.PrintLast Go.Proofs.YtkohjcfmcliioaaGreatDoorW.PrintMore
attribute [local go_sem] max2_int min2_int max_two min_two max_three min_three max_four min_four   -- for this text's walks alone
set_option linter.unusedVariables false
set_option linter.unusedSimpArgs false
def errW : Option Int → Value
  | none => .nilIface
  | some c => .iface 0 (.int .i64 c)
theorem errW_none : errW none = .nilIface := rfl
theorem errW_some (c : Int) : errW (some c) = .iface 0 (.int .i64 c) := rfl
theorem info9 : (Tryz.prog.info? 9).map (fun i => (i.zero, i.size, i.bytes)) = some (some (.string ⟨#[]⟩), 1, 16) := by kernel_rfl
theorem info76 : (Tryz.prog.info? 76).map (fun i => (i.zero, i.size, i.bytes)) = some (some (.agg #[(.string ⟨#[]⟩), (.int .i64 0)]), 2, 24) := by kernel_rfl
structure S76 where
  f0 : ByteArray
  f1 : Int
def z76 : S76 := ⟨(⟨#[]⟩ : ByteArray), (0 : Int)⟩
def k76 : Kd S76 := Kd.iso (Kd.pair Kd.string (Kd.int .i64)) (fun x : S76 => (x.f0, x.f1))
theorem k76_open {w : World} {x : S76} {cs : List Value} (h : k76.K w x cs) : cs = [.string x.f0, .int .i64 x.f1] := by
  obtain ⟨_, _, rfl, rfl, rfl⟩ := h
  exact rfl
theorem k76_mkM (w : World) (base : Nat) (ok : Nat → Prop) (x : S76)  : k76.M w base ok x [.string x.f0, .int .i64 x.f1] := ⟨[.string x.f0], [.int .i64 x.f1], rfl, rfl, rfl⟩
def rd_T76 (xs : List S76) (i : Int) : S76 := xs.getD i.toNat z76
theorem at_T76 {w : World} {A : Option Addr} {n : Nat} {xs : List S76} (h : Kd.C k76 w A n xs) (i : Int) (h0 : 0 ≤ i) (h1 : i < n) : ∃ ad , A = some ad ∧ w.cell? (ad.add (i.toNat * 2)) = some (.string (rd_T76 xs i).f0) ∧ w.cell? ⟨(ad.add (i.toNat * 2)).block, (ad.add (i.toNat * 2)).off + 1, none⟩ = some (.int .i64 (rd_T76 xs i).f1) := by
  obtain ⟨ad, c, e, _, hK, hc0⟩ := Kd.C_get h z76 i h0 h1
  have hc : ∀ j u, c[j]? = some u → w.cell? (ad.add (i.toNat * 2 + j)) = some u := hc0
  obtain rfl := k76_open hK
  exact ⟨ad, e, hc 0 _ rfl, by rw [← add_field _ _ 1 (by omega)]; exact hc 1 _ rfl⟩
structure S31 where
  f0 : Int
  f1 : Bool
  f2 : Int
  f3 : Int
  f4 : (List S76)
def z31 : S31 := ⟨(0 : Int), false, (0 : Int), (0 : Int), ([] : List S76)⟩
def k31 : Kd S31 := Kd.iso (Kd.pair (Kd.int .i64) (Kd.pair Kd.bool (Kd.pair (Kd.int .i64) (Kd.pair (Kd.int .i64) (Kd.slice 76 k76))))) (fun x : S31 => (x.f0, x.f1, x.f2, x.f3, x.f4))
theorem k31_open {w : World} {x : S31} {cs : List Value} (h : k31.K w x cs) : ∃ A4 c4, cs = [.int .i64 x.f0, .bool x.f1, .int .i64 x.f2, .int .i64 x.f3, .slice A4 x.f4.length c4] ∧ x.f4.length ≤ c4 ∧ k76.C w A4 x.f4.length x.f4 := by
  obtain ⟨_, _, rfl, rfl, ⟨_, _, rfl, rfl, ⟨_, _, rfl, rfl, ⟨_, _, rfl, rfl, ⟨A4, c4, rfl, l4, g4⟩⟩⟩⟩⟩ := h
  exact ⟨A4, c4, rfl, l4, g4⟩
theorem k31_mk (w : World) (x : S31) {A4 : Option Addr} {c4 : Nat} (l4 : x.f4.length ≤ c4) (g4 : k76.C w A4 x.f4.length x.f4) : k31.K w x [.int .i64 x.f0, .bool x.f1, .int .i64 x.f2, .int .i64 x.f3, .slice A4 x.f4.length c4] := ⟨[.int .i64 x.f0], [.bool x.f1, .int .i64 x.f2, .int .i64 x.f3, .slice A4 x.f4.length c4], rfl, rfl, ⟨[.bool x.f1], [.int .i64 x.f2, .int .i64 x.f3, .slice A4 x.f4.length c4], rfl, rfl, ⟨[.int .i64 x.f2], [.int .i64 x.f3, .slice A4 x.f4.length c4], rfl, rfl, ⟨[.int .i64 x.f3], [.slice A4 x.f4.length c4], rfl, rfl, ⟨A4, c4, rfl, l4, g4⟩⟩⟩⟩⟩
theorem k31_mkF (W : World) (ok : Nat → Prop) (x : S31) {A4 : Option Addr} {c4 : Nat} (l4 : x.f4.length ≤ c4) (g4 : Kd.F k76 W ok A4 x.f4.length x.f4) : Kd.FK k31 W ok x [.int .i64 x.f0, .bool x.f1, .int .i64 x.f2, .int .i64 x.f3, .slice A4 x.f4.length c4] := fun W2 hW => k31_mk W2 x l4 (g4 W2 hW)
def rd_T31 (xs : List S31) (i : Int) : S31 := xs.getD i.toNat z31
theorem at_T31 {w : World} {A : Option Addr} {n : Nat} {xs : List S31} (h : Kd.C k31 w A n xs) (i : Int) (h0 : 0 ≤ i) (h1 : i < n) : ∃ ad A4 c4, A = some ad ∧ w.cell? (ad.add (i.toNat * 5)) = some (.int .i64 (rd_T31 xs i).f0) ∧ w.cell? ⟨(ad.add (i.toNat * 5)).block, (ad.add (i.toNat * 5)).off + 1, none⟩ = some (.bool (rd_T31 xs i).f1) ∧ w.cell? ⟨(ad.add (i.toNat * 5)).block, (ad.add (i.toNat * 5)).off + 2, none⟩ = some (.int .i64 (rd_T31 xs i).f2) ∧ w.cell? ⟨(ad.add (i.toNat * 5)).block, (ad.add (i.toNat * 5)).off + 3, none⟩ = some (.int .i64 (rd_T31 xs i).f3) ∧ w.cell? ⟨(ad.add (i.toNat * 5)).block, (ad.add (i.toNat * 5)).off + 4, none⟩ = some (.slice A4 (rd_T31 xs i).f4.length c4) ∧ (rd_T31 xs i).f4.length ≤ c4 ∧ k76.C w A4 (rd_T31 xs i).f4.length (rd_T31 xs i).f4 := by
  obtain ⟨ad, c, e, _, hK, hc0⟩ := Kd.C_get h z31 i h0 h1
  have hc : ∀ j u, c[j]? = some u → w.cell? (ad.add (i.toNat * 5 + j)) = some u := hc0
  obtain ⟨A4, c4, rfl, l4, g4⟩ := k31_open hK
  exact ⟨ad, A4, c4, e, hc 0 _ rfl, by rw [← add_field _ _ 1 (by omega)]; exact hc 1 _ rfl, by rw [← add_field _ _ 2 (by omega)]; exact hc 2 _ rfl, by rw [← add_field _ _ 3 (by omega)]; exact hc 3 _ rfl, by rw [← add_field _ _ 4 (by omega)]; exact hc 4 _ rfl, l4, g4⟩
structure S124 where
  f0 : ByteArray
  f1 : ByteArray
  f2 : Int
  f3 : Int
  f4 : ByteArray
def z124 : S124 := ⟨(⟨#[]⟩ : ByteArray), (⟨#[]⟩ : ByteArray), (0 : Int), (0 : Int), (⟨#[]⟩ : ByteArray)⟩
def k124 : Kd S124 := Kd.iso (Kd.pair Kd.string (Kd.pair Kd.string (Kd.pair (Kd.int .i64) (Kd.pair (Kd.int .i64) Kd.string)))) (fun x : S124 => (x.f0, x.f1, x.f2, x.f3, x.f4))
theorem k124_open {w : World} {x : S124} {cs : List Value} (h : k124.K w x cs) : cs = [.string x.f0, .string x.f1, .int .i64 x.f2, .int .i64 x.f3, .string x.f4] := by
  obtain ⟨_, _, rfl, rfl, ⟨_, _, rfl, rfl, ⟨_, _, rfl, rfl, ⟨_, _, rfl, rfl, rfl⟩⟩⟩⟩ := h
  exact rfl
theorem k124_mkM (w : World) (base : Nat) (ok : Nat → Prop) (x : S124)  : k124.M w base ok x [.string x.f0, .string x.f1, .int .i64 x.f2, .int .i64 x.f3, .string x.f4] := ⟨[.string x.f0], [.string x.f1, .int .i64 x.f2, .int .i64 x.f3, .string x.f4], rfl, rfl, ⟨[.string x.f1], [.int .i64 x.f2, .int .i64 x.f3, .string x.f4], rfl, rfl, ⟨[.int .i64 x.f2], [.int .i64 x.f3, .string x.f4], rfl, rfl, ⟨[.int .i64 x.f3], [.string x.f4], rfl, rfl, rfl⟩⟩⟩⟩
def rd_T124 (xs : List S124) (i : Int) : S124 := xs.getD i.toNat z124
theorem at_T124 {w : World} {A : Option Addr} {n : Nat} {xs : List S124} (h : Kd.C k124 w A n xs) (i : Int) (h0 : 0 ≤ i) (h1 : i < n) : ∃ ad , A = some ad ∧ w.cell? (ad.add (i.toNat * 5)) = some (.string (rd_T124 xs i).f0) ∧ w.cell? ⟨(ad.add (i.toNat * 5)).block, (ad.add (i.toNat * 5)).off + 1, none⟩ = some (.string (rd_T124 xs i).f1) ∧ w.cell? ⟨(ad.add (i.toNat * 5)).block, (ad.add (i.toNat * 5)).off + 2, none⟩ = some (.int .i64 (rd_T124 xs i).f2) ∧ w.cell? ⟨(ad.add (i.toNat * 5)).block, (ad.add (i.toNat * 5)).off + 3, none⟩ = some (.int .i64 (rd_T124 xs i).f3) ∧ w.cell? ⟨(ad.add (i.toNat * 5)).block, (ad.add (i.toNat * 5)).off + 4, none⟩ = some (.string (rd_T124 xs i).f4) := by
  obtain ⟨ad, c, e, _, hK, hc0⟩ := Kd.C_get h z124 i h0 h1
  have hc : ∀ j u, c[j]? = some u → w.cell? (ad.add (i.toNat * 5 + j)) = some u := hc0
  obtain rfl := k124_open hK
  exact ⟨ad, e, hc 0 _ rfl, by rw [← add_field _ _ 1 (by omega)]; exact hc 1 _ rfl, by rw [← add_field _ _ 2 (by omega)]; exact hc 2 _ rfl, by rw [← add_field _ _ 3 (by omega)]; exact hc 3 _ rfl, by rw [← add_field _ _ 4 (by omega)]; exact hc 4 _ rfl⟩
end Go.Proofs.YtkohjcfmcliioaaGreatDoor.ZA
namespace Go.Proofs.YtkohjcfmcliioaaGreatDoor.ZA
open Go.RowKit Go.Proofs.YtkohjcfmcliioaaGreatDoorW.PrintWords Go.Proofs.YtkohjcfmcliioaaGreatDoorW.PrintLast Go.Proofs.YtkohjcfmcliioaaGreatDoorW.PrintMore
attribute [local go_sem] max2_int min2_int max_two min_two max_three min_three max_four min_four   -- for this text's walks alone
set_option linter.unusedVariables false
set_option linter.unusedSimpArgs false
theorem eqA25 (d : Nat) (w : World) (x0 y0 : Int) (x1 y1 : Int) :
    (Op.equalIn (d + 2) 25 (.agg #[.int .i64 x0, .int .i64 x1]) (.agg #[.int .i64 y0, .int .i64 y1])).run Tryz.prog w = .ok (x0 == y0 && (x1 == y1)) w := by
  refine eqA_of Tryz.underlying25 (by kernel_rfl) ?_
  refine eqf_cons (by rfl) (by go_simp; rfl) (by go_simp; rfl) (by go_simp) ?_
  exact eqf_last (by rfl) (by go_simp; rfl) (by go_simp; rfl) (by go_simp)
end Go.Proofs.YtkohjcfmcliioaaGreatDoor.ZA
namespace Go.Proofs.YtkohjcfmcliioaaGreatDoor.ZA
open Go.RowKit Go.Proofs.YtkohjcfmcliioaaGreatDoorW.PrintWords Go.Proofs.YtkohjcfmcliioaaGreatDoorW.PrintLast Go.Proofs.YtkohjcfmcliioaaGreatDoorW.PrintMore
attribute [local go_sem] max2_int min2_int max_two min_two max_three min_three max_four min_four   -- for this text's walks alone
set_option linter.unusedVariables false
set_option linter.unusedSimpArgs false
theorem eqA76 (d : Nat) (w : World) (x0 y0 : ByteArray) (x1 y1 : Int) :
    (Op.equalIn (d + 2) 76 (.agg #[.string x0, .int .i64 x1]) (.agg #[.string y0, .int .i64 y1])).run Tryz.prog w = .ok (x0.toList == y0.toList && (x1 == y1)) w := by
  refine eqA_of Tryz.underlying76 (by kernel_rfl) ?_
  refine eqf_cons (by rfl) (by go_simp; rfl) (by go_simp; rfl) (by go_simp) ?_
  exact eqf_last (by rfl) (by go_simp; rfl) (by go_simp; rfl) (by go_simp)
end Go.Proofs.YtkohjcfmcliioaaGreatDoor.ZA
namespace Go.Proofs.YtkohjcfmcliioaaGreatDoor.ZA
open Go.RowKit Go.Proofs.YtkohjcfmcliioaaGreatDoorW.PrintWords Go.Proofs.YtkohjcfmcliioaaGreatDoorW.PrintLast Go.Proofs.YtkohjcfmcliioaaGreatDoorW.PrintMore
attribute [local go_sem] max2_int min2_int max_two min_two max_three min_three max_four min_four   -- for this text's walks alone
set_option linter.unusedVariables false
set_option linter.unusedSimpArgs false
def dimension_letter.f (a0 : Int) : Option (Bool) := if a0 ≥ 65 then (if a0 ≤ 90 then (some true) else (if a0 ≥ 97 then (some (decide (a0 ≤ 122))) else (some false))) else (if a0 ≥ 97 then (some (decide (a0 ≤ 122))) else (some false))
set_option maxHeartbeats 8000000 in
set_option maxRecDepth 100000 in
theorem dimension_letter.calls (a0 : Int) (r : Bool) (w : World) (h : dimension_letter.f a0 = some r) :
    Calls Tryz.prog 86 #[.int .u8 a0] w fun e w' => e = .returned (.bool r) ∧ Drawn0 w w' := by
  have H : (if a0 ≥ 65 then (if a0 ≤ 90 then (some true) else (if a0 ≥ 97 then (some (decide (a0 ≤ 122))) else (some false))) else (if a0 ≥ 97 then (some (decide (a0 ≤ 122))) else (some false))) = some r := h
  clear h
  by_cases c2 : a0 ≥ 65
  · rw [if_pos c2] at H
    have c2b0 : decide (65 ≤ a0) = true := decide_eq_true c2
    clear c2
    by_cases c3 : a0 ≤ 90
    · rw [if_pos c3] at H
      have c3b0 : decide (a0 ≤ 90) = true := decide_eq_true c3
      clear c3
      obtain rfl := Option.some.inj H
      go_enter Tryz.func86, Tryz.ntmps86
      go_wp2
      go_ret
      exact ⟨by first | rfl | (simp; done) | (simp [*]; done), by repeat (first | exact Drawn0.refl _ | apply Drawn0.step)⟩
    · rw [if_neg c3] at H
      have c3b0 : decide (a0 ≤ 90) = false := decide_eq_false c3
      clear c3
      by_cases c4 : a0 ≥ 97
      · rw [if_pos c4] at H
        have c4b0 : decide (97 ≤ a0) = true := decide_eq_true c4
        clear c4
        obtain rfl := Option.some.inj H
        go_enter Tryz.func86, Tryz.ntmps86
        go_wp2
        go_ret
        exact ⟨by first | rfl | (simp; done) | (simp [*]; done), by repeat (first | exact Drawn0.refl _ | apply Drawn0.step)⟩
      · rw [if_neg c4] at H
        have c4b0 : decide (97 ≤ a0) = false := decide_eq_false c4
        clear c4
        obtain rfl := Option.some.inj H
        go_enter Tryz.func86, Tryz.ntmps86
        go_wp2
        go_ret
        exact ⟨by first | rfl | (simp; done) | (simp [*]; done), by repeat (first | exact Drawn0.refl _ | apply Drawn0.step)⟩
  · rw [if_neg c2] at H
    have c2b0 : decide (65 ≤ a0) = false := decide_eq_false c2
    clear c2
    by_cases c5 : a0 ≥ 97
    · rw [if_pos c5] at H
      have c5b0 : decide (97 ≤ a0) = true := decide_eq_true c5
      clear c5
      obtain rfl := Option.some.inj H
      go_enter Tryz.func86, Tryz.ntmps86
      go_wp2
      go_ret
      exact ⟨by first | rfl | (simp; done) | (simp [*]; done), by repeat (first | exact Drawn0.refl _ | apply Drawn0.step)⟩
    · rw [if_neg c5] at H
      have c5b0 : decide (97 ≤ a0) = false := decide_eq_false c5
      clear c5
      obtain rfl := Option.some.inj H
      go_enter Tryz.func86, Tryz.ntmps86
      go_wp2
      go_ret
      exact ⟨by first | rfl | (simp; done) | (simp [*]; done), by repeat (first | exact Drawn0.refl _ | apply Drawn0.step)⟩
def dimension_digit.f (a0 : Int) : Option (Bool) := if a0 ≥ 48 then (some (decide (a0 ≤ 57))) else (some false)
set_option maxHeartbeats 8000000 in
set_option maxRecDepth 100000 in
theorem dimension_digit.calls (a0 : Int) (r : Bool) (w : World) (h : dimension_digit.f a0 = some r) :
    Calls Tryz.prog 87 #[.int .u8 a0] w fun e w' => e = .returned (.bool r) ∧ Drawn0 w w' := by
  have H : (if a0 ≥ 48 then (some (decide (a0 ≤ 57))) else (some false)) = some r := h
  clear h
  by_cases c2 : a0 ≥ 48
  · rw [if_pos c2] at H
    have c2b0 : decide (48 ≤ a0) = true := decide_eq_true c2
    clear c2
    obtain rfl := Option.some.inj H
    go_enter Tryz.func87, Tryz.ntmps87
    go_wp2
    go_ret
    exact ⟨by first | rfl | (simp; done) | (simp [*]; done), by repeat (first | exact Drawn0.refl _ | apply Drawn0.step)⟩
  · rw [if_neg c2] at H
    have c2b0 : decide (48 ≤ a0) = false := decide_eq_false c2
    clear c2
    obtain rfl := Option.some.inj H
    go_enter Tryz.func87, Tryz.ntmps87
    go_wp2
    go_ret
    exact ⟨by first | rfl | (simp; done) | (simp [*]; done), by repeat (first | exact Drawn0.refl _ | apply Drawn0.step)⟩
def dimension_ranged.f (a0 : Int) : Option (Bool) := if a0 ≥ (-100000) then (some (decide (a0 ≤ 100000))) else (some false)
set_option maxHeartbeats 8000000 in
set_option maxRecDepth 100000 in
theorem dimension_ranged.calls (a0 : Int) (r : Bool) (w : World) (h : dimension_ranged.f a0 = some r) :
    Calls Tryz.prog 109 #[.int .i64 a0] w fun e w' => e = .returned (.bool r) ∧ Drawn0 w w' := by
  have H : (if a0 ≥ (-100000) then (some (decide (a0 ≤ 100000))) else (some false)) = some r := h
  clear h
  by_cases c2 : a0 ≥ (-100000)
  · rw [if_pos c2] at H
    have c2b0 : decide ((-100000) ≤ a0) = true := decide_eq_true c2
    clear c2
    obtain rfl := Option.some.inj H
    go_enter Tryz.func109, Tryz.ntmps109
    go_wp2
    go_ret
    exact ⟨by first | rfl | (simp; done) | (simp [*]; done), by repeat (first | exact Drawn0.refl _ | apply Drawn0.step)⟩
  · rw [if_neg c2] at H
    have c2b0 : decide ((-100000) ≤ a0) = false := decide_eq_false c2
    clear c2
    obtain rfl := Option.some.inj H
    go_enter Tryz.func109, Tryz.ntmps109
    go_wp2
    go_ret
    exact ⟨by first | rfl | (simp; done) | (simp [*]; done), by repeat (first | exact Drawn0.refl _ | apply Drawn0.step)⟩
def dimension_Check.j0 : Nat → Bool → Int → Int → Option (Int)
  | 0, _, _, _ => none
  | k + 1, x3, x102000, x102001 => if x3 = true then (some 2) else (if x102000 > x102001 then (some 9) else (some 0))
def dimension_Check.f (k : Nat) (a0_0 : Int) (a0_1 : Int) : Option (Int) := (dimension_ranged.f a0_0).bind fun t102 => (if t102 = true then ((dimension_ranged.f a0_1).bind fun t103 => (dimension_Check.j0 k (!t103) a0_0 a0_1)) else (dimension_Check.j0 k true a0_0 a0_1))
theorem dimension_Check.mono_l : ∀ k, (∀ y0 y1 y2, LeO (dimension_Check.j0 k y0 y1 y2) (dimension_Check.j0 (k + 1) y0 y1 y2))
  | 0 => fun _ _ _ r h => by simp [dimension_Check.j0] at h
  | k + 1 => by
    have ih0 := dimension_Check.mono_l k
    · intro y0 y1 y2
      unfold dimension_Check.j0
      repeat' first
      | (with_reducible exact ih0 _ _ _)
      | (with_reducible exact LeO.refl _)
      | (with_reducible exact LeO.none _)
      | (with_reducible refine LeO.ite ?_ ?_)
      | (with_reducible refine LeO.bind ?_ (fun _ => ?_))
      | exact ih0 _ _ _
      | exact LeO.none _
      | refine LeO.ite ?_ ?_
      | refine LeO.bind ?_ (fun _ => ?_)
theorem dimension_Check.mono : ∀ a0 a1 k, LeO (dimension_Check.f k a0 a1) (dimension_Check.f (k + 1) a0 a1) := by
  intro a0 a1 k
  have ih0 := dimension_Check.mono_l k
  unfold dimension_Check.f
  repeat' first
      | (with_reducible exact ih0 _ _ _)
      | (with_reducible exact LeO.refl _)
      | (with_reducible exact LeO.none _)
      | (with_reducible refine LeO.ite ?_ ?_)
      | (with_reducible refine LeO.bind ?_ (fun _ => ?_))
      | exact ih0 _ _ _
      | exact LeO.none _
      | refine LeO.ite ?_ ?_
      | refine LeO.bind ?_ (fun _ => ?_)
set_option maxHeartbeats 8000000 in
set_option maxRecDepth 100000 in
theorem dimension_Check.calls (k : Nat) (a0_0 : Int) (a0_1 : Int) (r : Int) (w : World) (h : dimension_Check.f k a0_0 a0_1 = some r) :
    Calls Tryz.prog 77 #[.agg #[.int .i64 a0_0, .int .i64 a0_1]] w fun e w' => e = .returned (.int .i64 r) ∧ Below w.heap.size w w' := by
  have hu25 := Tryz.underlying25
  have HB := Aside0.mk (Below.refl w.heap.size w)
  have H : ((dimension_ranged.f a0_0).bind fun t102 => (if t102 = true then ((dimension_ranged.f a0_1).bind fun t103 => (dimension_Check.j0 k (!t103) a0_0 a0_1)) else (dimension_Check.j0 k true a0_0 a0_1))) = some r := h
  clear h
  have HC2 := Aside0.mk H
  clear H
  go_enter Tryz.func77, Tryz.ntmps77
  go_upto_region 1 with (first | ((with_reducible refine gate_dst (N := 1) rfl ?_); refine box_event ?hg (N := 1) ?hd (cs := #[.int .i64 a0_0, .int .i64 a0_1]) (t := 25) ?hr ?_; (case hd => rfl); (case hg => rfl); (case hr => first | (go_simp; done) | (go_simp; rfl)); intro gb101 hg w3 hbox hb; have n0_ := Aside0.mk (below_step (by repeat (first | (with_reducible first | exact HB.out | apply below_alloc | apply pw_below_drewN | apply below_drew1) | exact HB.out)) hb); have n1_ := Aside0.mk (hbox); have n2_ := Aside0.mk ((by rw [hg]; exact (below_size (by repeat (first | (with_reducible first | exact HB.out | apply below_alloc | apply pw_below_drewN | apply below_drew1) | exact HB.out))) : w.heap.size ≤ gb101)); have n3_ := Aside0.mk ((by rw [hg]; exact (below_size (by repeat (first | (with_reducible first | exact HB.out | apply below_alloc | apply pw_below_drewN | apply below_drew1) | exact HB.out))) : w.heap.size ≤ gb101)); clear HB; have HB := n0_; have BK101 := n1_; have GW101 := n2_; have GE101 := n3_; clear n0_ n1_ n2_ n3_; clear hb hbox hg))
  (try simp only [Act.put, List.setIfInBounds_toArray, List.set_cons_zero, List.set_cons_succ])
  go_cut [3] (fun v3 wc => ∃ (kq : Nat) (x3_1 : Bool), v3 = .bool x3_1 ∧ Aside0 (dimension_Check.j0 kq x3_1 a0_0 a0_1 = some r) ∧ Aside0 (kq ≤ k) ∧ Aside0 (wc.heap[gb101]? = some (.cells #[.int .i64 a0_0, .int .i64 a0_1] 25 (0, 0))) ∧ Aside0 (Below w.heap.size w wc))
  case first =>
    have H := HC2.out
    clear HC2
    replace H := Option.bind_eq_some_iff.mp H
    obtain ⟨t102, A40, H⟩ := H
    replace H : (if t102 = true then ((dimension_ranged.f a0_1).bind fun t103 => (dimension_Check.j0 k (!t103) a0_0 a0_1)) else (dimension_Check.j0 k true a0_0 a0_1)) = some r := H
    have A4 := Aside0.mk A40
    clear A40
    by_cases c5 : t102 = true
    · subst c5
      have H1 : ((dimension_ranged.f a0_1).bind fun t103 => (dimension_Check.j0 k (!t103) a0_0 a0_1)) = some r := by rw [if_pos rfl] at H; exact H
      clear H
      have H := H1
      clear H1
      replace H := Option.bind_eq_some_iff.mp H
      obtain ⟨t103, A60, H⟩ := H
      replace H : (dimension_Check.j0 k (!t103) a0_0 a0_1) = some r := H
      have A6 := Aside0.mk A60
      clear A60
      have H' := Aside0.mk H
      clear H
      have hcz7_0 : w3.cell? ⟨gb101, 0, none⟩ = some (.int .i64 a0_0) := (blk_cell BK101.out 0).trans rfl
      have hcz7_1 : w3.cell? ⟨gb101, 1, none⟩ = some (.int .i64 a0_1) := (blk_cell BK101.out 1).trans rfl
      have hfz7_0 := blk_frozen BK101.out 0
      have hfz7_1 := blk_frozen BK101.out 1
      go_wp2_with (first | ((with_reducible refine gate_callee (f := 109) rfl ?_); refine goesL_ (some 6) rfl rfl Tryz.func109 (by kernel_rfl) rfl #[.int .i64 a0_0] rfl (by (try simp only [List.map_toArray, List.map_cons, List.map_nil]); first | done | rfl | (simp only [List.length_drop, List.length_take]; rfl)) ?_; (with_reducible refine (dimension_ranged.calls a0_0 true _ A4.out).mono ?_); rintro e w' ⟨rfl, ⟨nd, rfl⟩⟩; refine ⟨_, rfl, ?_⟩) | (go_at_call 109; (with_reducible refine (dimension_ranged.calls a0_1 t103 _ A6.out).mono ?_); rintro e w' ⟨rfl, ⟨nd, rfl⟩⟩))
      go_meet
      case rel => exact ⟨_, (!t103), (by first | rfl | exact congrArg Value.bool (not_empty _) | exact congrArg Value.bool (is_empty _) | (simp; done) | (simp [*]; done)), H', ⟨by first | omega | exact Nat.le_refl _⟩, ⟨by (with_reducible repeat (first | refine blk_drewN ?_ _ | refine blk_drew ?_ | refine blk_alloc ?_ _)); exact BK101.out⟩, ⟨by repeat (first | (with_reducible first | exact HB.out | apply below_alloc | apply pw_below_drewN | apply below_drew1 | refine below_set ?_ GE101.out) | exact HB.out)⟩⟩
    · replace c5 := Bool.eq_false_iff.mpr c5
      subst c5
      have H1 : (dimension_Check.j0 k true a0_0 a0_1) = some r := by rw [if_neg (show ¬ (false = true) by decide)] at H; exact H
      clear H
      have H := H1
      clear H1
      have H' := Aside0.mk H
      clear H
      have hcz8_0 : w3.cell? ⟨gb101, 0, none⟩ = some (.int .i64 a0_0) := (blk_cell BK101.out 0).trans rfl
      have hcz8_1 : w3.cell? ⟨gb101, 1, none⟩ = some (.int .i64 a0_1) := (blk_cell BK101.out 1).trans rfl
      have hfz8_0 := blk_frozen BK101.out 0
      have hfz8_1 := blk_frozen BK101.out 1
      go_wp2_with (first | ((with_reducible refine gate_callee (f := 109) rfl ?_); refine goesL_ (some 6) rfl rfl Tryz.func109 (by kernel_rfl) rfl #[.int .i64 a0_0] rfl (by (try simp only [List.map_toArray, List.map_cons, List.map_nil]); first | done | rfl | (simp only [List.length_drop, List.length_take]; rfl)) ?_; (with_reducible refine (dimension_ranged.calls a0_0 false _ A4.out).mono ?_); rintro e w' ⟨rfl, ⟨nd, rfl⟩⟩; refine ⟨_, rfl, ?_⟩))
      go_meet
      case rel => exact ⟨_, (true), (by first | rfl | exact congrArg Value.bool (not_empty _) | exact congrArg Value.bool (is_empty _) | (simp; done) | (simp [*]; done)), H', ⟨by first | omega | exact Nat.le_refl _⟩, ⟨by (with_reducible repeat (first | refine blk_drewN ?_ _ | refine blk_drew ?_ | refine blk_alloc ?_ _)); exact BK101.out⟩, ⟨by repeat (first | (with_reducible first | exact HB.out | apply below_alloc | apply pw_below_drewN | apply below_drew1 | refine below_set ?_ GE101.out) | exact HB.out)⟩⟩
  case rest =>
    clear HC2
    try clear c1
    try clear p2
    try clear c5
    try clear c7
    try clear hcz7_0
    try clear hcz7_1
    try clear hcz8_0
    try clear hcz8_1
    try clear hfz7_0
    try clear hfz7_1
    try clear hfz8_0
    try clear hfz8_1
    obtain ⟨kq, x3_1, rfl, HA, HJ1, BK101, HB⟩ := hcut
    cases kq with
    | zero => exact absurd HA.out (by simp [dimension_Check.j0])
    | succ kj1 =>
      have H := HA.out
      clear HA
      simp only [dimension_Check.j0] at H
      by_cases c9 : x3_1 = true
      · subst c9
        have H1 : (some 2) = some r := by rw [if_pos rfl] at H; exact H
        clear H
        have H := H1
        clear H1
        obtain rfl := Option.some.inj H
        go_wp2
        go_ret
        exact ⟨by first | rfl | (simp [errW_none, errW_some] <;> rfl) | (simp [*, errW_none, errW_some] <;> rfl), by repeat (first | (with_reducible first | exact HB.out | apply below_alloc | apply pw_below_drewN | apply below_drew1 | refine below_set ?_ GE101.out) | exact HB.out)⟩
      · replace c9 := Bool.eq_false_iff.mpr c9
        subst c9
        have H1 : (if a0_0 > a0_1 then (some 9) else (some 0)) = some r := by rw [if_neg (show ¬ (false = true) by decide)] at H; exact H
        clear H
        have H := H1
        clear H1
        by_cases c10 : a0_0 > a0_1
        · rw [if_pos c10] at H
          have c10b0 : decide (a0_1 < a0_0) = true := decide_eq_true c10
          clear c10
          obtain rfl := Option.some.inj H
          have hcz11_0 : wc.cell? ⟨gb101, 0, none⟩ = some (.int .i64 a0_0) := (blk_cell BK101.out 0).trans rfl
          have hcz11_1 : wc.cell? ⟨gb101, 1, none⟩ = some (.int .i64 a0_1) := (blk_cell BK101.out 1).trans rfl
          have hfz11_0 := blk_frozen BK101.out 0
          have hfz11_1 := blk_frozen BK101.out 1
          go_wp2
          go_ret
          exact ⟨by first | rfl | (simp [errW_none, errW_some] <;> rfl) | (simp [*, errW_none, errW_some] <;> rfl), by repeat (first | (with_reducible first | exact HB.out | apply below_alloc | apply pw_below_drewN | apply below_drew1 | refine below_set ?_ GE101.out) | exact HB.out)⟩
        · rw [if_neg c10] at H
          have c10b0 : decide (a0_1 < a0_0) = false := decide_eq_false c10
          clear c10
          obtain rfl := Option.some.inj H
          have hcz12_0 : wc.cell? ⟨gb101, 0, none⟩ = some (.int .i64 a0_0) := (blk_cell BK101.out 0).trans rfl
          have hcz12_1 : wc.cell? ⟨gb101, 1, none⟩ = some (.int .i64 a0_1) := (blk_cell BK101.out 1).trans rfl
          have hfz12_0 := blk_frozen BK101.out 0
          have hfz12_1 := blk_frozen BK101.out 1
          go_wp2
          go_ret
          exact ⟨by first | rfl | (simp [errW_none, errW_some] <;> rfl) | (simp [*, errW_none, errW_some] <;> rfl), by repeat (first | (with_reducible first | exact HB.out | apply below_alloc | apply pw_below_drewN | apply below_drew1 | refine below_set ?_ GE101.out) | exact HB.out)⟩
def feature_in.f (a0 : Int) : Option (Bool) := if a0 ≥ (-100000) then (some (decide (a0 ≤ 100000))) else (some false)
set_option maxHeartbeats 8000000 in
set_option maxRecDepth 100000 in
theorem feature_in.calls (a0 : Int) (r : Bool) (w : World) (h : feature_in.f a0 = some r) :
    Calls Tryz.prog 108 #[.int .i64 a0] w fun e w' => e = .returned (.bool r) ∧ Drawn0 w w' := by
  have H : (if a0 ≥ (-100000) then (some (decide (a0 ≤ 100000))) else (some false)) = some r := h
  clear h
  by_cases c2 : a0 ≥ (-100000)
  · rw [if_pos c2] at H
    have c2b0 : decide ((-100000) ≤ a0) = true := decide_eq_true c2
    clear c2
    obtain rfl := Option.some.inj H
    go_enter Tryz.func108, Tryz.ntmps108
    go_wp2
    go_ret
    exact ⟨by first | rfl | (simp; done) | (simp [*]; done), by repeat (first | exact Drawn0.refl _ | apply Drawn0.step)⟩
  · rw [if_neg c2] at H
    have c2b0 : decide ((-100000) ≤ a0) = false := decide_eq_false c2
    clear c2
    obtain rfl := Option.some.inj H
    go_enter Tryz.func108, Tryz.ntmps108
    go_wp2
    go_ret
    exact ⟨by first | rfl | (simp; done) | (simp [*]; done), by repeat (first | exact Drawn0.refl _ | apply Drawn0.step)⟩
def feature_ranged.f (a0_0 : Int) (a0_1 : Int) (a0_2 : Int) : Option (Bool) := (feature_in.f a0_0).bind fun t105 => (if t105 = true then ((feature_in.f a0_1).bind fun t106 => (if t106 = true then ((feature_in.f a0_2).bind fun t107 => (some t107)) else (some false))) else (some false))
set_option maxHeartbeats 8000000 in
set_option maxRecDepth 100000 in
theorem feature_ranged.calls (a0_0 : Int) (a0_1 : Int) (a0_2 : Int) (r : Bool) (w : World) (h : feature_ranged.f a0_0 a0_1 a0_2 = some r) :
    Calls Tryz.prog 76 #[.agg #[.int .i64 a0_0, .int .i64 a0_1, .int .i64 a0_2]] w fun e w' => e = .returned (.bool r) ∧ Below w.heap.size w w' := by
  have hu23 := Tryz.underlying23
  have HB := Aside0.mk (Below.refl w.heap.size w)
  have H : ((feature_in.f a0_0).bind fun t105 => (if t105 = true then ((feature_in.f a0_1).bind fun t106 => (if t106 = true then ((feature_in.f a0_2).bind fun t107 => (some t107)) else (some false))) else (some false))) = some r := h
  clear h
  replace H := Option.bind_eq_some_iff.mp H
  obtain ⟨t105, A20, H⟩ := H
  replace H : (if t105 = true then ((feature_in.f a0_1).bind fun t106 => (if t106 = true then ((feature_in.f a0_2).bind fun t107 => (some t107)) else (some false))) else (some false)) = some r := H
  have A2 := Aside0.mk A20
  clear A20
  by_cases c3 : t105 = true
  · subst c3
    have H1 : ((feature_in.f a0_1).bind fun t106 => (if t106 = true then ((feature_in.f a0_2).bind fun t107 => (some t107)) else (some false))) = some r := by rw [if_pos rfl] at H; exact H
    clear H
    have H := H1
    clear H1
    replace H := Option.bind_eq_some_iff.mp H
    obtain ⟨t106, A40, H⟩ := H
    replace H : (if t106 = true then ((feature_in.f a0_2).bind fun t107 => (some t107)) else (some false)) = some r := H
    have A4 := Aside0.mk A40
    clear A40
    by_cases c5 : t106 = true
    · subst c5
      have H1 : ((feature_in.f a0_2).bind fun t107 => (some t107)) = some r := by rw [if_pos rfl] at H; exact H
      clear H
      have H := H1
      clear H1
      replace H := Option.bind_eq_some_iff.mp H
      obtain ⟨t107, A60, H⟩ := H
      replace H : (some t107) = some r := H
      have A6 := Aside0.mk A60
      clear A60
      obtain rfl := Option.some.inj H
      go_enter Tryz.func76, Tryz.ntmps76
      go_wp2_with (first | ((with_reducible refine gate_dst (N := 1) rfl ?_); refine box_event ?hg (N := 1) ?hd (cs := #[.int .i64 a0_0, .int .i64 a0_1, .int .i64 a0_2]) (t := 23) ?hr ?_; (case hd => rfl); (case hg => rfl); (case hr => first | (go_simp; done) | (go_simp; rfl)); intro gb104 hg w7 hbox hb; have n0_ := Aside0.mk (below_step (by repeat (first | (with_reducible first | exact HB.out | apply below_alloc | apply pw_below_drewN | apply below_drew1) | exact HB.out)) hb); have n1_ := Aside0.mk (hbox); have n2_ := Aside0.mk ((by rw [hg]; exact (below_size (by repeat (first | (with_reducible first | exact HB.out | apply below_alloc | apply pw_below_drewN | apply below_drew1) | exact HB.out))) : w.heap.size ≤ gb104)); have n3_ := Aside0.mk ((by rw [hg]; exact (below_size (by repeat (first | (with_reducible first | exact HB.out | apply below_alloc | apply pw_below_drewN | apply below_drew1) | exact HB.out))) : w.heap.size ≤ gb104)); clear HB; have HB := n0_; have BK104 := n1_; have GW104 := n2_; have GE104 := n3_; clear n0_ n1_ n2_ n3_; clear hb hbox hg; have hcz8_0 : w7.cell? ⟨gb104, 0, none⟩ = some (.int .i64 a0_0) := (blk_cell BK104.out 0).trans rfl; have hcz8_1 : w7.cell? ⟨gb104, 1, none⟩ = some (.int .i64 a0_1) := (blk_cell BK104.out 1).trans rfl; have hcz8_2 : w7.cell? ⟨gb104, 2, none⟩ = some (.int .i64 a0_2) := (blk_cell BK104.out 2).trans rfl; have hfz8_0 := blk_frozen BK104.out 0; have hfz8_1 := blk_frozen BK104.out 1; have hfz8_2 := blk_frozen BK104.out 2) | ((with_reducible refine gate_callee (f := 108) rfl ?_); refine goesL_ (some 5) rfl rfl Tryz.func108 (by kernel_rfl) rfl #[.int .i64 a0_0] rfl (by (try simp only [List.map_toArray, List.map_cons, List.map_nil]); first | done | rfl | (simp only [List.length_drop, List.length_take]; rfl)) ?_; (with_reducible refine (feature_in.calls a0_0 true _ A2.out).mono ?_); rintro e w' ⟨rfl, ⟨nd, rfl⟩⟩; refine ⟨_, rfl, ?_⟩) | (go_at_call 108; (with_reducible refine (feature_in.calls a0_1 true _ A4.out).mono ?_); rintro e w' ⟨rfl, ⟨nd, rfl⟩⟩) | (go_at_call 108; (with_reducible refine (feature_in.calls a0_2 t107 _ A6.out).mono ?_); rintro e w' ⟨rfl, ⟨nd, rfl⟩⟩))
      go_ret
      exact ⟨by first | rfl | (simp [errW_none, errW_some] <;> rfl) | (simp [*, errW_none, errW_some] <;> rfl), by repeat (first | (with_reducible first | exact HB.out | apply below_alloc | apply pw_below_drewN | apply below_drew1 | refine below_set ?_ GE104.out) | exact HB.out)⟩
    · replace c5 := Bool.eq_false_iff.mpr c5
      subst c5
      have H1 : (some false) = some r := by rw [if_neg (show ¬ (false = true) by decide)] at H; exact H
      clear H
      have H := H1
      clear H1
      obtain rfl := Option.some.inj H
      go_enter Tryz.func76, Tryz.ntmps76
      go_wp2_with (first | ((with_reducible refine gate_dst (N := 1) rfl ?_); refine box_event ?hg (N := 1) ?hd (cs := #[.int .i64 a0_0, .int .i64 a0_1, .int .i64 a0_2]) (t := 23) ?hr ?_; (case hd => rfl); (case hg => rfl); (case hr => first | (go_simp; done) | (go_simp; rfl)); intro gb104 hg w9 hbox hb; have n0_ := Aside0.mk (below_step (by repeat (first | (with_reducible first | exact HB.out | apply below_alloc | apply pw_below_drewN | apply below_drew1) | exact HB.out)) hb); have n1_ := Aside0.mk (hbox); have n2_ := Aside0.mk ((by rw [hg]; exact (below_size (by repeat (first | (with_reducible first | exact HB.out | apply below_alloc | apply pw_below_drewN | apply below_drew1) | exact HB.out))) : w.heap.size ≤ gb104)); have n3_ := Aside0.mk ((by rw [hg]; exact (below_size (by repeat (first | (with_reducible first | exact HB.out | apply below_alloc | apply pw_below_drewN | apply below_drew1) | exact HB.out))) : w.heap.size ≤ gb104)); clear HB; have HB := n0_; have BK104 := n1_; have GW104 := n2_; have GE104 := n3_; clear n0_ n1_ n2_ n3_; clear hb hbox hg; have hcz10_0 : w9.cell? ⟨gb104, 0, none⟩ = some (.int .i64 a0_0) := (blk_cell BK104.out 0).trans rfl; have hcz10_1 : w9.cell? ⟨gb104, 1, none⟩ = some (.int .i64 a0_1) := (blk_cell BK104.out 1).trans rfl; have hcz10_2 : w9.cell? ⟨gb104, 2, none⟩ = some (.int .i64 a0_2) := (blk_cell BK104.out 2).trans rfl; have hfz10_0 := blk_frozen BK104.out 0; have hfz10_1 := blk_frozen BK104.out 1; have hfz10_2 := blk_frozen BK104.out 2) | ((with_reducible refine gate_callee (f := 108) rfl ?_); refine goesL_ (some 5) rfl rfl Tryz.func108 (by kernel_rfl) rfl #[.int .i64 a0_0] rfl (by (try simp only [List.map_toArray, List.map_cons, List.map_nil]); first | done | rfl | (simp only [List.length_drop, List.length_take]; rfl)) ?_; (with_reducible refine (feature_in.calls a0_0 true _ A2.out).mono ?_); rintro e w' ⟨rfl, ⟨nd, rfl⟩⟩; refine ⟨_, rfl, ?_⟩) | (go_at_call 108; (with_reducible refine (feature_in.calls a0_1 false _ A4.out).mono ?_); rintro e w' ⟨rfl, ⟨nd, rfl⟩⟩))
      go_ret
      exact ⟨by first | rfl | (simp [errW_none, errW_some] <;> rfl) | (simp [*, errW_none, errW_some] <;> rfl), by repeat (first | (with_reducible first | exact HB.out | apply below_alloc | apply pw_below_drewN | apply below_drew1 | refine below_set ?_ GE104.out) | exact HB.out)⟩
  · replace c3 := Bool.eq_false_iff.mpr c3
    subst c3
    have H1 : (some false) = some r := by rw [if_neg (show ¬ (false = true) by decide)] at H; exact H
    clear H
    have H := H1
    clear H1
    obtain rfl := Option.some.inj H
    go_enter Tryz.func76, Tryz.ntmps76
    go_wp2_with (first | ((with_reducible refine gate_dst (N := 1) rfl ?_); refine box_event ?hg (N := 1) ?hd (cs := #[.int .i64 a0_0, .int .i64 a0_1, .int .i64 a0_2]) (t := 23) ?hr ?_; (case hd => rfl); (case hg => rfl); (case hr => first | (go_simp; done) | (go_simp; rfl)); intro gb104 hg w11 hbox hb; have n0_ := Aside0.mk (below_step (by repeat (first | (with_reducible first | exact HB.out | apply below_alloc | apply pw_below_drewN | apply below_drew1) | exact HB.out)) hb); have n1_ := Aside0.mk (hbox); have n2_ := Aside0.mk ((by rw [hg]; exact (below_size (by repeat (first | (with_reducible first | exact HB.out | apply below_alloc | apply pw_below_drewN | apply below_drew1) | exact HB.out))) : w.heap.size ≤ gb104)); have n3_ := Aside0.mk ((by rw [hg]; exact (below_size (by repeat (first | (with_reducible first | exact HB.out | apply below_alloc | apply pw_below_drewN | apply below_drew1) | exact HB.out))) : w.heap.size ≤ gb104)); clear HB; have HB := n0_; have BK104 := n1_; have GW104 := n2_; have GE104 := n3_; clear n0_ n1_ n2_ n3_; clear hb hbox hg; have hcz12_0 : w11.cell? ⟨gb104, 0, none⟩ = some (.int .i64 a0_0) := (blk_cell BK104.out 0).trans rfl; have hcz12_1 : w11.cell? ⟨gb104, 1, none⟩ = some (.int .i64 a0_1) := (blk_cell BK104.out 1).trans rfl; have hcz12_2 : w11.cell? ⟨gb104, 2, none⟩ = some (.int .i64 a0_2) := (blk_cell BK104.out 2).trans rfl; have hfz12_0 := blk_frozen BK104.out 0; have hfz12_1 := blk_frozen BK104.out 1; have hfz12_2 := blk_frozen BK104.out 2) | ((with_reducible refine gate_callee (f := 108) rfl ?_); refine goesL_ (some 5) rfl rfl Tryz.func108 (by kernel_rfl) rfl #[.int .i64 a0_0] rfl (by (try simp only [List.map_toArray, List.map_cons, List.map_nil]); first | done | rfl | (simp only [List.length_drop, List.length_take]; rfl)) ?_; (with_reducible refine (feature_in.calls a0_0 false _ A2.out).mono ?_); rintro e w' ⟨rfl, ⟨nd, rfl⟩⟩; refine ⟨_, rfl, ?_⟩))
    go_ret
    exact ⟨by first | rfl | (simp [errW_none, errW_some] <;> rfl) | (simp [*, errW_none, errW_some] <;> rfl), by repeat (first | (with_reducible first | exact HB.out | apply below_alloc | apply pw_below_drewN | apply below_drew1 | refine below_set ?_ GE104.out) | exact HB.out)⟩
def feature_inner.f (a0 : Int) : Option (Bool) := if a0 = 1 then (some true) else (some (a0 == 3))
set_option maxHeartbeats 8000000 in
set_option maxRecDepth 100000 in
theorem feature_inner.calls (a0 : Int) (r : Bool) (w : World) (h : feature_inner.f a0 = some r) :
    Calls Tryz.prog 56 #[.int .i64 a0] w fun e w' => e = .returned (.bool r) ∧ Drawn0 w w' := by
  have H : (if a0 = 1 then (some true) else (some (a0 == 3))) = some r := h
  clear h
  by_cases c2 : a0 = 1
  · rw [if_pos c2] at H
    have c2b0 : (a0 == 1) = true := beq_iff_eq.mpr c2
    have c2b1 : (a0 != 1) = false := bne_eq_false_iff_eq.mpr c2
    clear c2
    obtain rfl := Option.some.inj H
    go_enter Tryz.func56, Tryz.ntmps56
    go_wp2
    go_ret
    exact ⟨by first | rfl | (simp; done) | (simp [*]; done), by repeat (first | exact Drawn0.refl _ | apply Drawn0.step)⟩
  · rw [if_neg c2] at H
    have c2b0 : (a0 == 1) = false := beq_eq_false_iff_ne.mpr c2
    have c2b1 : (a0 != 1) = true := bne_iff_ne.mpr c2
    obtain rfl := Option.some.inj H
    go_enter Tryz.func56, Tryz.ntmps56
    go_wp2
    go_ret
    exact ⟨by first | rfl | (simp; done) | (simp [*]; done), by repeat (first | exact Drawn0.refl _ | apply Drawn0.step)⟩
def frame_condition.f (a0 : Int) : Option (Int) := if a0 < 0 then (some 1) else (if a0 ≥ 3 then (some 1) else (some 0))
set_option maxHeartbeats 8000000 in
set_option maxRecDepth 100000 in
theorem frame_condition.calls (a0 : Int) (r : Int) (w : World) (h : frame_condition.f a0 = some r) :
    Calls Tryz.prog 47 #[.int .i64 a0] w fun e w' => e = .returned (.int .i64 r) ∧ Drawn0 w w' := by
  have H : (if a0 < 0 then (some 1) else (if a0 ≥ 3 then (some 1) else (some 0))) = some r := h
  clear h
  by_cases c2 : a0 < 0
  · rw [if_pos c2] at H
    have c2b0 : decide (a0 < 0) = true := decide_eq_true c2
    clear c2
    obtain rfl := Option.some.inj H
    go_enter Tryz.func47, Tryz.ntmps47
    go_wp2
    go_ret
    exact ⟨by first | rfl | (simp; done) | (simp [*]; done), by repeat (first | exact Drawn0.refl _ | apply Drawn0.step)⟩
  · rw [if_neg c2] at H
    have c2b0 : decide (a0 < 0) = false := decide_eq_false c2
    clear c2
    by_cases c3 : a0 ≥ 3
    · rw [if_pos c3] at H
      have c3b0 : decide (3 ≤ a0) = true := decide_eq_true c3
      clear c3
      obtain rfl := Option.some.inj H
      go_enter Tryz.func47, Tryz.ntmps47
      go_wp2
      go_ret
      exact ⟨by first | rfl | (simp; done) | (simp [*]; done), by repeat (first | exact Drawn0.refl _ | apply Drawn0.step)⟩
    · rw [if_neg c3] at H
      have c3b0 : decide (3 ≤ a0) = false := decide_eq_false c3
      clear c3
      obtain rfl := Option.some.inj H
      go_enter Tryz.func47, Tryz.ntmps47
      go_wp2
      go_ret
      exact ⟨by first | rfl | (simp; done) | (simp [*]; done), by repeat (first | exact Drawn0.refl _ | apply Drawn0.step)⟩
def metrolabref17_letter.f (a0 : Int) : Option (Bool) := if a0 ≥ 97 then (if a0 ≤ 122 then (some true) else (if a0 ≥ 65 then (some (decide (a0 ≤ 90))) else (some false))) else (if a0 ≥ 65 then (some (decide (a0 ≤ 90))) else (some false))
set_option maxHeartbeats 8000000 in
set_option maxRecDepth 100000 in
theorem metrolabref17_letter.calls (a0 : Int) (r : Bool) (w : World) (h : metrolabref17_letter.f a0 = some r) :
    Calls Tryz.prog 111 #[.int .u8 a0] w fun e w' => e = .returned (.bool r) ∧ Drawn0 w w' := by
  have H : (if a0 ≥ 97 then (if a0 ≤ 122 then (some true) else (if a0 ≥ 65 then (some (decide (a0 ≤ 90))) else (some false))) else (if a0 ≥ 65 then (some (decide (a0 ≤ 90))) else (some false))) = some r := h
  clear h
  by_cases c2 : a0 ≥ 97
  · rw [if_pos c2] at H
    have c2b0 : decide (97 ≤ a0) = true := decide_eq_true c2
    clear c2
    by_cases c3 : a0 ≤ 122
    · rw [if_pos c3] at H
      have c3b0 : decide (a0 ≤ 122) = true := decide_eq_true c3
      clear c3
      obtain rfl := Option.some.inj H
      go_enter Tryz.func111, Tryz.ntmps111
      go_wp2
      go_ret
      exact ⟨by first | rfl | (simp; done) | (simp [*]; done), by repeat (first | exact Drawn0.refl _ | apply Drawn0.step)⟩
    · rw [if_neg c3] at H
      have c3b0 : decide (a0 ≤ 122) = false := decide_eq_false c3
      clear c3
      by_cases c4 : a0 ≥ 65
      · rw [if_pos c4] at H
        have c4b0 : decide (65 ≤ a0) = true := decide_eq_true c4
        clear c4
        obtain rfl := Option.some.inj H
        go_enter Tryz.func111, Tryz.ntmps111
        go_wp2
        go_ret
        exact ⟨by first | rfl | (simp; done) | (simp [*]; done), by repeat (first | exact Drawn0.refl _ | apply Drawn0.step)⟩
      · rw [if_neg c4] at H
        have c4b0 : decide (65 ≤ a0) = false := decide_eq_false c4
        clear c4
        obtain rfl := Option.some.inj H
        go_enter Tryz.func111, Tryz.ntmps111
        go_wp2
        go_ret
        exact ⟨by first | rfl | (simp; done) | (simp [*]; done), by repeat (first | exact Drawn0.refl _ | apply Drawn0.step)⟩
  · rw [if_neg c2] at H
    have c2b0 : decide (97 ≤ a0) = false := decide_eq_false c2
    clear c2
    by_cases c5 : a0 ≥ 65
    · rw [if_pos c5] at H
      have c5b0 : decide (65 ≤ a0) = true := decide_eq_true c5
      clear c5
      obtain rfl := Option.some.inj H
      go_enter Tryz.func111, Tryz.ntmps111
      go_wp2
      go_ret
      exact ⟨by first | rfl | (simp; done) | (simp [*]; done), by repeat (first | exact Drawn0.refl _ | apply Drawn0.step)⟩
    · rw [if_neg c5] at H
      have c5b0 : decide (65 ≤ a0) = false := decide_eq_false c5
      clear c5
      obtain rfl := Option.some.inj H
      go_enter Tryz.func111, Tryz.ntmps111
      go_wp2
      go_ret
      exact ⟨by first | rfl | (simp; done) | (simp [*]; done), by repeat (first | exact Drawn0.refl _ | apply Drawn0.step)⟩
mutual
def metrolabref17_Name.j0 : Nat → ByteArray → Bool → Option (Int)
  | 0, _, _ => none
  | k + 1, x0, x15 => if x15 = true then (some 3) else (metrolabref17_Name.l0 k x0 0)
def metrolabref17_Name.l0 : Nat → ByteArray → Int → Option (Int)
  | 0, _, _ => none
  | k + 1, x0, x3 => if x3 < (x0.size : Int) then (if 0 ≤ x3 then ((metrolabref17_letter.f (bt x0 x3)).bind fun t109 => (if t109 = true then (metrolabref17_Name.l0 k x0 (wrap64 (x3 + 1))) else (if (bt x0 x3) < 48 then (some 3) else (if (bt x0 x3) > 57 then (some 3) else (metrolabref17_Name.l0 k x0 (wrap64 (x3 + 1))))))) else (none)) else (some 0)
end
def metrolabref17_Name.f (k : Nat) (a0 : ByteArray) : Option (Int) := if (a0.size : Int) > 24 then (some 17) else (if (a0.size : Int) = 0 then (metrolabref17_Name.j0 k a0 true) else (if 0 < (a0.size : Int) then ((metrolabref17_letter.f (bt a0 0)).bind fun t108 => (metrolabref17_Name.j0 k a0 (!t108))) else (none)))
theorem metrolabref17_Name.mono_l : ∀ k, (∀ y0 y1, LeO (metrolabref17_Name.j0 k y0 y1) (metrolabref17_Name.j0 (k + 1) y0 y1)) ∧ (∀ y0 y1, LeO (metrolabref17_Name.l0 k y0 y1) (metrolabref17_Name.l0 (k + 1) y0 y1))
  | 0 => ⟨fun _ _ r h => by simp [metrolabref17_Name.j0] at h, fun _ _ r h => by simp [metrolabref17_Name.l0] at h⟩
  | k + 1 => by
    obtain ⟨ih0, ih1⟩ := metrolabref17_Name.mono_l k
    refine ⟨?_, ?_⟩
    · intro y0 y1
      unfold metrolabref17_Name.j0
      repeat' first
      | (with_reducible exact ih0 _ _)
      | (with_reducible exact ih1 _ _)
      | (with_reducible exact LeO.refl _)
      | (with_reducible exact LeO.none _)
      | (with_reducible refine LeO.ite ?_ ?_)
      | (with_reducible refine LeO.bind ?_ (fun _ => ?_))
      | exact ih0 _ _
      | exact ih1 _ _
      | exact LeO.none _
      | refine LeO.ite ?_ ?_
      | refine LeO.bind ?_ (fun _ => ?_)
    · intro y0 y1
      unfold metrolabref17_Name.l0
      repeat' first
      | (with_reducible exact ih0 _ _)
      | (with_reducible exact ih1 _ _)
      | (with_reducible exact LeO.refl _)
      | (with_reducible exact LeO.none _)
      | (with_reducible refine LeO.ite ?_ ?_)
      | (with_reducible refine LeO.bind ?_ (fun _ => ?_))
      | exact ih0 _ _
      | exact ih1 _ _
      | exact LeO.none _
      | refine LeO.ite ?_ ?_
      | refine LeO.bind ?_ (fun _ => ?_)
theorem metrolabref17_Name.mono : ∀ a0 k, LeO (metrolabref17_Name.f k a0) (metrolabref17_Name.f (k + 1) a0) := by
  intro a0 k
  obtain ⟨ih0, ih1⟩ := metrolabref17_Name.mono_l k
  unfold metrolabref17_Name.f
  repeat' first
      | (with_reducible exact ih0 _ _)
      | (with_reducible exact ih1 _ _)
      | (with_reducible exact LeO.refl _)
      | (with_reducible exact LeO.none _)
      | (with_reducible refine LeO.ite ?_ ?_)
      | (with_reducible refine LeO.bind ?_ (fun _ => ?_))
      | exact ih0 _ _
      | exact ih1 _ _
      | exact LeO.none _
      | refine LeO.ite ?_ ?_
      | refine LeO.bind ?_ (fun _ => ?_)
set_option maxHeartbeats 8000000 in
set_option maxRecDepth 100000 in
theorem metrolabref17_Name.calls (k : Nat) (a0 : ByteArray) (r : Int) (w : World) (h : metrolabref17_Name.f k a0 = some r) :
    Calls Tryz.prog 80 #[.string a0] w fun e w' => e = .returned (.int .i64 r) ∧ Drawn0 w w' := by
  have H : (if (a0.size : Int) > 24 then (some 17) else (if (a0.size : Int) = 0 then (metrolabref17_Name.j0 k a0 true) else (if 0 < (a0.size : Int) then ((metrolabref17_letter.f (bt a0 0)).bind fun t108 => (metrolabref17_Name.j0 k a0 (!t108))) else (none)))) = some r := h
  clear h
  by_cases c2 : (a0.size : Int) > 24
  · rw [if_pos c2] at H
    have c2b0 : decide (24 < (a0.size : Int)) = true := decide_eq_true c2
    have c2b1 : decide (24 < a0.size) = true := decide_eq_true (by omega)
    clear c2
    obtain rfl := Option.some.inj H
    go_enter Tryz.func80, Tryz.ntmps80
    go_wp2
    go_ret
    exact ⟨by first | rfl | (simp; done) | (simp [*]; done), by repeat (first | exact Drawn0.refl _ | apply Drawn0.step)⟩
  · rw [if_neg c2] at H
    have c2b0 : decide (24 < (a0.size : Int)) = false := decide_eq_false c2
    have c2b1 : decide (24 < a0.size) = false := decide_eq_false (by omega)
    clear c2
    have HC3 := Aside0.mk H
    clear H
    go_enter Tryz.func80, Tryz.ntmps80
    go_upto_region 3 with (fail)
    go_cut [15] (fun v15 wc => ∃ (kq : Nat) (x15_2 : Bool), v15 = .bool x15_2 ∧ Aside0 (metrolabref17_Name.j0 kq a0 x15_2 = some r) ∧ Aside0 (kq ≤ k) ∧ Drawn0 w wc)
    case first =>
      have H := HC3.out
      clear HC3
      by_cases c4 : (a0.size : Int) = 0
      · rw [if_pos c4] at H
        have c4b0 : ((a0.size : Int) == 0) = true := beq_iff_eq.mpr c4
        have c4b1 : ((a0.size : Int) != 0) = false := bne_eq_false_iff_eq.mpr c4
        clear c4
        (first | rw [c4b0] | (simp only [i64_w, i32_w]; rw [c4b0]) | skip)
        have H' := Aside0.mk H
        clear H
        go_wp2
        go_meet
        case rel => exact ⟨_, (true), (by first | rfl | exact congrArg Value.bool (not_empty _) | exact congrArg Value.bool (is_empty _) | (simp; done) | (simp [*]; done)), H', ⟨by first | omega | exact Nat.le_refl _⟩, by repeat (first | exact Drawn0.refl _ | apply Drawn0.step)⟩
      · rw [if_neg c4] at H
        have c4b0 : ((a0.size : Int) == 0) = false := beq_eq_false_iff_ne.mpr c4
        have c4b1 : ((a0.size : Int) != 0) = true := bne_iff_ne.mpr c4
        (first | rw [c4b0] | (simp only [i64_w, i32_w]; rw [c4b0]) | skip)
        by_cases c5 : 0 < (a0.size : Int)
        · rw [if_pos c5] at H
          have c5b0 : decide (0 < (a0.size : Int)) = true := decide_eq_true c5
          have c5b1 : decide (0 < a0.size) = true := decide_eq_true (by omega)
          clear c5
          replace H := Option.bind_eq_some_iff.mp H
          obtain ⟨t108, A70, H⟩ := H
          replace H : (metrolabref17_Name.j0 k a0 (!t108)) = some r := H
          have A7 := Aside0.mk A70
          clear A70
          have H' := Aside0.mk H
          clear H
          have p6 : 0 ≤ (0 : Int) := (by omega)
          have q6 : 0 < a0.size := (by have : (0 : Int) < (a0.size : Int) := of_decide_eq_true (by first | (with_reducible assumption) | assumption); omega)
          have hx6 : ∀ h : 0 < a0.size, ((a0[0]'h).toNat : Int) = bt a0 0 := bt_at a0 0
          clear p6
          have qi6 : (0 < (a0.size : Int)) = True := eq_true (of_decide_eq_true (by first | (with_reducible assumption) | assumption))
          replace q6 := eq_true q6
          go_wp2_with (first | (go_at_call 111; (with_reducible refine (metrolabref17_letter.calls (bt a0 0) t108 _ A7.out).mono ?_); rintro e w' ⟨rfl, ⟨nd, rfl⟩⟩))
          go_meet
          case rel => exact ⟨_, (!t108), (by first | rfl | exact congrArg Value.bool (not_empty _) | exact congrArg Value.bool (is_empty _) | (simp; done) | (simp [*]; done)), H', ⟨by first | omega | exact Nat.le_refl _⟩, by repeat (first | exact Drawn0.refl _ | apply Drawn0.step)⟩
        · rw [if_neg c5] at H
          exact absurd H (by simp)
    case rest =>
      clear HC3
      try clear c2
      try clear c2b0
      try clear c2b1
      try clear p2
      try clear c4
      try clear c4b0
      try clear c4b1
      try clear c5
      try clear c5b0
      try clear c5b1
      try clear p6
      try clear q6
      try clear hx6
      try clear qi6
      try clear p6
      try clear q6
      obtain ⟨kq, x15_2, rfl, HA, HJ2, ⟨mc2, rfl⟩⟩ := hcut
      cases kq with
      | zero => exact absurd HA.out (by simp [metrolabref17_Name.j0])
      | succ kj2 =>
        have H := HA.out
        clear HA
        simp only [metrolabref17_Name.j0] at H
        by_cases c8 : x15_2 = true
        · subst c8
          have H1 : (some 3) = some r := by rw [if_pos rfl] at H; exact H
          clear H
          have H := H1
          clear H1
          obtain rfl := Option.some.inj H
          go_wp2
          go_ret
          exact ⟨by first | rfl | (simp; done) | (simp [*]; done), by repeat (first | exact Drawn0.refl _ | apply Drawn0.step)⟩
        · replace c8 := Bool.eq_false_iff.mpr c8
          subst c8
          have H1 : (metrolabref17_Name.l0 kj2 a0 0) = some r := by rw [if_neg (show ¬ (false = true) by decide)] at H; exact H
          clear H
          have H := H1
          clear H1
          have H' := Aside0.mk H
          clear H
          go_wp2
          go_loopg [3] kj2 (fun kq v3 w' => ∃ (x3_2 : Int), v3 = .int .i64 x3_2 ∧ Aside0 (metrolabref17_Name.l0 kq a0 x3_2 = some r) ∧ Aside0 (kq ≤ kj2) ∧ Drawn0 w w')
          case atStart => exact ⟨(0), (by first | rfl | exact congrArg Value.bool (not_empty _) | exact congrArg Value.bool (is_empty _) | (simp; done) | (simp [*]; done)), H', ⟨Nat.le_refl _⟩, by repeat (first | exact Drawn0.refl _ | apply Drawn0.step)⟩
          case round =>
            clear H'
            try clear c2
            try clear c2b0
            try clear c2b1
            try clear p2
            try clear c4
            try clear c4b0
            try clear c4b1
            try clear c5
            try clear c5b0
            try clear c5b1
            try clear p6
            try clear q6
            try clear hx6
            try clear qi6
            try clear c8
            try clear p2
            try clear p6
            try clear q6
            obtain ⟨x3_2, rfl, HA, HK2, ⟨m2, rfl⟩⟩ := hrel
            cases gk with
            | zero => exact absurd HA.out (by simp [metrolabref17_Name.l0])
            | succ k2 =>
              have H := HA.out
              clear HA
              simp only [metrolabref17_Name.l0] at H
              by_cases c9 : x3_2 < (a0.size : Int)
              · rw [if_pos c9] at H
                have c9b0 : decide (x3_2 < (a0.size : Int)) = true := decide_eq_true c9
                clear c9
                by_cases c10 : 0 ≤ x3_2
                · rw [if_pos c10] at H
                  have c10b0 : decide (0 ≤ x3_2) = true := decide_eq_true c10
                  clear c10
                  replace H := Option.bind_eq_some_iff.mp H
                  obtain ⟨t109, A120, H⟩ := H
                  replace H : (if t109 = true then (metrolabref17_Name.l0 k2 a0 (wrap64 (x3_2 + 1))) else (if (bt a0 x3_2) < 48 then (some 3) else (if (bt a0 x3_2) > 57 then (some 3) else (metrolabref17_Name.l0 k2 a0 (wrap64 (x3_2 + 1)))))) = some r := H
                  have A12 := Aside0.mk A120
                  clear A120
                  by_cases c13 : t109 = true
                  · subst c13
                    have H1 : (metrolabref17_Name.l0 k2 a0 (wrap64 (x3_2 + 1))) = some r := by rw [if_pos rfl] at H; exact H
                    clear H
                    have H := H1
                    clear H1
                    have H' := Aside0.mk H
                    clear H
                    have p11 : 0 ≤ (x3_2 : Int) := of_decide_eq_true (by first | (with_reducible assumption) | assumption)
                    have q11 : x3_2 < (a0.size : Int) := of_decide_eq_true (by first | (with_reducible assumption) | assumption)
                    have hx11 := bt_at a0 x3_2
                    replace p11 := eq_true p11
                    replace q11 := eq_true q11
                    go_wp2_with (first | ((with_reducible refine gate_callee (f := 111) rfl ?_); refine goesL_ (some 25) rfl rfl Tryz.func111 (by kernel_rfl) rfl #[.int .u8 (bt a0 x3_2)] rfl (by (try simp only [List.map_toArray, List.map_cons, List.map_nil]); first | done | rfl | (simp only [List.length_drop, List.length_take]; rfl)) ?_; (with_reducible refine (metrolabref17_letter.calls (bt a0 x3_2) true _ A12.out).mono ?_); rintro e w' ⟨rfl, ⟨nd, rfl⟩⟩; refine ⟨_, rfl, ?_⟩))
                    go_roundg k2
                    case measure => have := HJ2.out; have := HK2.out; omega
                    case rel => exact ⟨(wrap64 (x3_2 + 1)), (by first | rfl | exact congrArg Value.bool (not_empty _) | exact congrArg Value.bool (is_empty _) | (simp; done) | (simp [*]; done)), H', ⟨by have := HJ2.out; have := HK2.out; omega⟩, by repeat (first | exact Drawn0.refl _ | apply Drawn0.step)⟩
                  · replace c13 := Bool.eq_false_iff.mpr c13
                    subst c13
                    have H1 : (if (bt a0 x3_2) < 48 then (some 3) else (if (bt a0 x3_2) > 57 then (some 3) else (metrolabref17_Name.l0 k2 a0 (wrap64 (x3_2 + 1))))) = some r := by rw [if_neg (show ¬ (false = true) by decide)] at H; exact H
                    clear H
                    have H := H1
                    clear H1
                    by_cases c15 : (bt a0 x3_2) < 48
                    · rw [if_pos c15] at H
                      have c15b0 : decide ((bt a0 x3_2) < 48) = true := decide_eq_true c15
                      clear c15
                      obtain rfl := Option.some.inj H
                      have p11 : 0 ≤ (x3_2 : Int) := of_decide_eq_true (by first | (with_reducible assumption) | assumption)
                      have q11 : x3_2 < (a0.size : Int) := of_decide_eq_true (by first | (with_reducible assumption) | assumption)
                      have hx11 := bt_at a0 x3_2
                      replace p11 := eq_true p11
                      replace q11 := eq_true q11
                      go_wp2_with (first | ((with_reducible refine gate_callee (f := 111) rfl ?_); refine goesL_ (some 25) rfl rfl Tryz.func111 (by kernel_rfl) rfl #[.int .u8 (bt a0 x3_2)] rfl (by (try simp only [List.map_toArray, List.map_cons, List.map_nil]); first | done | rfl | (simp only [List.length_drop, List.length_take]; rfl)) ?_; (with_reducible refine (metrolabref17_letter.calls (bt a0 x3_2) false _ A12.out).mono ?_); rintro e w' ⟨rfl, ⟨nd, rfl⟩⟩; refine ⟨_, rfl, ?_⟩; have p14 : 0 ≤ (x3_2 : Int) := of_decide_eq_true (by first | (with_reducible assumption) | assumption); have q14 : x3_2 < (a0.size : Int) := of_decide_eq_true (by first | (with_reducible assumption) | assumption); have hx14 := bt_at a0 x3_2; replace p14 := eq_true p14; replace q14 := eq_true q14))
                      go_ret
                      exact ⟨by first | rfl | (simp; done) | (simp [*]; done), by repeat (first | exact Drawn0.refl _ | apply Drawn0.step)⟩
                    · rw [if_neg c15] at H
                      have c15b0 : decide ((bt a0 x3_2) < 48) = false := decide_eq_false c15
                      clear c15
                      by_cases c17 : (bt a0 x3_2) > 57
                      · rw [if_pos c17] at H
                        have c17b0 : decide (57 < (bt a0 x3_2)) = true := decide_eq_true c17
                        clear c17
                        obtain rfl := Option.some.inj H
                        have p11 : 0 ≤ (x3_2 : Int) := of_decide_eq_true (by first | (with_reducible assumption) | assumption)
                        have q11 : x3_2 < (a0.size : Int) := of_decide_eq_true (by first | (with_reducible assumption) | assumption)
                        have hx11 := bt_at a0 x3_2
                        replace p11 := eq_true p11
                        replace q11 := eq_true q11
                        go_wp2_with (first | ((with_reducible refine gate_callee (f := 111) rfl ?_); refine goesL_ (some 25) rfl rfl Tryz.func111 (by kernel_rfl) rfl #[.int .u8 (bt a0 x3_2)] rfl (by (try simp only [List.map_toArray, List.map_cons, List.map_nil]); first | done | rfl | (simp only [List.length_drop, List.length_take]; rfl)) ?_; (with_reducible refine (metrolabref17_letter.calls (bt a0 x3_2) false _ A12.out).mono ?_); rintro e w' ⟨rfl, ⟨nd, rfl⟩⟩; refine ⟨_, rfl, ?_⟩; have p14 : 0 ≤ (x3_2 : Int) := of_decide_eq_true (by first | (with_reducible assumption) | assumption); have q14 : x3_2 < (a0.size : Int) := of_decide_eq_true (by first | (with_reducible assumption) | assumption); have hx14 := bt_at a0 x3_2; replace p14 := eq_true p14; replace q14 := eq_true q14; have p16 : 0 ≤ (x3_2 : Int) := of_decide_eq_true (by first | (with_reducible assumption) | assumption); have q16 : x3_2 < (a0.size : Int) := of_decide_eq_true (by first | (with_reducible assumption) | assumption); have hx16 := bt_at a0 x3_2; replace p16 := eq_true p16; replace q16 := eq_true q16))
                        go_ret
                        exact ⟨by first | rfl | (simp; done) | (simp [*]; done), by repeat (first | exact Drawn0.refl _ | apply Drawn0.step)⟩
                      · rw [if_neg c17] at H
                        have c17b0 : decide (57 < (bt a0 x3_2)) = false := decide_eq_false c17
                        clear c17
                        have H' := Aside0.mk H
                        clear H
                        have p11 : 0 ≤ (x3_2 : Int) := of_decide_eq_true (by first | (with_reducible assumption) | assumption)
                        have q11 : x3_2 < (a0.size : Int) := of_decide_eq_true (by first | (with_reducible assumption) | assumption)
                        have hx11 := bt_at a0 x3_2
                        replace p11 := eq_true p11
                        replace q11 := eq_true q11
                        go_wp2_with (first | ((with_reducible refine gate_callee (f := 111) rfl ?_); refine goesL_ (some 25) rfl rfl Tryz.func111 (by kernel_rfl) rfl #[.int .u8 (bt a0 x3_2)] rfl (by (try simp only [List.map_toArray, List.map_cons, List.map_nil]); first | done | rfl | (simp only [List.length_drop, List.length_take]; rfl)) ?_; (with_reducible refine (metrolabref17_letter.calls (bt a0 x3_2) false _ A12.out).mono ?_); rintro e w' ⟨rfl, ⟨nd, rfl⟩⟩; refine ⟨_, rfl, ?_⟩; have p14 : 0 ≤ (x3_2 : Int) := of_decide_eq_true (by first | (with_reducible assumption) | assumption); have q14 : x3_2 < (a0.size : Int) := of_decide_eq_true (by first | (with_reducible assumption) | assumption); have hx14 := bt_at a0 x3_2; replace p14 := eq_true p14; replace q14 := eq_true q14; have p16 : 0 ≤ (x3_2 : Int) := of_decide_eq_true (by first | (with_reducible assumption) | assumption); have q16 : x3_2 < (a0.size : Int) := of_decide_eq_true (by first | (with_reducible assumption) | assumption); have hx16 := bt_at a0 x3_2; replace p16 := eq_true p16; replace q16 := eq_true q16))
                        go_roundg k2
                        case measure => have := HJ2.out; have := HK2.out; omega
                        case rel => exact ⟨(wrap64 (x3_2 + 1)), (by first | rfl | exact congrArg Value.bool (not_empty _) | exact congrArg Value.bool (is_empty _) | (simp; done) | (simp [*]; done)), H', ⟨by have := HJ2.out; have := HK2.out; omega⟩, by repeat (first | exact Drawn0.refl _ | apply Drawn0.step)⟩
                · rw [if_neg c10] at H
                  exact absurd H (by simp)
              · rw [if_neg c9] at H
                have c9b0 : decide (x3_2 < (a0.size : Int)) = false := decide_eq_false c9
                clear c9
                obtain rfl := Option.some.inj H
                go_wp2
                go_ret
                exact ⟨by first | rfl | (simp; done) | (simp [*]; done), by repeat (first | exact Drawn0.refl _ | apply Drawn0.step)⟩
def metrolabref17_In.f (a0 : Int) : Option (Bool) := if a0 ≥ (-100000) then (some (decide (a0 ≤ 100000))) else (some false)
set_option maxHeartbeats 8000000 in
set_option maxRecDepth 100000 in
theorem metrolabref17_In.calls (a0 : Int) (r : Bool) (w : World) (h : metrolabref17_In.f a0 = some r) :
    Calls Tryz.prog 81 #[.int .i64 a0] w fun e w' => e = .returned (.bool r) ∧ Drawn0 w w' := by
  have H : (if a0 ≥ (-100000) then (some (decide (a0 ≤ 100000))) else (some false)) = some r := h
  clear h
  by_cases c2 : a0 ≥ (-100000)
  · rw [if_pos c2] at H
    have c2b0 : decide ((-100000) ≤ a0) = true := decide_eq_true c2
    clear c2
    obtain rfl := Option.some.inj H
    go_enter Tryz.func81, Tryz.ntmps81
    go_wp2
    go_ret
    exact ⟨by first | rfl | (simp; done) | (simp [*]; done), by repeat (first | exact Drawn0.refl _ | apply Drawn0.step)⟩
  · rw [if_neg c2] at H
    have c2b0 : decide ((-100000) ≤ a0) = false := decide_eq_false c2
    clear c2
    obtain rfl := Option.some.inj H
    go_enter Tryz.func81, Tryz.ntmps81
    go_wp2
    go_ret
    exact ⟨by first | rfl | (simp; done) | (simp [*]; done), by repeat (first | exact Drawn0.refl _ | apply Drawn0.step)⟩
end Go.Proofs.YtkohjcfmcliioaaGreatDoor.ZA
namespace Go.Proofs.YtkohjcfmcliioaaGreatDoor.ZA
open Go.RowKit Go.Proofs.YtkohjcfmcliioaaGreatDoorW.PrintWords Go.Proofs.YtkohjcfmcliioaaGreatDoorW.PrintLast Go.Proofs.YtkohjcfmcliioaaGreatDoorW.PrintMore
attribute [local go_sem] max2_int min2_int max_two min_two max_three min_three max_four min_four   -- for this text's walks alone
set_option linter.unusedVariables false
set_option linter.unusedSimpArgs false
def metrolabref17_Check.j0 : Nat → Bool → Int → Int → Option (Int)
  | 0, _, _, _ => none
  | k + 1, x12, x111000, x111001 => if x12 = true then (some 2) else (if x111000 > x111001 then (some 9) else (some 0))
def metrolabref17_Check.f (k : Nat) (a0_0 : Int) (a0_1 : Int) : Option (Int) := (metrolabref17_In.f a0_0).bind fun t111 => (if t111 = true then ((metrolabref17_In.f a0_1).bind fun t112 => (metrolabref17_Check.j0 k (!t112) a0_0 a0_1)) else (metrolabref17_Check.j0 k true a0_0 a0_1))
theorem metrolabref17_Check.mono_l : ∀ k, (∀ y0 y1 y2, LeO (metrolabref17_Check.j0 k y0 y1 y2) (metrolabref17_Check.j0 (k + 1) y0 y1 y2))
  | 0 => fun _ _ _ r h => by simp [metrolabref17_Check.j0] at h
  | k + 1 => by
    have ih0 := metrolabref17_Check.mono_l k
    · intro y0 y1 y2
      unfold metrolabref17_Check.j0
      repeat' first
      | (with_reducible exact ih0 _ _ _)
      | (with_reducible exact LeO.refl _)
      | (with_reducible exact LeO.none _)
      | (with_reducible refine LeO.ite ?_ ?_)
      | (with_reducible refine LeO.bind ?_ (fun _ => ?_))
      | exact ih0 _ _ _
      | exact LeO.none _
      | refine LeO.ite ?_ ?_
      | refine LeO.bind ?_ (fun _ => ?_)
theorem metrolabref17_Check.mono : ∀ a0 a1 k, LeO (metrolabref17_Check.f k a0 a1) (metrolabref17_Check.f (k + 1) a0 a1) := by
  intro a0 a1 k
  have ih0 := metrolabref17_Check.mono_l k
  unfold metrolabref17_Check.f
  repeat' first
      | (with_reducible exact ih0 _ _ _)
      | (with_reducible exact LeO.refl _)
      | (with_reducible exact LeO.none _)
      | (with_reducible refine LeO.ite ?_ ?_)
      | (with_reducible refine LeO.bind ?_ (fun _ => ?_))
      | exact ih0 _ _ _
      | exact LeO.none _
      | refine LeO.ite ?_ ?_
      | refine LeO.bind ?_ (fun _ => ?_)
set_option maxHeartbeats 8000000 in
set_option maxRecDepth 100000 in
theorem metrolabref17_Check.calls (k : Nat) (a0_0 : Int) (a0_1 : Int) (r : Int) (w : World) (h : metrolabref17_Check.f k a0_0 a0_1 = some r) :
    Calls Tryz.prog 82 #[.agg #[.int .i64 a0_0, .int .i64 a0_1]] w fun e w' => e = .returned (.int .i64 r) ∧ Below w.heap.size w w' := by
  have hu25 := Tryz.underlying25
  have HB := Aside0.mk (Below.refl w.heap.size w)
  have H : ((metrolabref17_In.f a0_0).bind fun t111 => (if t111 = true then ((metrolabref17_In.f a0_1).bind fun t112 => (metrolabref17_Check.j0 k (!t112) a0_0 a0_1)) else (metrolabref17_Check.j0 k true a0_0 a0_1))) = some r := h
  clear h
  have HC2 := Aside0.mk H
  clear H
  go_enter Tryz.func82, Tryz.ntmps82
  go_upto_region 1 with (first | ((with_reducible refine gate_dst (N := 1) rfl ?_); refine box_event ?hg (N := 1) ?hd (cs := #[.int .i64 a0_0, .int .i64 a0_1]) (t := 25) ?hr ?_; (case hd => rfl); (case hg => rfl); (case hr => first | (go_simp; done) | (go_simp; rfl)); intro gb110 hg w3 hbox hb; have n0_ := Aside0.mk (below_step (by repeat (first | (with_reducible first | exact HB.out | apply below_alloc | apply pw_below_drewN | apply below_drew1) | exact HB.out)) hb); have n1_ := Aside0.mk (hbox); have n2_ := Aside0.mk ((by rw [hg]; exact (below_size (by repeat (first | (with_reducible first | exact HB.out | apply below_alloc | apply pw_below_drewN | apply below_drew1) | exact HB.out))) : w.heap.size ≤ gb110)); have n3_ := Aside0.mk ((by rw [hg]; exact (below_size (by repeat (first | (with_reducible first | exact HB.out | apply below_alloc | apply pw_below_drewN | apply below_drew1) | exact HB.out))) : w.heap.size ≤ gb110)); clear HB; have HB := n0_; have BK110 := n1_; have GW110 := n2_; have GE110 := n3_; clear n0_ n1_ n2_ n3_; clear hb hbox hg))
  (try simp only [Act.put, List.setIfInBounds_toArray, List.set_cons_zero, List.set_cons_succ])
  go_cut [12] (fun v12 wc => ∃ (kq : Nat) (x12_1 : Bool), v12 = .bool x12_1 ∧ Aside0 (metrolabref17_Check.j0 kq x12_1 a0_0 a0_1 = some r) ∧ Aside0 (kq ≤ k) ∧ Aside0 (wc.heap[gb110]? = some (.cells #[.int .i64 a0_0, .int .i64 a0_1] 25 (0, 0))) ∧ Aside0 (Below w.heap.size w wc))
  case first =>
    have H := HC2.out
    clear HC2
    replace H := Option.bind_eq_some_iff.mp H
    obtain ⟨t111, A40, H⟩ := H
    replace H : (if t111 = true then ((metrolabref17_In.f a0_1).bind fun t112 => (metrolabref17_Check.j0 k (!t112) a0_0 a0_1)) else (metrolabref17_Check.j0 k true a0_0 a0_1)) = some r := H
    have A4 := Aside0.mk A40
    clear A40
    by_cases c5 : t111 = true
    · subst c5
      have H1 : ((metrolabref17_In.f a0_1).bind fun t112 => (metrolabref17_Check.j0 k (!t112) a0_0 a0_1)) = some r := by rw [if_pos rfl] at H; exact H
      clear H
      have H := H1
      clear H1
      replace H := Option.bind_eq_some_iff.mp H
      obtain ⟨t112, A60, H⟩ := H
      replace H : (metrolabref17_Check.j0 k (!t112) a0_0 a0_1) = some r := H
      have A6 := Aside0.mk A60
      clear A60
      have H' := Aside0.mk H
      clear H
      have hcz7_0 : w3.cell? ⟨gb110, 0, none⟩ = some (.int .i64 a0_0) := (blk_cell BK110.out 0).trans rfl
      have hcz7_1 : w3.cell? ⟨gb110, 1, none⟩ = some (.int .i64 a0_1) := (blk_cell BK110.out 1).trans rfl
      have hfz7_0 := blk_frozen BK110.out 0
      have hfz7_1 := blk_frozen BK110.out 1
      go_wp2_with (first | ((with_reducible refine gate_callee (f := 81) rfl ?_); refine goesL_ (some 5) rfl rfl Tryz.func81 (by kernel_rfl) rfl #[.int .i64 a0_0] rfl (by (try simp only [List.map_toArray, List.map_cons, List.map_nil]); first | done | rfl | (simp only [List.length_drop, List.length_take]; rfl)) ?_; (with_reducible refine (metrolabref17_In.calls a0_0 true _ A4.out).mono ?_); rintro e w' ⟨rfl, ⟨nd, rfl⟩⟩; refine ⟨_, rfl, ?_⟩) | (go_at_call 81; (with_reducible refine (metrolabref17_In.calls a0_1 t112 _ A6.out).mono ?_); rintro e w' ⟨rfl, ⟨nd, rfl⟩⟩))
      go_meet
      case rel => exact ⟨_, (!t112), (by first | rfl | exact congrArg Value.bool (not_empty _) | exact congrArg Value.bool (is_empty _) | (simp; done) | (simp [*]; done)), H', ⟨by first | omega | exact Nat.le_refl _⟩, ⟨by (with_reducible repeat (first | refine blk_drewN ?_ _ | refine blk_drew ?_ | refine blk_alloc ?_ _)); exact BK110.out⟩, ⟨by repeat (first | (with_reducible first | exact HB.out | apply below_alloc | apply pw_below_drewN | apply below_drew1 | refine below_set ?_ GE110.out) | exact HB.out)⟩⟩
    · replace c5 := Bool.eq_false_iff.mpr c5
      subst c5
      have H1 : (metrolabref17_Check.j0 k true a0_0 a0_1) = some r := by rw [if_neg (show ¬ (false = true) by decide)] at H; exact H
      clear H
      have H := H1
      clear H1
      have H' := Aside0.mk H
      clear H
      have hcz8_0 : w3.cell? ⟨gb110, 0, none⟩ = some (.int .i64 a0_0) := (blk_cell BK110.out 0).trans rfl
      have hcz8_1 : w3.cell? ⟨gb110, 1, none⟩ = some (.int .i64 a0_1) := (blk_cell BK110.out 1).trans rfl
      have hfz8_0 := blk_frozen BK110.out 0
      have hfz8_1 := blk_frozen BK110.out 1
      go_wp2_with (first | ((with_reducible refine gate_callee (f := 81) rfl ?_); refine goesL_ (some 5) rfl rfl Tryz.func81 (by kernel_rfl) rfl #[.int .i64 a0_0] rfl (by (try simp only [List.map_toArray, List.map_cons, List.map_nil]); first | done | rfl | (simp only [List.length_drop, List.length_take]; rfl)) ?_; (with_reducible refine (metrolabref17_In.calls a0_0 false _ A4.out).mono ?_); rintro e w' ⟨rfl, ⟨nd, rfl⟩⟩; refine ⟨_, rfl, ?_⟩))
      go_meet
      case rel => exact ⟨_, (true), (by first | rfl | exact congrArg Value.bool (not_empty _) | exact congrArg Value.bool (is_empty _) | (simp; done) | (simp [*]; done)), H', ⟨by first | omega | exact Nat.le_refl _⟩, ⟨by (with_reducible repeat (first | refine blk_drewN ?_ _ | refine blk_drew ?_ | refine blk_alloc ?_ _)); exact BK110.out⟩, ⟨by repeat (first | (with_reducible first | exact HB.out | apply below_alloc | apply pw_below_drewN | apply below_drew1 | refine below_set ?_ GE110.out) | exact HB.out)⟩⟩
  case rest =>
    clear HC2
    try clear p2
    try clear c5
    try clear c8
    try clear hcz7_0
    try clear hcz7_1
    try clear hcz8_0
    try clear hcz8_1
    try clear hfz7_0
    try clear hfz7_1
    try clear hfz8_0
    try clear hfz8_1
    obtain ⟨kq, x12_1, rfl, HA, HJ1, BK110, HB⟩ := hcut
    cases kq with
    | zero => exact absurd HA.out (by simp [metrolabref17_Check.j0])
    | succ kj1 =>
      have H := HA.out
      clear HA
      simp only [metrolabref17_Check.j0] at H
      by_cases c9 : x12_1 = true
      · subst c9
        have H1 : (some 2) = some r := by rw [if_pos rfl] at H; exact H
        clear H
        have H := H1
        clear H1
        obtain rfl := Option.some.inj H
        go_wp2
        go_ret
        exact ⟨by first | rfl | (simp [errW_none, errW_some] <;> rfl) | (simp [*, errW_none, errW_some] <;> rfl), by repeat (first | (with_reducible first | exact HB.out | apply below_alloc | apply pw_below_drewN | apply below_drew1 | refine below_set ?_ GE110.out) | exact HB.out)⟩
      · replace c9 := Bool.eq_false_iff.mpr c9
        subst c9
        have H1 : (if a0_0 > a0_1 then (some 9) else (some 0)) = some r := by rw [if_neg (show ¬ (false = true) by decide)] at H; exact H
        clear H
        have H := H1
        clear H1
        by_cases c10 : a0_0 > a0_1
        · rw [if_pos c10] at H
          have c10b0 : decide (a0_1 < a0_0) = true := decide_eq_true c10
          clear c10
          obtain rfl := Option.some.inj H
          have hcz11_0 : wc.cell? ⟨gb110, 0, none⟩ = some (.int .i64 a0_0) := (blk_cell BK110.out 0).trans rfl
          have hcz11_1 : wc.cell? ⟨gb110, 1, none⟩ = some (.int .i64 a0_1) := (blk_cell BK110.out 1).trans rfl
          have hfz11_0 := blk_frozen BK110.out 0
          have hfz11_1 := blk_frozen BK110.out 1
          go_wp2
          go_ret
          exact ⟨by first | rfl | (simp [errW_none, errW_some] <;> rfl) | (simp [*, errW_none, errW_some] <;> rfl), by repeat (first | (with_reducible first | exact HB.out | apply below_alloc | apply pw_below_drewN | apply below_drew1 | refine below_set ?_ GE110.out) | exact HB.out)⟩
        · rw [if_neg c10] at H
          have c10b0 : decide (a0_1 < a0_0) = false := decide_eq_false c10
          clear c10
          obtain rfl := Option.some.inj H
          have hcz12_0 : wc.cell? ⟨gb110, 0, none⟩ = some (.int .i64 a0_0) := (blk_cell BK110.out 0).trans rfl
          have hcz12_1 : wc.cell? ⟨gb110, 1, none⟩ = some (.int .i64 a0_1) := (blk_cell BK110.out 1).trans rfl
          have hfz12_0 := blk_frozen BK110.out 0
          have hfz12_1 := blk_frozen BK110.out 1
          go_wp2
          go_ret
          exact ⟨by first | rfl | (simp [errW_none, errW_some] <;> rfl) | (simp [*, errW_none, errW_some] <;> rfl), by repeat (first | (with_reducible first | exact HB.out | apply below_alloc | apply pw_below_drewN | apply below_drew1 | refine below_set ?_ GE110.out) | exact HB.out)⟩
end Go.Proofs.YtkohjcfmcliioaaGreatDoor.ZA
namespace Go.Proofs.YtkohjcfmcliioaaGreatDoor.ZA
open Go.RowKit Go.Proofs.YtkohjcfmcliioaaGreatDoorW.PrintWords Go.Proofs.YtkohjcfmcliioaaGreatDoorW.PrintLast Go.Proofs.YtkohjcfmcliioaaGreatDoorW.PrintMore
attribute [local go_sem] max2_int min2_int max_two min_two max_three min_three max_four min_four   -- for this text's walks alone
set_option linter.unusedVariables false
set_option linter.unusedSimpArgs false
attribute [local go_sem high] eqA25
mutual
def metrolabref18_Check.j0 : Nat → Bool → ByteArray → Int → Int → Int → Int → Int → Int → Int → List (S31) → Option (Int)
  | 0, _, _, _, _, _, _, _, _, _, _ => none
  | k + 1, x28, x114000, x114001, x114002, x114003, x114004, x114005, x114006, x114007, x114008 => if x28 = true then (some 1) else (if x114001 = 4 then (metrolabref18_Check.j1 k (x114002 != 0) x114000 x114001 x114002 x114003 x114004 x114005 x114006 x114007 x114008) else (metrolabref18_Check.j1 k false x114000 x114001 x114002 x114003 x114004 x114005 x114006 x114007 x114008))
def metrolabref18_Check.j1 : Nat → Bool → ByteArray → Int → Int → Int → Int → Int → Int → Int → List (S31) → Option (Int)
  | 0, _, _, _, _, _, _, _, _, _, _ => none
  | k + 1, x36, x114000, x114001, x114002, x114003, x114004, x114005, x114006, x114007, x114008 => if x36 = true then (some 3) else ((metrolabref17_In.f x114003).bind fun t115 => (if t115 = true then ((metrolabref17_In.f x114004).bind fun t116 => (if t116 = true then ((metrolabref17_In.f x114005).bind fun t117 => (metrolabref18_Check.j2 k (!t117) x114000 x114001 x114002 x114003 x114004 x114005 x114006 x114007 x114008)) else (metrolabref18_Check.j2 k true x114000 x114001 x114002 x114003 x114004 x114005 x114006 x114007 x114008))) else (metrolabref18_Check.j2 k true x114000 x114001 x114002 x114003 x114004 x114005 x114006 x114007 x114008)))
def metrolabref18_Check.j2 : Nat → Bool → ByteArray → Int → Int → Int → Int → Int → Int → Int → List (S31) → Option (Int)
  | 0, _, _, _, _, _, _, _, _, _, _ => none
  | k + 1, x55, x114000, x114001, x114002, x114003, x114004, x114005, x114006, x114007, x114008 => if x55 = true then (some 2) else (if x114001 = 0 then (if (!(x114006 == 0) || (!(x114007 == 0))) = true then (some 3) else (some 0)) else ((metrolabref17_Check.f k x114006 x114007).bind fun t118 => (if t118 = 0 then (if x114006 < 1 then (some 2) else (some 0)) else (some t118))))
end
def metrolabref18_Check.f (k : Nat) (a0_0 : ByteArray) (a0_1 : Int) (a0_2 : Int) (a0_3 : Int) (a0_4 : Int) (a0_5 : Int) (a0_6 : Int) (a0_7 : Int) (l0_8 : List (S31)) : Option (Int) := (metrolabref17_Name.f k a0_0).bind fun t114 => (if t114 = 0 then (if a0_1 < 0 then (metrolabref18_Check.j0 k true a0_0 a0_1 a0_2 a0_3 a0_4 a0_5 a0_6 a0_7 l0_8) else (if a0_1 ≥ 5 then (metrolabref18_Check.j0 k true a0_0 a0_1 a0_2 a0_3 a0_4 a0_5 a0_6 a0_7 l0_8) else (if a0_2 < 0 then (metrolabref18_Check.j0 k true a0_0 a0_1 a0_2 a0_3 a0_4 a0_5 a0_6 a0_7 l0_8) else (metrolabref18_Check.j0 k (decide (a0_2 ≥ 3)) a0_0 a0_1 a0_2 a0_3 a0_4 a0_5 a0_6 a0_7 l0_8)))) else (some t114))
theorem metrolabref18_Check.mono_l : ∀ k, (∀ y0 y1 y2 y3 y4 y5 y6 y7 y8 y9, LeO (metrolabref18_Check.j0 k y0 y1 y2 y3 y4 y5 y6 y7 y8 y9) (metrolabref18_Check.j0 (k + 1) y0 y1 y2 y3 y4 y5 y6 y7 y8 y9)) ∧ (∀ y0 y1 y2 y3 y4 y5 y6 y7 y8 y9, LeO (metrolabref18_Check.j1 k y0 y1 y2 y3 y4 y5 y6 y7 y8 y9) (metrolabref18_Check.j1 (k + 1) y0 y1 y2 y3 y4 y5 y6 y7 y8 y9)) ∧ (∀ y0 y1 y2 y3 y4 y5 y6 y7 y8 y9, LeO (metrolabref18_Check.j2 k y0 y1 y2 y3 y4 y5 y6 y7 y8 y9) (metrolabref18_Check.j2 (k + 1) y0 y1 y2 y3 y4 y5 y6 y7 y8 y9))
  | 0 => ⟨fun _ _ _ _ _ _ _ _ _ _ r h => by simp [metrolabref18_Check.j0] at h, fun _ _ _ _ _ _ _ _ _ _ r h => by simp [metrolabref18_Check.j1] at h, fun _ _ _ _ _ _ _ _ _ _ r h => by simp [metrolabref18_Check.j2] at h⟩
  | k + 1 => by
    obtain ⟨ih0, ih1, ih2⟩ := metrolabref18_Check.mono_l k
    refine ⟨?_, ?_, ?_⟩
    · intro y0 y1 y2 y3 y4 y5 y6 y7 y8 y9
      unfold metrolabref18_Check.j0
      repeat' first
      | (with_reducible exact ih0 _ _ _ _ _ _ _ _ _ _)
      | (with_reducible exact ih1 _ _ _ _ _ _ _ _ _ _)
      | (with_reducible exact ih2 _ _ _ _ _ _ _ _ _ _)
      | (with_reducible exact metrolabref17_Check.mono _ _ _)
      | (with_reducible exact metrolabref17_Name.mono _ _)
      | (with_reducible exact LeO.refl _)
      | (with_reducible exact LeO.none _)
      | (with_reducible refine LeO.ite ?_ ?_)
      | (with_reducible refine LeO.bind ?_ (fun _ => ?_))
      | exact ih0 _ _ _ _ _ _ _ _ _ _
      | exact ih1 _ _ _ _ _ _ _ _ _ _
      | exact ih2 _ _ _ _ _ _ _ _ _ _
      | exact metrolabref17_Check.mono _ _ _
      | exact metrolabref17_Name.mono _ _
      | exact LeO.none _
      | refine LeO.ite ?_ ?_
      | refine LeO.bind ?_ (fun _ => ?_)
    · intro y0 y1 y2 y3 y4 y5 y6 y7 y8 y9
      unfold metrolabref18_Check.j1
      repeat' first
      | (with_reducible exact ih0 _ _ _ _ _ _ _ _ _ _)
      | (with_reducible exact ih1 _ _ _ _ _ _ _ _ _ _)
      | (with_reducible exact ih2 _ _ _ _ _ _ _ _ _ _)
      | (with_reducible exact metrolabref17_Check.mono _ _ _)
      | (with_reducible exact metrolabref17_Name.mono _ _)
      | (with_reducible exact LeO.refl _)
      | (with_reducible exact LeO.none _)
      | (with_reducible refine LeO.ite ?_ ?_)
      | (with_reducible refine LeO.bind ?_ (fun _ => ?_))
      | exact ih0 _ _ _ _ _ _ _ _ _ _
      | exact ih1 _ _ _ _ _ _ _ _ _ _
      | exact ih2 _ _ _ _ _ _ _ _ _ _
      | exact metrolabref17_Check.mono _ _ _
      | exact metrolabref17_Name.mono _ _
      | exact LeO.none _
      | refine LeO.ite ?_ ?_
      | refine LeO.bind ?_ (fun _ => ?_)
    · intro y0 y1 y2 y3 y4 y5 y6 y7 y8 y9
      unfold metrolabref18_Check.j2
      repeat' first
      | (with_reducible exact ih0 _ _ _ _ _ _ _ _ _ _)
      | (with_reducible exact ih1 _ _ _ _ _ _ _ _ _ _)
      | (with_reducible exact ih2 _ _ _ _ _ _ _ _ _ _)
      | (with_reducible exact metrolabref17_Check.mono _ _ _)
      | (with_reducible exact metrolabref17_Name.mono _ _)
      | (with_reducible exact LeO.refl _)
      | (with_reducible exact LeO.none _)
      | (with_reducible refine LeO.ite ?_ ?_)
      | (with_reducible refine LeO.bind ?_ (fun _ => ?_))
      | exact ih0 _ _ _ _ _ _ _ _ _ _
      | exact ih1 _ _ _ _ _ _ _ _ _ _
      | exact ih2 _ _ _ _ _ _ _ _ _ _
      | exact metrolabref17_Check.mono _ _ _
      | exact metrolabref17_Name.mono _ _
      | exact LeO.none _
      | refine LeO.ite ?_ ?_
      | refine LeO.bind ?_ (fun _ => ?_)
theorem metrolabref18_Check.mono : ∀ a0 a1 a2 a3 a4 a5 a6 a7 a8 k, LeO (metrolabref18_Check.f k a0 a1 a2 a3 a4 a5 a6 a7 a8) (metrolabref18_Check.f (k + 1) a0 a1 a2 a3 a4 a5 a6 a7 a8) := by
  intro a0 a1 a2 a3 a4 a5 a6 a7 a8 k
  obtain ⟨ih0, ih1, ih2⟩ := metrolabref18_Check.mono_l k
  unfold metrolabref18_Check.f
  repeat' first
      | (with_reducible exact ih0 _ _ _ _ _ _ _ _ _ _)
      | (with_reducible exact ih1 _ _ _ _ _ _ _ _ _ _)
      | (with_reducible exact ih2 _ _ _ _ _ _ _ _ _ _)
      | (with_reducible exact metrolabref17_Check.mono _ _ _)
      | (with_reducible exact metrolabref17_Name.mono _ _)
      | (with_reducible exact LeO.refl _)
      | (with_reducible exact LeO.none _)
      | (with_reducible refine LeO.ite ?_ ?_)
      | (with_reducible refine LeO.bind ?_ (fun _ => ?_))
      | exact ih0 _ _ _ _ _ _ _ _ _ _
      | exact ih1 _ _ _ _ _ _ _ _ _ _
      | exact ih2 _ _ _ _ _ _ _ _ _ _
      | exact metrolabref17_Check.mono _ _ _
      | exact metrolabref17_Name.mono _ _
      | exact LeO.none _
      | refine LeO.ite ?_ ?_
      | refine LeO.bind ?_ (fun _ => ?_)
set_option maxHeartbeats 8000000 in
set_option maxRecDepth 100000 in
theorem metrolabref18_Check.calls (k : Nat) (a0_0 : ByteArray) (a0_1 : Int) (a0_2 : Int) (a0_3 : Int) (a0_4 : Int) (a0_5 : Int) (a0_6 : Int) (a0_7 : Int) (A0_8 : Option Addr) (c0_8 : Nat) (l0_8 : List (S31)) (r : Int) (w : World) (hr0_8 : Kd.C k31 w A0_8 l0_8.length l0_8) (hc0_8 : l0_8.length ≤ c0_8) (h : metrolabref18_Check.f k a0_0 a0_1 a0_2 a0_3 a0_4 a0_5 a0_6 a0_7 l0_8 = some r) :
    Calls Tryz.prog 45 #[.agg #[.string a0_0, .int .i64 a0_1, .int .i64 a0_2, .int .i64 a0_3, .int .i64 a0_4, .int .i64 a0_5, .int .i64 a0_6, .int .i64 a0_7, .slice A0_8 l0_8.length c0_8]] w fun e w' => e = .returned (.int .i64 r) ∧ Below w.heap.size w w' := by
  have hu28 := Tryz.underlying28
  have hu25 := Tryz.underlying25
  have HR0_8 := Aside0.mk hr0_8
  have HC0_8 := Aside0.mk hc0_8
  clear hr0_8 hc0_8
  have HB := Aside0.mk (Below.refl w.heap.size w)
  have H : ((metrolabref17_Name.f k a0_0).bind fun t114 => (if t114 = 0 then (if a0_1 < 0 then (metrolabref18_Check.j0 k true a0_0 a0_1 a0_2 a0_3 a0_4 a0_5 a0_6 a0_7 l0_8) else (if a0_1 ≥ 5 then (metrolabref18_Check.j0 k true a0_0 a0_1 a0_2 a0_3 a0_4 a0_5 a0_6 a0_7 l0_8) else (if a0_2 < 0 then (metrolabref18_Check.j0 k true a0_0 a0_1 a0_2 a0_3 a0_4 a0_5 a0_6 a0_7 l0_8) else (metrolabref18_Check.j0 k (decide (a0_2 ≥ 3)) a0_0 a0_1 a0_2 a0_3 a0_4 a0_5 a0_6 a0_7 l0_8)))) else (some t114))) = some r := h
  clear h
  replace H := Option.bind_eq_some_iff.mp H
  obtain ⟨t114, A20, H⟩ := H
  replace H : (if t114 = 0 then (if a0_1 < 0 then (metrolabref18_Check.j0 k true a0_0 a0_1 a0_2 a0_3 a0_4 a0_5 a0_6 a0_7 l0_8) else (if a0_1 ≥ 5 then (metrolabref18_Check.j0 k true a0_0 a0_1 a0_2 a0_3 a0_4 a0_5 a0_6 a0_7 l0_8) else (if a0_2 < 0 then (metrolabref18_Check.j0 k true a0_0 a0_1 a0_2 a0_3 a0_4 a0_5 a0_6 a0_7 l0_8) else (metrolabref18_Check.j0 k (decide (a0_2 ≥ 3)) a0_0 a0_1 a0_2 a0_3 a0_4 a0_5 a0_6 a0_7 l0_8)))) else (some t114)) = some r := H
  have A2 := Aside0.mk A20
  clear A20
  by_cases c3 : t114 = 0
  · rw [if_pos c3] at H
    have c3b0 : (t114 == 0) = true := beq_iff_eq.mpr c3
    have c3b1 : (t114 != 0) = false := bne_eq_false_iff_eq.mpr c3
    clear c3
    have HC4 := Aside0.mk H
    clear H
    go_enter Tryz.func45, Tryz.ntmps45
    go_upto_region 4 with (first | ((with_reducible refine gate_dst (N := 1) rfl ?_); refine box_event ?hg (N := 1) ?hd (cs := #[.string a0_0, .int .i64 a0_1, .int .i64 a0_2, .int .i64 a0_3, .int .i64 a0_4, .int .i64 a0_5, .int .i64 a0_6, .int .i64 a0_7, .slice A0_8 l0_8.length c0_8]) (t := 28) ?hr ?_; (case hd => rfl); (case hg => rfl); (case hr => first | (go_simp; done) | (go_simp; rfl)); intro gb113 hg w5 hbox hb; have n0_ := Aside0.mk (below_step (by repeat (first | (with_reducible first | exact HB.out | apply below_alloc | apply pw_below_drewN | apply below_drew1) | exact HB.out)) hb); have n1_ := Aside0.mk (hbox); have n2_ := Aside0.mk ((by rw [hg]; exact (below_size (by repeat (first | (with_reducible first | exact HB.out | apply below_alloc | apply pw_below_drewN | apply below_drew1) | exact HB.out))) : w.heap.size ≤ gb113)); have n3_ := Aside0.mk ((by rw [hg]; exact (below_size (by repeat (first | (with_reducible first | exact HB.out | apply below_alloc | apply pw_below_drewN | apply below_drew1) | exact HB.out))) : w.heap.size ≤ gb113)); clear HB; have HB := n0_; have BK113 := n1_; have GW113 := n2_; have GE113 := n3_; clear n0_ n1_ n2_ n3_; clear hb hbox hg; have hcz6_0 : w5.cell? ⟨gb113, 0, none⟩ = some (.string a0_0) := (blk_cell BK113.out 0).trans rfl; have hcz6_1 : w5.cell? ⟨gb113, 1, none⟩ = some (.int .i64 a0_1) := (blk_cell BK113.out 1).trans rfl; have hcz6_2 : w5.cell? ⟨gb113, 2, none⟩ = some (.int .i64 a0_2) := (blk_cell BK113.out 2).trans rfl; have hcz6_3 : w5.cell? ⟨gb113, 3, none⟩ = some (.int .i64 a0_3) := (blk_cell BK113.out 3).trans rfl; have hcz6_4 : w5.cell? ⟨gb113, 4, none⟩ = some (.int .i64 a0_4) := (blk_cell BK113.out 4).trans rfl; have hcz6_5 : w5.cell? ⟨gb113, 5, none⟩ = some (.int .i64 a0_5) := (blk_cell BK113.out 5).trans rfl; have hcz6_6 : w5.cell? ⟨gb113, 6, none⟩ = some (.int .i64 a0_6) := (blk_cell BK113.out 6).trans rfl; have hcz6_7 : w5.cell? ⟨gb113, 7, none⟩ = some (.int .i64 a0_7) := (blk_cell BK113.out 7).trans rfl; have hcz6_8 : w5.cell? ⟨gb113, 8, none⟩ = some (.slice A0_8 l0_8.length c0_8) := (blk_cell BK113.out 8).trans rfl; have hfz6_0 := blk_frozen BK113.out 0; have hfz6_1 := blk_frozen BK113.out 1; have hfz6_2 := blk_frozen BK113.out 2; have hfz6_3 := blk_frozen BK113.out 3; have hfz6_4 := blk_frozen BK113.out 4; have hfz6_5 := blk_frozen BK113.out 5; have hfz6_6 := blk_frozen BK113.out 6; have hfz6_7 := blk_frozen BK113.out 7; have hfz6_8 := blk_frozen BK113.out 8) | ((with_reducible refine gate_callee (f := 80) rfl ?_); refine goesL_ (some 7) rfl rfl Tryz.func80 (by kernel_rfl) rfl #[.string a0_0] rfl (by (try simp only [List.map_toArray, List.map_cons, List.map_nil]); first | done | rfl | (simp only [List.length_drop, List.length_take]; rfl)) ?_; (with_reducible refine (metrolabref17_Name.calls k a0_0 t114 _ A2.out).mono ?_); rintro e w' ⟨rfl, ⟨nd, rfl⟩⟩; refine ⟨_, rfl, ?_⟩))
    (try simp only [Act.put, List.setIfInBounds_toArray, List.set_cons_zero, List.set_cons_succ])
    go_cut [28] (fun v28 wc => ∃ (kq : Nat) (x28_3 : Bool), v28 = .bool x28_3 ∧ Aside0 (metrolabref18_Check.j0 kq x28_3 a0_0 a0_1 a0_2 a0_3 a0_4 a0_5 a0_6 a0_7 l0_8 = some r) ∧ Aside0 (kq ≤ k) ∧ Aside0 (wc.heap[gb113]? = some (.cells #[.string a0_0, .int .i64 a0_1, .int .i64 a0_2, .int .i64 a0_3, .int .i64 a0_4, .int .i64 a0_5, .int .i64 a0_6, .int .i64 a0_7, (.slice A0_8 l0_8.length c0_8)] 28 (0, 0))) ∧ Aside0 (Below w.heap.size w wc))
    case first =>
      have H := HC4.out
      clear HC4
      by_cases c7 : a0_1 < 0
      · rw [if_pos c7] at H
        have c7b0 : decide (a0_1 < 0) = true := decide_eq_true c7
        clear c7
        (first | rw [c7b0] | (simp only [i64_w, i32_w]; rw [c7b0]) | skip)
        have H' := Aside0.mk H
        clear H
        have hcz8_0 : w5.cell? ⟨gb113, 0, none⟩ = some (.string a0_0) := (blk_cell BK113.out 0).trans rfl
        have hcz8_1 : w5.cell? ⟨gb113, 1, none⟩ = some (.int .i64 a0_1) := (blk_cell BK113.out 1).trans rfl
        have hcz8_2 : w5.cell? ⟨gb113, 2, none⟩ = some (.int .i64 a0_2) := (blk_cell BK113.out 2).trans rfl
        have hcz8_3 : w5.cell? ⟨gb113, 3, none⟩ = some (.int .i64 a0_3) := (blk_cell BK113.out 3).trans rfl
        have hcz8_4 : w5.cell? ⟨gb113, 4, none⟩ = some (.int .i64 a0_4) := (blk_cell BK113.out 4).trans rfl
        have hcz8_5 : w5.cell? ⟨gb113, 5, none⟩ = some (.int .i64 a0_5) := (blk_cell BK113.out 5).trans rfl
        have hcz8_6 : w5.cell? ⟨gb113, 6, none⟩ = some (.int .i64 a0_6) := (blk_cell BK113.out 6).trans rfl
        have hcz8_7 : w5.cell? ⟨gb113, 7, none⟩ = some (.int .i64 a0_7) := (blk_cell BK113.out 7).trans rfl
        have hcz8_8 : w5.cell? ⟨gb113, 8, none⟩ = some (.slice A0_8 l0_8.length c0_8) := (blk_cell BK113.out 8).trans rfl
        have hfz8_0 := blk_frozen BK113.out 0
        have hfz8_1 := blk_frozen BK113.out 1
        have hfz8_2 := blk_frozen BK113.out 2
        have hfz8_3 := blk_frozen BK113.out 3
        have hfz8_4 := blk_frozen BK113.out 4
        have hfz8_5 := blk_frozen BK113.out 5
        have hfz8_6 := blk_frozen BK113.out 6
        have hfz8_7 := blk_frozen BK113.out 7
        have hfz8_8 := blk_frozen BK113.out 8
        go_wp2
        go_meet
        case rel => exact ⟨_, (true), (by first | rfl | exact congrArg Value.bool (not_empty _) | exact congrArg Value.bool (is_empty _) | (simp; done) | (simp [*]; done)), H', ⟨by first | omega | exact Nat.le_refl _⟩, ⟨by (with_reducible repeat (first | refine blk_drewN ?_ _ | refine blk_drew ?_ | refine blk_alloc ?_ _)); exact BK113.out⟩, ⟨by repeat (first | (with_reducible first | exact HB.out | apply below_alloc | apply pw_below_drewN | apply below_drew1 | refine below_set ?_ GE113.out) | exact HB.out)⟩⟩
      · rw [if_neg c7] at H
        have c7b0 : decide (a0_1 < 0) = false := decide_eq_false c7
        clear c7
        (first | rw [c7b0] | (simp only [i64_w, i32_w]; rw [c7b0]) | skip)
        by_cases c9 : a0_1 ≥ 5
        · rw [if_pos c9] at H
          have c9b0 : decide (5 ≤ a0_1) = true := decide_eq_true c9
          clear c9
          have H' := Aside0.mk H
          clear H
          have hcz10_0 : w5.cell? ⟨gb113, 0, none⟩ = some (.string a0_0) := (blk_cell BK113.out 0).trans rfl
          have hcz10_1 : w5.cell? ⟨gb113, 1, none⟩ = some (.int .i64 a0_1) := (blk_cell BK113.out 1).trans rfl
          have hcz10_2 : w5.cell? ⟨gb113, 2, none⟩ = some (.int .i64 a0_2) := (blk_cell BK113.out 2).trans rfl
          have hcz10_3 : w5.cell? ⟨gb113, 3, none⟩ = some (.int .i64 a0_3) := (blk_cell BK113.out 3).trans rfl
          have hcz10_4 : w5.cell? ⟨gb113, 4, none⟩ = some (.int .i64 a0_4) := (blk_cell BK113.out 4).trans rfl
          have hcz10_5 : w5.cell? ⟨gb113, 5, none⟩ = some (.int .i64 a0_5) := (blk_cell BK113.out 5).trans rfl
          have hcz10_6 : w5.cell? ⟨gb113, 6, none⟩ = some (.int .i64 a0_6) := (blk_cell BK113.out 6).trans rfl
          have hcz10_7 : w5.cell? ⟨gb113, 7, none⟩ = some (.int .i64 a0_7) := (blk_cell BK113.out 7).trans rfl
          have hcz10_8 : w5.cell? ⟨gb113, 8, none⟩ = some (.slice A0_8 l0_8.length c0_8) := (blk_cell BK113.out 8).trans rfl
          have hfz10_0 := blk_frozen BK113.out 0
          have hfz10_1 := blk_frozen BK113.out 1
          have hfz10_2 := blk_frozen BK113.out 2
          have hfz10_3 := blk_frozen BK113.out 3
          have hfz10_4 := blk_frozen BK113.out 4
          have hfz10_5 := blk_frozen BK113.out 5
          have hfz10_6 := blk_frozen BK113.out 6
          have hfz10_7 := blk_frozen BK113.out 7
          have hfz10_8 := blk_frozen BK113.out 8
          go_wp2
          go_meet
          case rel => exact ⟨_, (true), (by first | rfl | exact congrArg Value.bool (not_empty _) | exact congrArg Value.bool (is_empty _) | (simp; done) | (simp [*]; done)), H', ⟨by first | omega | exact Nat.le_refl _⟩, ⟨by (with_reducible repeat (first | refine blk_drewN ?_ _ | refine blk_drew ?_ | refine blk_alloc ?_ _)); exact BK113.out⟩, ⟨by repeat (first | (with_reducible first | exact HB.out | apply below_alloc | apply pw_below_drewN | apply below_drew1 | refine below_set ?_ GE113.out) | exact HB.out)⟩⟩
        · rw [if_neg c9] at H
          have c9b0 : decide (5 ≤ a0_1) = false := decide_eq_false c9
          clear c9
          by_cases c11 : a0_2 < 0
          · rw [if_pos c11] at H
            have c11b0 : decide (a0_2 < 0) = true := decide_eq_true c11
            clear c11
            have H' := Aside0.mk H
            clear H
            have hcz12_0 : w5.cell? ⟨gb113, 0, none⟩ = some (.string a0_0) := (blk_cell BK113.out 0).trans rfl
            have hcz12_1 : w5.cell? ⟨gb113, 1, none⟩ = some (.int .i64 a0_1) := (blk_cell BK113.out 1).trans rfl
            have hcz12_2 : w5.cell? ⟨gb113, 2, none⟩ = some (.int .i64 a0_2) := (blk_cell BK113.out 2).trans rfl
            have hcz12_3 : w5.cell? ⟨gb113, 3, none⟩ = some (.int .i64 a0_3) := (blk_cell BK113.out 3).trans rfl
            have hcz12_4 : w5.cell? ⟨gb113, 4, none⟩ = some (.int .i64 a0_4) := (blk_cell BK113.out 4).trans rfl
            have hcz12_5 : w5.cell? ⟨gb113, 5, none⟩ = some (.int .i64 a0_5) := (blk_cell BK113.out 5).trans rfl
            have hcz12_6 : w5.cell? ⟨gb113, 6, none⟩ = some (.int .i64 a0_6) := (blk_cell BK113.out 6).trans rfl
            have hcz12_7 : w5.cell? ⟨gb113, 7, none⟩ = some (.int .i64 a0_7) := (blk_cell BK113.out 7).trans rfl
            have hcz12_8 : w5.cell? ⟨gb113, 8, none⟩ = some (.slice A0_8 l0_8.length c0_8) := (blk_cell BK113.out 8).trans rfl
            have hfz12_0 := blk_frozen BK113.out 0
            have hfz12_1 := blk_frozen BK113.out 1
            have hfz12_2 := blk_frozen BK113.out 2
            have hfz12_3 := blk_frozen BK113.out 3
            have hfz12_4 := blk_frozen BK113.out 4
            have hfz12_5 := blk_frozen BK113.out 5
            have hfz12_6 := blk_frozen BK113.out 6
            have hfz12_7 := blk_frozen BK113.out 7
            have hfz12_8 := blk_frozen BK113.out 8
            go_wp2
            go_meet
            case rel => exact ⟨_, (true), (by first | rfl | exact congrArg Value.bool (not_empty _) | exact congrArg Value.bool (is_empty _) | (simp; done) | (simp [*]; done)), H', ⟨by first | omega | exact Nat.le_refl _⟩, ⟨by (with_reducible repeat (first | refine blk_drewN ?_ _ | refine blk_drew ?_ | refine blk_alloc ?_ _)); exact BK113.out⟩, ⟨by repeat (first | (with_reducible first | exact HB.out | apply below_alloc | apply pw_below_drewN | apply below_drew1 | refine below_set ?_ GE113.out) | exact HB.out)⟩⟩
          · rw [if_neg c11] at H
            have c11b0 : decide (a0_2 < 0) = false := decide_eq_false c11
            clear c11
            have H' := Aside0.mk H
            clear H
            have hcz13_0 : w5.cell? ⟨gb113, 0, none⟩ = some (.string a0_0) := (blk_cell BK113.out 0).trans rfl
            have hcz13_1 : w5.cell? ⟨gb113, 1, none⟩ = some (.int .i64 a0_1) := (blk_cell BK113.out 1).trans rfl
            have hcz13_2 : w5.cell? ⟨gb113, 2, none⟩ = some (.int .i64 a0_2) := (blk_cell BK113.out 2).trans rfl
            have hcz13_3 : w5.cell? ⟨gb113, 3, none⟩ = some (.int .i64 a0_3) := (blk_cell BK113.out 3).trans rfl
            have hcz13_4 : w5.cell? ⟨gb113, 4, none⟩ = some (.int .i64 a0_4) := (blk_cell BK113.out 4).trans rfl
            have hcz13_5 : w5.cell? ⟨gb113, 5, none⟩ = some (.int .i64 a0_5) := (blk_cell BK113.out 5).trans rfl
            have hcz13_6 : w5.cell? ⟨gb113, 6, none⟩ = some (.int .i64 a0_6) := (blk_cell BK113.out 6).trans rfl
            have hcz13_7 : w5.cell? ⟨gb113, 7, none⟩ = some (.int .i64 a0_7) := (blk_cell BK113.out 7).trans rfl
            have hcz13_8 : w5.cell? ⟨gb113, 8, none⟩ = some (.slice A0_8 l0_8.length c0_8) := (blk_cell BK113.out 8).trans rfl
            have hfz13_0 := blk_frozen BK113.out 0
            have hfz13_1 := blk_frozen BK113.out 1
            have hfz13_2 := blk_frozen BK113.out 2
            have hfz13_3 := blk_frozen BK113.out 3
            have hfz13_4 := blk_frozen BK113.out 4
            have hfz13_5 := blk_frozen BK113.out 5
            have hfz13_6 := blk_frozen BK113.out 6
            have hfz13_7 := blk_frozen BK113.out 7
            have hfz13_8 := blk_frozen BK113.out 8
            go_wp2
            go_meet
            case rel => exact ⟨_, (decide (a0_2 ≥ 3)), (by first | rfl | exact congrArg Value.bool (not_empty _) | exact congrArg Value.bool (is_empty _) | (simp; done) | (simp [*]; done)), H', ⟨by first | omega | exact Nat.le_refl _⟩, ⟨by (with_reducible repeat (first | refine blk_drewN ?_ _ | refine blk_drew ?_ | refine blk_alloc ?_ _)); exact BK113.out⟩, ⟨by repeat (first | (with_reducible first | exact HB.out | apply below_alloc | apply pw_below_drewN | apply below_drew1 | refine below_set ?_ GE113.out) | exact HB.out)⟩⟩
    case rest =>
      clear HC4
      try clear c1
      try clear p2
      try clear c3
      try clear c3b0
      try clear c3b1
      try clear c4
      try clear c7
      try clear c7b0
      try clear c8
      try clear c9
      try clear c9b0
      try clear c11
      try clear c11b0
      try clear hcz10_0
      try clear hcz10_1
      try clear hcz10_2
      try clear hcz10_3
      try clear hcz10_4
      try clear hcz10_5
      try clear hcz10_6
      try clear hcz10_7
      try clear hcz10_8
      try clear hcz12_0
      try clear hcz12_1
      try clear hcz12_2
      try clear hcz12_3
      try clear hcz12_4
      try clear hcz12_5
      try clear hcz12_6
      try clear hcz12_7
      try clear hcz12_8
      try clear hcz13_0
      try clear hcz13_1
      try clear hcz13_2
      try clear hcz13_3
      try clear hcz13_4
      try clear hcz13_5
      try clear hcz13_6
      try clear hcz13_7
      try clear hcz13_8
      try clear hcz6_0
      try clear hcz6_1
      try clear hcz6_2
      try clear hcz6_3
      try clear hcz6_4
      try clear hcz6_5
      try clear hcz6_6
      try clear hcz6_7
      try clear hcz6_8
      try clear hcz8_0
      try clear hcz8_1
      try clear hcz8_2
      try clear hcz8_3
      try clear hcz8_4
      try clear hcz8_5
      try clear hcz8_6
      try clear hcz8_7
      try clear hcz8_8
      try clear hfz10_0
      try clear hfz10_1
      try clear hfz10_2
      try clear hfz10_3
      try clear hfz10_4
      try clear hfz10_5
      try clear hfz10_6
      try clear hfz10_7
      try clear hfz10_8
      try clear hfz12_0
      try clear hfz12_1
      try clear hfz12_2
      try clear hfz12_3
      try clear hfz12_4
      try clear hfz12_5
      try clear hfz12_6
      try clear hfz12_7
      try clear hfz12_8
      try clear hfz13_0
      try clear hfz13_1
      try clear hfz13_2
      try clear hfz13_3
      try clear hfz13_4
      try clear hfz13_5
      try clear hfz13_6
      try clear hfz13_7
      try clear hfz13_8
      try clear hfz6_0
      try clear hfz6_1
      try clear hfz6_2
      try clear hfz6_3
      try clear hfz6_4
      try clear hfz6_5
      try clear hfz6_6
      try clear hfz6_7
      try clear hfz6_8
      try clear hfz8_0
      try clear hfz8_1
      try clear hfz8_2
      try clear hfz8_3
      try clear hfz8_4
      try clear hfz8_5
      try clear hfz8_6
      try clear hfz8_7
      try clear hfz8_8
      obtain ⟨kq, x28_3, rfl, HA, HJ3, BK113, HB⟩ := hcut
      cases kq with
      | zero => exact absurd HA.out (by simp [metrolabref18_Check.j0])
      | succ kj3 =>
        have H := HA.out
        clear HA
        simp only [metrolabref18_Check.j0] at H
        by_cases c14 : x28_3 = true
        · subst c14
          have H1 : (some 1) = some r := by rw [if_pos rfl] at H; exact H
          clear H
          have H := H1
          clear H1
          obtain rfl := Option.some.inj H
          go_wp2
          go_ret
          exact ⟨by first | rfl | (simp [errW_none, errW_some] <;> rfl) | (simp [*, errW_none, errW_some] <;> rfl), by repeat (first | (with_reducible first | exact HB.out | apply below_alloc | apply pw_below_drewN | apply below_drew1 | refine below_set ?_ GE113.out) | exact HB.out)⟩
        · replace c14 := Bool.eq_false_iff.mpr c14
          subst c14
          have H1 : (if a0_1 = 4 then (metrolabref18_Check.j1 kj3 (a0_2 != 0) a0_0 a0_1 a0_2 a0_3 a0_4 a0_5 a0_6 a0_7 l0_8) else (metrolabref18_Check.j1 kj3 false a0_0 a0_1 a0_2 a0_3 a0_4 a0_5 a0_6 a0_7 l0_8)) = some r := by rw [if_neg (show ¬ (false = true) by decide)] at H; exact H
          clear H
          have H := H1
          clear H1
          have HC15 := Aside0.mk H
          clear H
          go_upto_region 6 with (fail)
          go_cut [36] (fun v36 wc => ∃ (kq : Nat) (x36_14 : Bool), v36 = .bool x36_14 ∧ Aside0 (metrolabref18_Check.j1 kq x36_14 a0_0 a0_1 a0_2 a0_3 a0_4 a0_5 a0_6 a0_7 l0_8 = some r) ∧ Aside0 (kq ≤ kj3) ∧ Aside0 (wc.heap[gb113]? = some (.cells #[.string a0_0, .int .i64 a0_1, .int .i64 a0_2, .int .i64 a0_3, .int .i64 a0_4, .int .i64 a0_5, .int .i64 a0_6, .int .i64 a0_7, (.slice A0_8 l0_8.length c0_8)] 28 (0, 0))) ∧ Aside0 (Below w.heap.size w wc))
          case first =>
            have H := HC15.out
            clear HC15
            by_cases c16 : a0_1 = 4
            · rw [if_pos c16] at H
              have c16b0 : (a0_1 == 4) = true := beq_iff_eq.mpr c16
              have c16b1 : (a0_1 != 4) = false := bne_eq_false_iff_eq.mpr c16
              clear c16
              (first | rw [c16b0] | (simp only [i64_w, i32_w]; rw [c16b0]) | skip)
              have H' := Aside0.mk H
              clear H
              have hcz17_0 : wc.cell? ⟨gb113, 0, none⟩ = some (.string a0_0) := (blk_cell BK113.out 0).trans rfl
              have hcz17_1 : wc.cell? ⟨gb113, 1, none⟩ = some (.int .i64 a0_1) := (blk_cell BK113.out 1).trans rfl
              have hcz17_2 : wc.cell? ⟨gb113, 2, none⟩ = some (.int .i64 a0_2) := (blk_cell BK113.out 2).trans rfl
              have hcz17_3 : wc.cell? ⟨gb113, 3, none⟩ = some (.int .i64 a0_3) := (blk_cell BK113.out 3).trans rfl
              have hcz17_4 : wc.cell? ⟨gb113, 4, none⟩ = some (.int .i64 a0_4) := (blk_cell BK113.out 4).trans rfl
              have hcz17_5 : wc.cell? ⟨gb113, 5, none⟩ = some (.int .i64 a0_5) := (blk_cell BK113.out 5).trans rfl
              have hcz17_6 : wc.cell? ⟨gb113, 6, none⟩ = some (.int .i64 a0_6) := (blk_cell BK113.out 6).trans rfl
              have hcz17_7 : wc.cell? ⟨gb113, 7, none⟩ = some (.int .i64 a0_7) := (blk_cell BK113.out 7).trans rfl
              have hcz17_8 : wc.cell? ⟨gb113, 8, none⟩ = some (.slice A0_8 l0_8.length c0_8) := (blk_cell BK113.out 8).trans rfl
              have hfz17_0 := blk_frozen BK113.out 0
              have hfz17_1 := blk_frozen BK113.out 1
              have hfz17_2 := blk_frozen BK113.out 2
              have hfz17_3 := blk_frozen BK113.out 3
              have hfz17_4 := blk_frozen BK113.out 4
              have hfz17_5 := blk_frozen BK113.out 5
              have hfz17_6 := blk_frozen BK113.out 6
              have hfz17_7 := blk_frozen BK113.out 7
              have hfz17_8 := blk_frozen BK113.out 8
              go_wp2
              go_meet
              case rel => exact ⟨_, ((a0_2 != 0)), (by first | rfl | exact congrArg Value.bool (not_empty _) | exact congrArg Value.bool (is_empty _) | (simp; done) | (simp [*]; done)), H', ⟨by have := HJ3.out; first | omega | exact Nat.le_refl _⟩, ⟨by (with_reducible repeat (first | refine blk_drewN ?_ _ | refine blk_drew ?_ | refine blk_alloc ?_ _)); exact BK113.out⟩, ⟨by repeat (first | (with_reducible first | exact HB.out | apply below_alloc | apply pw_below_drewN | apply below_drew1 | refine below_set ?_ GE113.out) | exact HB.out)⟩⟩
            · rw [if_neg c16] at H
              have c16b0 : (a0_1 == 4) = false := beq_eq_false_iff_ne.mpr c16
              have c16b1 : (a0_1 != 4) = true := bne_iff_ne.mpr c16
              (first | rw [c16b0] | (simp only [i64_w, i32_w]; rw [c16b0]) | skip)
              have H' := Aside0.mk H
              clear H
              have hcz18_0 : wc.cell? ⟨gb113, 0, none⟩ = some (.string a0_0) := (blk_cell BK113.out 0).trans rfl
              have hcz18_1 : wc.cell? ⟨gb113, 1, none⟩ = some (.int .i64 a0_1) := (blk_cell BK113.out 1).trans rfl
              have hcz18_2 : wc.cell? ⟨gb113, 2, none⟩ = some (.int .i64 a0_2) := (blk_cell BK113.out 2).trans rfl
              have hcz18_3 : wc.cell? ⟨gb113, 3, none⟩ = some (.int .i64 a0_3) := (blk_cell BK113.out 3).trans rfl
              have hcz18_4 : wc.cell? ⟨gb113, 4, none⟩ = some (.int .i64 a0_4) := (blk_cell BK113.out 4).trans rfl
              have hcz18_5 : wc.cell? ⟨gb113, 5, none⟩ = some (.int .i64 a0_5) := (blk_cell BK113.out 5).trans rfl
              have hcz18_6 : wc.cell? ⟨gb113, 6, none⟩ = some (.int .i64 a0_6) := (blk_cell BK113.out 6).trans rfl
              have hcz18_7 : wc.cell? ⟨gb113, 7, none⟩ = some (.int .i64 a0_7) := (blk_cell BK113.out 7).trans rfl
              have hcz18_8 : wc.cell? ⟨gb113, 8, none⟩ = some (.slice A0_8 l0_8.length c0_8) := (blk_cell BK113.out 8).trans rfl
              have hfz18_0 := blk_frozen BK113.out 0
              have hfz18_1 := blk_frozen BK113.out 1
              have hfz18_2 := blk_frozen BK113.out 2
              have hfz18_3 := blk_frozen BK113.out 3
              have hfz18_4 := blk_frozen BK113.out 4
              have hfz18_5 := blk_frozen BK113.out 5
              have hfz18_6 := blk_frozen BK113.out 6
              have hfz18_7 := blk_frozen BK113.out 7
              have hfz18_8 := blk_frozen BK113.out 8
              go_wp2
              go_meet
              case rel => exact ⟨_, (false), (by first | rfl | exact congrArg Value.bool (not_empty _) | exact congrArg Value.bool (is_empty _) | (simp; done) | (simp [*]; done)), H', ⟨by have := HJ3.out; first | omega | exact Nat.le_refl _⟩, ⟨by (with_reducible repeat (first | refine blk_drewN ?_ _ | refine blk_drew ?_ | refine blk_alloc ?_ _)); exact BK113.out⟩, ⟨by repeat (first | (with_reducible first | exact HB.out | apply below_alloc | apply pw_below_drewN | apply below_drew1 | refine below_set ?_ GE113.out) | exact HB.out)⟩⟩
          case rest =>
            clear HC15
            try clear c1
            try clear p2
            try clear c3
            try clear c3b0
            try clear c3b1
            try clear c4
            try clear c7
            try clear c7b0
            try clear c8
            try clear c9
            try clear c9b0
            try clear c11
            try clear c11b0
            try clear c14
            try clear c16
            try clear c16b0
            try clear c16b1
            try clear hcz10_0
            try clear hcz10_1
            try clear hcz10_2
            try clear hcz10_3
            try clear hcz10_4
            try clear hcz10_5
            try clear hcz10_6
            try clear hcz10_7
            try clear hcz10_8
            try clear hcz12_0
            try clear hcz12_1
            try clear hcz12_2
            try clear hcz12_3
            try clear hcz12_4
            try clear hcz12_5
            try clear hcz12_6
            try clear hcz12_7
            try clear hcz12_8
            try clear hcz13_0
            try clear hcz13_1
            try clear hcz13_2
            try clear hcz13_3
            try clear hcz13_4
            try clear hcz13_5
            try clear hcz13_6
            try clear hcz13_7
            try clear hcz13_8
            try clear hcz17_0
            try clear hcz17_1
            try clear hcz17_2
            try clear hcz17_3
            try clear hcz17_4
            try clear hcz17_5
            try clear hcz17_6
            try clear hcz17_7
            try clear hcz17_8
            try clear hcz18_0
            try clear hcz18_1
            try clear hcz18_2
            try clear hcz18_3
            try clear hcz18_4
            try clear hcz18_5
            try clear hcz18_6
            try clear hcz18_7
            try clear hcz18_8
            try clear hcz6_0
            try clear hcz6_1
            try clear hcz6_2
            try clear hcz6_3
            try clear hcz6_4
            try clear hcz6_5
            try clear hcz6_6
            try clear hcz6_7
            try clear hcz6_8
            try clear hcz8_0
            try clear hcz8_1
            try clear hcz8_2
            try clear hcz8_3
            try clear hcz8_4
            try clear hcz8_5
            try clear hcz8_6
            try clear hcz8_7
            try clear hcz8_8
            try clear hfz10_0
            try clear hfz10_1
            try clear hfz10_2
            try clear hfz10_3
            try clear hfz10_4
            try clear hfz10_5
            try clear hfz10_6
            try clear hfz10_7
            try clear hfz10_8
            try clear hfz12_0
            try clear hfz12_1
            try clear hfz12_2
            try clear hfz12_3
            try clear hfz12_4
            try clear hfz12_5
            try clear hfz12_6
            try clear hfz12_7
            try clear hfz12_8
            try clear hfz13_0
            try clear hfz13_1
            try clear hfz13_2
            try clear hfz13_3
            try clear hfz13_4
            try clear hfz13_5
            try clear hfz13_6
            try clear hfz13_7
            try clear hfz13_8
            try clear hfz17_0
            try clear hfz17_1
            try clear hfz17_2
            try clear hfz17_3
            try clear hfz17_4
            try clear hfz17_5
            try clear hfz17_6
            try clear hfz17_7
            try clear hfz17_8
            try clear hfz18_0
            try clear hfz18_1
            try clear hfz18_2
            try clear hfz18_3
            try clear hfz18_4
            try clear hfz18_5
            try clear hfz18_6
            try clear hfz18_7
            try clear hfz18_8
            try clear hfz6_0
            try clear hfz6_1
            try clear hfz6_2
            try clear hfz6_3
            try clear hfz6_4
            try clear hfz6_5
            try clear hfz6_6
            try clear hfz6_7
            try clear hfz6_8
            try clear hfz8_0
            try clear hfz8_1
            try clear hfz8_2
            try clear hfz8_3
            try clear hfz8_4
            try clear hfz8_5
            try clear hfz8_6
            try clear hfz8_7
            try clear hfz8_8
            try clear p2
            obtain ⟨kq, x36_14, rfl, HA, HJ14, BK113, HB⟩ := hcut
            cases kq with
            | zero => exact absurd HA.out (by simp [metrolabref18_Check.j1])
            | succ kj14 =>
              have H := HA.out
              clear HA
              simp only [metrolabref18_Check.j1] at H
              by_cases c19 : x36_14 = true
              · subst c19
                have H1 : (some 3) = some r := by rw [if_pos rfl] at H; exact H
                clear H
                have H := H1
                clear H1
                obtain rfl := Option.some.inj H
                go_wp2
                go_ret
                exact ⟨by first | rfl | (simp [errW_none, errW_some] <;> rfl) | (simp [*, errW_none, errW_some] <;> rfl), by repeat (first | (with_reducible first | exact HB.out | apply below_alloc | apply pw_below_drewN | apply below_drew1 | refine below_set ?_ GE113.out) | exact HB.out)⟩
              · replace c19 := Bool.eq_false_iff.mpr c19
                subst c19
                have H1 : ((metrolabref17_In.f a0_3).bind fun t115 => (if t115 = true then ((metrolabref17_In.f a0_4).bind fun t116 => (if t116 = true then ((metrolabref17_In.f a0_5).bind fun t117 => (metrolabref18_Check.j2 kj14 (!t117) a0_0 a0_1 a0_2 a0_3 a0_4 a0_5 a0_6 a0_7 l0_8)) else (metrolabref18_Check.j2 kj14 true a0_0 a0_1 a0_2 a0_3 a0_4 a0_5 a0_6 a0_7 l0_8))) else (metrolabref18_Check.j2 kj14 true a0_0 a0_1 a0_2 a0_3 a0_4 a0_5 a0_6 a0_7 l0_8))) = some r := by rw [if_neg (show ¬ (false = true) by decide)] at H; exact H
                clear H
                have H := H1
                clear H1
                have HC20 := Aside0.mk H
                clear H
                go_upto_region 8 with (fail)
                go_cut [55] (fun v55 wc => ∃ (kq : Nat) (x55_19 : Bool), v55 = .bool x55_19 ∧ Aside0 (metrolabref18_Check.j2 kq x55_19 a0_0 a0_1 a0_2 a0_3 a0_4 a0_5 a0_6 a0_7 l0_8 = some r) ∧ Aside0 (kq ≤ kj14) ∧ Aside0 (wc.heap[gb113]? = some (.cells #[.string a0_0, .int .i64 a0_1, .int .i64 a0_2, .int .i64 a0_3, .int .i64 a0_4, .int .i64 a0_5, .int .i64 a0_6, .int .i64 a0_7, (.slice A0_8 l0_8.length c0_8)] 28 (0, 0))) ∧ Aside0 (Below w.heap.size w wc))
                case first =>
                  have H := HC20.out
                  clear HC20
                  replace H := Option.bind_eq_some_iff.mp H
                  obtain ⟨t115, A210, H⟩ := H
                  replace H : (if t115 = true then ((metrolabref17_In.f a0_4).bind fun t116 => (if t116 = true then ((metrolabref17_In.f a0_5).bind fun t117 => (metrolabref18_Check.j2 kj14 (!t117) a0_0 a0_1 a0_2 a0_3 a0_4 a0_5 a0_6 a0_7 l0_8)) else (metrolabref18_Check.j2 kj14 true a0_0 a0_1 a0_2 a0_3 a0_4 a0_5 a0_6 a0_7 l0_8))) else (metrolabref18_Check.j2 kj14 true a0_0 a0_1 a0_2 a0_3 a0_4 a0_5 a0_6 a0_7 l0_8)) = some r := H
                  have A21 := Aside0.mk A210
                  clear A210
                  by_cases c22 : t115 = true
                  · subst c22
                    have H1 : ((metrolabref17_In.f a0_4).bind fun t116 => (if t116 = true then ((metrolabref17_In.f a0_5).bind fun t117 => (metrolabref18_Check.j2 kj14 (!t117) a0_0 a0_1 a0_2 a0_3 a0_4 a0_5 a0_6 a0_7 l0_8)) else (metrolabref18_Check.j2 kj14 true a0_0 a0_1 a0_2 a0_3 a0_4 a0_5 a0_6 a0_7 l0_8))) = some r := by rw [if_pos rfl] at H; exact H
                    clear H
                    have H := H1
                    clear H1
                    replace H := Option.bind_eq_some_iff.mp H
                    obtain ⟨t116, A230, H⟩ := H
                    replace H : (if t116 = true then ((metrolabref17_In.f a0_5).bind fun t117 => (metrolabref18_Check.j2 kj14 (!t117) a0_0 a0_1 a0_2 a0_3 a0_4 a0_5 a0_6 a0_7 l0_8)) else (metrolabref18_Check.j2 kj14 true a0_0 a0_1 a0_2 a0_3 a0_4 a0_5 a0_6 a0_7 l0_8)) = some r := H
                    have A23 := Aside0.mk A230
                    clear A230
                    by_cases c24 : t116 = true
                    · subst c24
                      have H1 : ((metrolabref17_In.f a0_5).bind fun t117 => (metrolabref18_Check.j2 kj14 (!t117) a0_0 a0_1 a0_2 a0_3 a0_4 a0_5 a0_6 a0_7 l0_8)) = some r := by rw [if_pos rfl] at H; exact H
                      clear H
                      have H := H1
                      clear H1
                      replace H := Option.bind_eq_some_iff.mp H
                      obtain ⟨t117, A250, H⟩ := H
                      replace H : (metrolabref18_Check.j2 kj14 (!t117) a0_0 a0_1 a0_2 a0_3 a0_4 a0_5 a0_6 a0_7 l0_8) = some r := H
                      have A25 := Aside0.mk A250
                      clear A250
                      have H' := Aside0.mk H
                      clear H
                      have hcz26_0 : wc.cell? ⟨gb113, 0, none⟩ = some (.string a0_0) := (blk_cell BK113.out 0).trans rfl
                      have hcz26_1 : wc.cell? ⟨gb113, 1, none⟩ = some (.int .i64 a0_1) := (blk_cell BK113.out 1).trans rfl
                      have hcz26_2 : wc.cell? ⟨gb113, 2, none⟩ = some (.int .i64 a0_2) := (blk_cell BK113.out 2).trans rfl
                      have hcz26_3 : wc.cell? ⟨gb113, 3, none⟩ = some (.int .i64 a0_3) := (blk_cell BK113.out 3).trans rfl
                      have hcz26_4 : wc.cell? ⟨gb113, 4, none⟩ = some (.int .i64 a0_4) := (blk_cell BK113.out 4).trans rfl
                      have hcz26_5 : wc.cell? ⟨gb113, 5, none⟩ = some (.int .i64 a0_5) := (blk_cell BK113.out 5).trans rfl
                      have hcz26_6 : wc.cell? ⟨gb113, 6, none⟩ = some (.int .i64 a0_6) := (blk_cell BK113.out 6).trans rfl
                      have hcz26_7 : wc.cell? ⟨gb113, 7, none⟩ = some (.int .i64 a0_7) := (blk_cell BK113.out 7).trans rfl
                      have hcz26_8 : wc.cell? ⟨gb113, 8, none⟩ = some (.slice A0_8 l0_8.length c0_8) := (blk_cell BK113.out 8).trans rfl
                      have hfz26_0 := blk_frozen BK113.out 0
                      have hfz26_1 := blk_frozen BK113.out 1
                      have hfz26_2 := blk_frozen BK113.out 2
                      have hfz26_3 := blk_frozen BK113.out 3
                      have hfz26_4 := blk_frozen BK113.out 4
                      have hfz26_5 := blk_frozen BK113.out 5
                      have hfz26_6 := blk_frozen BK113.out 6
                      have hfz26_7 := blk_frozen BK113.out 7
                      have hfz26_8 := blk_frozen BK113.out 8
                      go_wp2_with (first | ((with_reducible refine gate_callee (f := 81) rfl ?_); refine goesL_ (some 40) rfl rfl Tryz.func81 (by kernel_rfl) rfl #[.int .i64 a0_3] rfl (by (try simp only [List.map_toArray, List.map_cons, List.map_nil]); first | done | rfl | (simp only [List.length_drop, List.length_take]; rfl)) ?_; (with_reducible refine (metrolabref17_In.calls a0_3 true _ A21.out).mono ?_); rintro e w' ⟨rfl, ⟨nd, rfl⟩⟩; refine ⟨_, rfl, ?_⟩) | (go_at_call 81; (with_reducible refine (metrolabref17_In.calls a0_4 true _ A23.out).mono ?_); rintro e w' ⟨rfl, ⟨nd, rfl⟩⟩) | (go_at_call 81; (with_reducible refine (metrolabref17_In.calls a0_5 t117 _ A25.out).mono ?_); rintro e w' ⟨rfl, ⟨nd, rfl⟩⟩))
                      go_meet
                      case rel => exact ⟨_, (!t117), (by first | rfl | exact congrArg Value.bool (not_empty _) | exact congrArg Value.bool (is_empty _) | (simp; done) | (simp [*]; done)), H', ⟨by have := HJ3.out; have := HJ14.out; first | omega | exact Nat.le_refl _⟩, ⟨by (with_reducible repeat (first | refine blk_drewN ?_ _ | refine blk_drew ?_ | refine blk_alloc ?_ _)); exact BK113.out⟩, ⟨by repeat (first | (with_reducible first | exact HB.out | apply below_alloc | apply pw_below_drewN | apply below_drew1 | refine below_set ?_ GE113.out) | exact HB.out)⟩⟩
                    · replace c24 := Bool.eq_false_iff.mpr c24
                      subst c24
                      have H1 : (metrolabref18_Check.j2 kj14 true a0_0 a0_1 a0_2 a0_3 a0_4 a0_5 a0_6 a0_7 l0_8) = some r := by rw [if_neg (show ¬ (false = true) by decide)] at H; exact H
                      clear H
                      have H := H1
                      clear H1
                      have H' := Aside0.mk H
                      clear H
                      have hcz27_0 : wc.cell? ⟨gb113, 0, none⟩ = some (.string a0_0) := (blk_cell BK113.out 0).trans rfl
                      have hcz27_1 : wc.cell? ⟨gb113, 1, none⟩ = some (.int .i64 a0_1) := (blk_cell BK113.out 1).trans rfl
                      have hcz27_2 : wc.cell? ⟨gb113, 2, none⟩ = some (.int .i64 a0_2) := (blk_cell BK113.out 2).trans rfl
                      have hcz27_3 : wc.cell? ⟨gb113, 3, none⟩ = some (.int .i64 a0_3) := (blk_cell BK113.out 3).trans rfl
                      have hcz27_4 : wc.cell? ⟨gb113, 4, none⟩ = some (.int .i64 a0_4) := (blk_cell BK113.out 4).trans rfl
                      have hcz27_5 : wc.cell? ⟨gb113, 5, none⟩ = some (.int .i64 a0_5) := (blk_cell BK113.out 5).trans rfl
                      have hcz27_6 : wc.cell? ⟨gb113, 6, none⟩ = some (.int .i64 a0_6) := (blk_cell BK113.out 6).trans rfl
                      have hcz27_7 : wc.cell? ⟨gb113, 7, none⟩ = some (.int .i64 a0_7) := (blk_cell BK113.out 7).trans rfl
                      have hcz27_8 : wc.cell? ⟨gb113, 8, none⟩ = some (.slice A0_8 l0_8.length c0_8) := (blk_cell BK113.out 8).trans rfl
                      have hfz27_0 := blk_frozen BK113.out 0
                      have hfz27_1 := blk_frozen BK113.out 1
                      have hfz27_2 := blk_frozen BK113.out 2
                      have hfz27_3 := blk_frozen BK113.out 3
                      have hfz27_4 := blk_frozen BK113.out 4
                      have hfz27_5 := blk_frozen BK113.out 5
                      have hfz27_6 := blk_frozen BK113.out 6
                      have hfz27_7 := blk_frozen BK113.out 7
                      have hfz27_8 := blk_frozen BK113.out 8
                      go_wp2_with (first | ((with_reducible refine gate_callee (f := 81) rfl ?_); refine goesL_ (some 40) rfl rfl Tryz.func81 (by kernel_rfl) rfl #[.int .i64 a0_3] rfl (by (try simp only [List.map_toArray, List.map_cons, List.map_nil]); first | done | rfl | (simp only [List.length_drop, List.length_take]; rfl)) ?_; (with_reducible refine (metrolabref17_In.calls a0_3 true _ A21.out).mono ?_); rintro e w' ⟨rfl, ⟨nd, rfl⟩⟩; refine ⟨_, rfl, ?_⟩) | (go_at_call 81; (with_reducible refine (metrolabref17_In.calls a0_4 false _ A23.out).mono ?_); rintro e w' ⟨rfl, ⟨nd, rfl⟩⟩))
                      go_meet
                      case rel => exact ⟨_, (true), (by first | rfl | exact congrArg Value.bool (not_empty _) | exact congrArg Value.bool (is_empty _) | (simp; done) | (simp [*]; done)), H', ⟨by have := HJ3.out; have := HJ14.out; first | omega | exact Nat.le_refl _⟩, ⟨by (with_reducible repeat (first | refine blk_drewN ?_ _ | refine blk_drew ?_ | refine blk_alloc ?_ _)); exact BK113.out⟩, ⟨by repeat (first | (with_reducible first | exact HB.out | apply below_alloc | apply pw_below_drewN | apply below_drew1 | refine below_set ?_ GE113.out) | exact HB.out)⟩⟩
                  · replace c22 := Bool.eq_false_iff.mpr c22
                    subst c22
                    have H1 : (metrolabref18_Check.j2 kj14 true a0_0 a0_1 a0_2 a0_3 a0_4 a0_5 a0_6 a0_7 l0_8) = some r := by rw [if_neg (show ¬ (false = true) by decide)] at H; exact H
                    clear H
                    have H := H1
                    clear H1
                    have H' := Aside0.mk H
                    clear H
                    have hcz28_0 : wc.cell? ⟨gb113, 0, none⟩ = some (.string a0_0) := (blk_cell BK113.out 0).trans rfl
                    have hcz28_1 : wc.cell? ⟨gb113, 1, none⟩ = some (.int .i64 a0_1) := (blk_cell BK113.out 1).trans rfl
                    have hcz28_2 : wc.cell? ⟨gb113, 2, none⟩ = some (.int .i64 a0_2) := (blk_cell BK113.out 2).trans rfl
                    have hcz28_3 : wc.cell? ⟨gb113, 3, none⟩ = some (.int .i64 a0_3) := (blk_cell BK113.out 3).trans rfl
                    have hcz28_4 : wc.cell? ⟨gb113, 4, none⟩ = some (.int .i64 a0_4) := (blk_cell BK113.out 4).trans rfl
                    have hcz28_5 : wc.cell? ⟨gb113, 5, none⟩ = some (.int .i64 a0_5) := (blk_cell BK113.out 5).trans rfl
                    have hcz28_6 : wc.cell? ⟨gb113, 6, none⟩ = some (.int .i64 a0_6) := (blk_cell BK113.out 6).trans rfl
                    have hcz28_7 : wc.cell? ⟨gb113, 7, none⟩ = some (.int .i64 a0_7) := (blk_cell BK113.out 7).trans rfl
                    have hcz28_8 : wc.cell? ⟨gb113, 8, none⟩ = some (.slice A0_8 l0_8.length c0_8) := (blk_cell BK113.out 8).trans rfl
                    have hfz28_0 := blk_frozen BK113.out 0
                    have hfz28_1 := blk_frozen BK113.out 1
                    have hfz28_2 := blk_frozen BK113.out 2
                    have hfz28_3 := blk_frozen BK113.out 3
                    have hfz28_4 := blk_frozen BK113.out 4
                    have hfz28_5 := blk_frozen BK113.out 5
                    have hfz28_6 := blk_frozen BK113.out 6
                    have hfz28_7 := blk_frozen BK113.out 7
                    have hfz28_8 := blk_frozen BK113.out 8
                    go_wp2_with (first | ((with_reducible refine gate_callee (f := 81) rfl ?_); refine goesL_ (some 40) rfl rfl Tryz.func81 (by kernel_rfl) rfl #[.int .i64 a0_3] rfl (by (try simp only [List.map_toArray, List.map_cons, List.map_nil]); first | done | rfl | (simp only [List.length_drop, List.length_take]; rfl)) ?_; (with_reducible refine (metrolabref17_In.calls a0_3 false _ A21.out).mono ?_); rintro e w' ⟨rfl, ⟨nd, rfl⟩⟩; refine ⟨_, rfl, ?_⟩))
                    go_meet
                    case rel => exact ⟨_, (true), (by first | rfl | exact congrArg Value.bool (not_empty _) | exact congrArg Value.bool (is_empty _) | (simp; done) | (simp [*]; done)), H', ⟨by have := HJ3.out; have := HJ14.out; first | omega | exact Nat.le_refl _⟩, ⟨by (with_reducible repeat (first | refine blk_drewN ?_ _ | refine blk_drew ?_ | refine blk_alloc ?_ _)); exact BK113.out⟩, ⟨by repeat (first | (with_reducible first | exact HB.out | apply below_alloc | apply pw_below_drewN | apply below_drew1 | refine below_set ?_ GE113.out) | exact HB.out)⟩⟩
                case rest =>
                  clear HC20
                  try clear c1
                  try clear c2
                  try clear p2
                  try clear c3
                  try clear c3b0
                  try clear c3b1
                  try clear c4
                  try clear c7
                  try clear c7b0
                  try clear c8
                  try clear c9
                  try clear c9b0
                  try clear c11
                  try clear c11b0
                  try clear c14
                  try clear c16
                  try clear c16b0
                  try clear c16b1
                  try clear c19
                  try clear c22
                  try clear c24
                  try clear hcz10_0
                  try clear hcz10_1
                  try clear hcz10_2
                  try clear hcz10_3
                  try clear hcz10_4
                  try clear hcz10_5
                  try clear hcz10_6
                  try clear hcz10_7
                  try clear hcz10_8
                  try clear hcz12_0
                  try clear hcz12_1
                  try clear hcz12_2
                  try clear hcz12_3
                  try clear hcz12_4
                  try clear hcz12_5
                  try clear hcz12_6
                  try clear hcz12_7
                  try clear hcz12_8
                  try clear hcz13_0
                  try clear hcz13_1
                  try clear hcz13_2
                  try clear hcz13_3
                  try clear hcz13_4
                  try clear hcz13_5
                  try clear hcz13_6
                  try clear hcz13_7
                  try clear hcz13_8
                  try clear hcz17_0
                  try clear hcz17_1
                  try clear hcz17_2
                  try clear hcz17_3
                  try clear hcz17_4
                  try clear hcz17_5
                  try clear hcz17_6
                  try clear hcz17_7
                  try clear hcz17_8
                  try clear hcz18_0
                  try clear hcz18_1
                  try clear hcz18_2
                  try clear hcz18_3
                  try clear hcz18_4
                  try clear hcz18_5
                  try clear hcz18_6
                  try clear hcz18_7
                  try clear hcz18_8
                  try clear hcz26_0
                  try clear hcz26_1
                  try clear hcz26_2
                  try clear hcz26_3
                  try clear hcz26_4
                  try clear hcz26_5
                  try clear hcz26_6
                  try clear hcz26_7
                  try clear hcz26_8
                  try clear hcz27_0
                  try clear hcz27_1
                  try clear hcz27_2
                  try clear hcz27_3
                  try clear hcz27_4
                  try clear hcz27_5
                  try clear hcz27_6
                  try clear hcz27_7
                  try clear hcz27_8
                  try clear hcz28_0
                  try clear hcz28_1
                  try clear hcz28_2
                  try clear hcz28_3
                  try clear hcz28_4
                  try clear hcz28_5
                  try clear hcz28_6
                  try clear hcz28_7
                  try clear hcz28_8
                  try clear hcz6_0
                  try clear hcz6_1
                  try clear hcz6_2
                  try clear hcz6_3
                  try clear hcz6_4
                  try clear hcz6_5
                  try clear hcz6_6
                  try clear hcz6_7
                  try clear hcz6_8
                  try clear hcz8_0
                  try clear hcz8_1
                  try clear hcz8_2
                  try clear hcz8_3
                  try clear hcz8_4
                  try clear hcz8_5
                  try clear hcz8_6
                  try clear hcz8_7
                  try clear hcz8_8
                  try clear hfz10_0
                  try clear hfz10_1
                  try clear hfz10_2
                  try clear hfz10_3
                  try clear hfz10_4
                  try clear hfz10_5
                  try clear hfz10_6
                  try clear hfz10_7
                  try clear hfz10_8
                  try clear hfz12_0
                  try clear hfz12_1
                  try clear hfz12_2
                  try clear hfz12_3
                  try clear hfz12_4
                  try clear hfz12_5
                  try clear hfz12_6
                  try clear hfz12_7
                  try clear hfz12_8
                  try clear hfz13_0
                  try clear hfz13_1
                  try clear hfz13_2
                  try clear hfz13_3
                  try clear hfz13_4
                  try clear hfz13_5
                  try clear hfz13_6
                  try clear hfz13_7
                  try clear hfz13_8
                  try clear hfz17_0
                  try clear hfz17_1
                  try clear hfz17_2
                  try clear hfz17_3
                  try clear hfz17_4
                  try clear hfz17_5
                  try clear hfz17_6
                  try clear hfz17_7
                  try clear hfz17_8
                  try clear hfz18_0
                  try clear hfz18_1
                  try clear hfz18_2
                  try clear hfz18_3
                  try clear hfz18_4
                  try clear hfz18_5
                  try clear hfz18_6
                  try clear hfz18_7
                  try clear hfz18_8
                  try clear hfz26_0
                  try clear hfz26_1
                  try clear hfz26_2
                  try clear hfz26_3
                  try clear hfz26_4
                  try clear hfz26_5
                  try clear hfz26_6
                  try clear hfz26_7
                  try clear hfz26_8
                  try clear hfz27_0
                  try clear hfz27_1
                  try clear hfz27_2
                  try clear hfz27_3
                  try clear hfz27_4
                  try clear hfz27_5
                  try clear hfz27_6
                  try clear hfz27_7
                  try clear hfz27_8
                  try clear hfz28_0
                  try clear hfz28_1
                  try clear hfz28_2
                  try clear hfz28_3
                  try clear hfz28_4
                  try clear hfz28_5
                  try clear hfz28_6
                  try clear hfz28_7
                  try clear hfz28_8
                  try clear hfz6_0
                  try clear hfz6_1
                  try clear hfz6_2
                  try clear hfz6_3
                  try clear hfz6_4
                  try clear hfz6_5
                  try clear hfz6_6
                  try clear hfz6_7
                  try clear hfz6_8
                  try clear hfz8_0
                  try clear hfz8_1
                  try clear hfz8_2
                  try clear hfz8_3
                  try clear hfz8_4
                  try clear hfz8_5
                  try clear hfz8_6
                  try clear hfz8_7
                  try clear hfz8_8
                  try clear p2
                  obtain ⟨kq, x55_19, rfl, HA, HJ19, BK113, HB⟩ := hcut
                  cases kq with
                  | zero => exact absurd HA.out (by simp [metrolabref18_Check.j2])
                  | succ kj19 =>
                    have H := HA.out
                    clear HA
                    simp only [metrolabref18_Check.j2] at H
                    by_cases c29 : x55_19 = true
                    · subst c29
                      have H1 : (some 2) = some r := by rw [if_pos rfl] at H; exact H
                      clear H
                      have H := H1
                      clear H1
                      obtain rfl := Option.some.inj H
                      go_wp2
                      go_ret
                      exact ⟨by first | rfl | (simp [errW_none, errW_some] <;> rfl) | (simp [*, errW_none, errW_some] <;> rfl), by repeat (first | (with_reducible first | exact HB.out | apply below_alloc | apply pw_below_drewN | apply below_drew1 | refine below_set ?_ GE113.out) | exact HB.out)⟩
                    · replace c29 := Bool.eq_false_iff.mpr c29
                      subst c29
                      have H1 : (if a0_1 = 0 then (if (!(a0_6 == 0) || (!(a0_7 == 0))) = true then (some 3) else (some 0)) else ((metrolabref17_Check.f kj19 a0_6 a0_7).bind fun t118 => (if t118 = 0 then (if a0_6 < 1 then (some 2) else (some 0)) else (some t118)))) = some r := by rw [if_neg (show ¬ (false = true) by decide)] at H; exact H
                      clear H
                      have H := H1
                      clear H1
                      by_cases c30 : a0_1 = 0
                      · rw [if_pos c30] at H
                        have c30b0 : (a0_1 == 0) = true := beq_iff_eq.mpr c30
                        have c30b1 : (a0_1 != 0) = false := bne_eq_false_iff_eq.mpr c30
                        clear c30
                        by_cases c31 : (!(a0_6 == 0) || (!(a0_7 == 0))) = true
                        · rw [if_pos c31] at H
                          have c31b0 : (!(a0_6 == 0) || (!(a0_7 == 0))) = true := c31
                          clear c31
                          obtain rfl := Option.some.inj H
                          have hcz32_0 : wc.cell? ⟨gb113, 0, none⟩ = some (.string a0_0) := (blk_cell BK113.out 0).trans rfl
                          have hcz32_1 : wc.cell? ⟨gb113, 1, none⟩ = some (.int .i64 a0_1) := (blk_cell BK113.out 1).trans rfl
                          have hcz32_2 : wc.cell? ⟨gb113, 2, none⟩ = some (.int .i64 a0_2) := (blk_cell BK113.out 2).trans rfl
                          have hcz32_3 : wc.cell? ⟨gb113, 3, none⟩ = some (.int .i64 a0_3) := (blk_cell BK113.out 3).trans rfl
                          have hcz32_4 : wc.cell? ⟨gb113, 4, none⟩ = some (.int .i64 a0_4) := (blk_cell BK113.out 4).trans rfl
                          have hcz32_5 : wc.cell? ⟨gb113, 5, none⟩ = some (.int .i64 a0_5) := (blk_cell BK113.out 5).trans rfl
                          have hcz32_6 : wc.cell? ⟨gb113, 6, none⟩ = some (.int .i64 a0_6) := (blk_cell BK113.out 6).trans rfl
                          have hcz32_7 : wc.cell? ⟨gb113, 7, none⟩ = some (.int .i64 a0_7) := (blk_cell BK113.out 7).trans rfl
                          have hcz32_8 : wc.cell? ⟨gb113, 8, none⟩ = some (.slice A0_8 l0_8.length c0_8) := (blk_cell BK113.out 8).trans rfl
                          have hfz32_0 := blk_frozen BK113.out 0
                          have hfz32_1 := blk_frozen BK113.out 1
                          have hfz32_2 := blk_frozen BK113.out 2
                          have hfz32_3 := blk_frozen BK113.out 3
                          have hfz32_4 := blk_frozen BK113.out 4
                          have hfz32_5 := blk_frozen BK113.out 5
                          have hfz32_6 := blk_frozen BK113.out 6
                          have hfz32_7 := blk_frozen BK113.out 7
                          have hfz32_8 := blk_frozen BK113.out 8
                          go_wp2
                          go_ret
                          exact ⟨by first | rfl | (simp [errW_none, errW_some] <;> rfl) | (simp [*, errW_none, errW_some] <;> rfl), by repeat (first | (with_reducible first | exact HB.out | apply below_alloc | apply pw_below_drewN | apply below_drew1 | refine below_set ?_ GE113.out) | exact HB.out)⟩
                        · rw [if_neg c31] at H
                          have c31b0 : (!(a0_6 == 0) || (!(a0_7 == 0))) = false := by simpa using c31
                          clear c31
                          obtain rfl := Option.some.inj H
                          have hcz33_0 : wc.cell? ⟨gb113, 0, none⟩ = some (.string a0_0) := (blk_cell BK113.out 0).trans rfl
                          have hcz33_1 : wc.cell? ⟨gb113, 1, none⟩ = some (.int .i64 a0_1) := (blk_cell BK113.out 1).trans rfl
                          have hcz33_2 : wc.cell? ⟨gb113, 2, none⟩ = some (.int .i64 a0_2) := (blk_cell BK113.out 2).trans rfl
                          have hcz33_3 : wc.cell? ⟨gb113, 3, none⟩ = some (.int .i64 a0_3) := (blk_cell BK113.out 3).trans rfl
                          have hcz33_4 : wc.cell? ⟨gb113, 4, none⟩ = some (.int .i64 a0_4) := (blk_cell BK113.out 4).trans rfl
                          have hcz33_5 : wc.cell? ⟨gb113, 5, none⟩ = some (.int .i64 a0_5) := (blk_cell BK113.out 5).trans rfl
                          have hcz33_6 : wc.cell? ⟨gb113, 6, none⟩ = some (.int .i64 a0_6) := (blk_cell BK113.out 6).trans rfl
                          have hcz33_7 : wc.cell? ⟨gb113, 7, none⟩ = some (.int .i64 a0_7) := (blk_cell BK113.out 7).trans rfl
                          have hcz33_8 : wc.cell? ⟨gb113, 8, none⟩ = some (.slice A0_8 l0_8.length c0_8) := (blk_cell BK113.out 8).trans rfl
                          have hfz33_0 := blk_frozen BK113.out 0
                          have hfz33_1 := blk_frozen BK113.out 1
                          have hfz33_2 := blk_frozen BK113.out 2
                          have hfz33_3 := blk_frozen BK113.out 3
                          have hfz33_4 := blk_frozen BK113.out 4
                          have hfz33_5 := blk_frozen BK113.out 5
                          have hfz33_6 := blk_frozen BK113.out 6
                          have hfz33_7 := blk_frozen BK113.out 7
                          have hfz33_8 := blk_frozen BK113.out 8
                          go_wp2
                          go_ret
                          exact ⟨by first | rfl | (simp [errW_none, errW_some] <;> rfl) | (simp [*, errW_none, errW_some] <;> rfl), by repeat (first | (with_reducible first | exact HB.out | apply below_alloc | apply pw_below_drewN | apply below_drew1 | refine below_set ?_ GE113.out) | exact HB.out)⟩
                      · rw [if_neg c30] at H
                        have c30b0 : (a0_1 == 0) = false := beq_eq_false_iff_ne.mpr c30
                        have c30b1 : (a0_1 != 0) = true := bne_iff_ne.mpr c30
                        replace H := Option.bind_eq_some_iff.mp H
                        obtain ⟨t118, A340, H⟩ := H
                        replace H : (if t118 = 0 then (if a0_6 < 1 then (some 2) else (some 0)) else (some t118)) = some r := H
                        have A34 := Aside0.mk A340
                        clear A340
                        by_cases c35 : t118 = 0
                        · rw [if_pos c35] at H
                          have c35b0 : (t118 == 0) = true := beq_iff_eq.mpr c35
                          have c35b1 : (t118 != 0) = false := bne_eq_false_iff_eq.mpr c35
                          clear c35
                          by_cases c36 : a0_6 < 1
                          · rw [if_pos c36] at H
                            have c36b0 : decide (a0_6 < 1) = true := decide_eq_true c36
                            clear c36
                            obtain rfl := Option.some.inj H
                            have hcz37_0 : wc.cell? ⟨gb113, 0, none⟩ = some (.string a0_0) := (blk_cell BK113.out 0).trans rfl
                            have hcz37_1 : wc.cell? ⟨gb113, 1, none⟩ = some (.int .i64 a0_1) := (blk_cell BK113.out 1).trans rfl
                            have hcz37_2 : wc.cell? ⟨gb113, 2, none⟩ = some (.int .i64 a0_2) := (blk_cell BK113.out 2).trans rfl
                            have hcz37_3 : wc.cell? ⟨gb113, 3, none⟩ = some (.int .i64 a0_3) := (blk_cell BK113.out 3).trans rfl
                            have hcz37_4 : wc.cell? ⟨gb113, 4, none⟩ = some (.int .i64 a0_4) := (blk_cell BK113.out 4).trans rfl
                            have hcz37_5 : wc.cell? ⟨gb113, 5, none⟩ = some (.int .i64 a0_5) := (blk_cell BK113.out 5).trans rfl
                            have hcz37_6 : wc.cell? ⟨gb113, 6, none⟩ = some (.int .i64 a0_6) := (blk_cell BK113.out 6).trans rfl
                            have hcz37_7 : wc.cell? ⟨gb113, 7, none⟩ = some (.int .i64 a0_7) := (blk_cell BK113.out 7).trans rfl
                            have hcz37_8 : wc.cell? ⟨gb113, 8, none⟩ = some (.slice A0_8 l0_8.length c0_8) := (blk_cell BK113.out 8).trans rfl
                            have hfz37_0 := blk_frozen BK113.out 0
                            have hfz37_1 := blk_frozen BK113.out 1
                            have hfz37_2 := blk_frozen BK113.out 2
                            have hfz37_3 := blk_frozen BK113.out 3
                            have hfz37_4 := blk_frozen BK113.out 4
                            have hfz37_5 := blk_frozen BK113.out 5
                            have hfz37_6 := blk_frozen BK113.out 6
                            have hfz37_7 := blk_frozen BK113.out 7
                            have hfz37_8 := blk_frozen BK113.out 8
                            go_wp2_with (first | ((with_reducible refine gate_callee (f := 82) rfl ?_); refine goesL_ (some 65) rfl rfl Tryz.func82 (by kernel_rfl) rfl #[.agg #[.int .i64 a0_6, .int .i64 a0_7]] rfl (by (try simp only [List.map_toArray, List.map_cons, List.map_nil]); first | done | rfl | (simp only [List.length_drop, List.length_take]; rfl)) ?_; (with_reducible refine (metrolabref17_Check.calls kj19 a0_6 a0_7 t118 _ A34.out).mono ?_); rintro e w38 ⟨rfl, hb⟩; refine ⟨_, rfl, ?_⟩; have n0_ := Aside0.mk (blk_below (g := gb113) (o := .cells #[.string a0_0, .int .i64 a0_1, .int .i64 a0_2, .int .i64 a0_3, .int .i64 a0_4, .int .i64 a0_5, .int .i64 a0_6, .int .i64 a0_7, .slice A0_8 l0_8.length c0_8] 28 (0, 0)) (by (with_reducible repeat (first | refine blk_drewN ?_ _ | refine blk_drew ?_ | refine blk_alloc ?_ _)); exact BK113.out) hb); have n1_ := Aside0.mk (below_step (by repeat (first | (with_reducible first | exact HB.out | apply below_alloc | apply pw_below_drewN | apply below_drew1 | refine below_set ?_ GE113.out) | exact HB.out)) hb); clear BK113; clear HB; have BK113 := n0_; have HB := n1_; clear n0_ n1_; (try clear hb); (try clear hb2); (try clear hk); (try clear hi); have hcz39_0 : w38.cell? ⟨gb113, 0, none⟩ = some (.string a0_0) := (blk_cell BK113.out 0).trans rfl; have hcz39_1 : w38.cell? ⟨gb113, 1, none⟩ = some (.int .i64 a0_1) := (blk_cell BK113.out 1).trans rfl; have hcz39_2 : w38.cell? ⟨gb113, 2, none⟩ = some (.int .i64 a0_2) := (blk_cell BK113.out 2).trans rfl; have hcz39_3 : w38.cell? ⟨gb113, 3, none⟩ = some (.int .i64 a0_3) := (blk_cell BK113.out 3).trans rfl; have hcz39_4 : w38.cell? ⟨gb113, 4, none⟩ = some (.int .i64 a0_4) := (blk_cell BK113.out 4).trans rfl; have hcz39_5 : w38.cell? ⟨gb113, 5, none⟩ = some (.int .i64 a0_5) := (blk_cell BK113.out 5).trans rfl; have hcz39_6 : w38.cell? ⟨gb113, 6, none⟩ = some (.int .i64 a0_6) := (blk_cell BK113.out 6).trans rfl; have hcz39_7 : w38.cell? ⟨gb113, 7, none⟩ = some (.int .i64 a0_7) := (blk_cell BK113.out 7).trans rfl; have hcz39_8 : w38.cell? ⟨gb113, 8, none⟩ = some (.slice A0_8 l0_8.length c0_8) := (blk_cell BK113.out 8).trans rfl; have hfz39_0 := blk_frozen BK113.out 0; have hfz39_1 := blk_frozen BK113.out 1; have hfz39_2 := blk_frozen BK113.out 2; have hfz39_3 := blk_frozen BK113.out 3; have hfz39_4 := blk_frozen BK113.out 4; have hfz39_5 := blk_frozen BK113.out 5; have hfz39_6 := blk_frozen BK113.out 6; have hfz39_7 := blk_frozen BK113.out 7; have hfz39_8 := blk_frozen BK113.out 8))
                            go_ret
                            exact ⟨by first | rfl | (simp [errW_none, errW_some] <;> rfl) | (simp [*, errW_none, errW_some] <;> rfl), by repeat (first | (with_reducible first | exact HB.out | apply below_alloc | apply pw_below_drewN | apply below_drew1 | refine below_set ?_ GE113.out) | exact HB.out)⟩
                          · rw [if_neg c36] at H
                            have c36b0 : decide (a0_6 < 1) = false := decide_eq_false c36
                            clear c36
                            obtain rfl := Option.some.inj H
                            have hcz40_0 : wc.cell? ⟨gb113, 0, none⟩ = some (.string a0_0) := (blk_cell BK113.out 0).trans rfl
                            have hcz40_1 : wc.cell? ⟨gb113, 1, none⟩ = some (.int .i64 a0_1) := (blk_cell BK113.out 1).trans rfl
                            have hcz40_2 : wc.cell? ⟨gb113, 2, none⟩ = some (.int .i64 a0_2) := (blk_cell BK113.out 2).trans rfl
                            have hcz40_3 : wc.cell? ⟨gb113, 3, none⟩ = some (.int .i64 a0_3) := (blk_cell BK113.out 3).trans rfl
                            have hcz40_4 : wc.cell? ⟨gb113, 4, none⟩ = some (.int .i64 a0_4) := (blk_cell BK113.out 4).trans rfl
                            have hcz40_5 : wc.cell? ⟨gb113, 5, none⟩ = some (.int .i64 a0_5) := (blk_cell BK113.out 5).trans rfl
                            have hcz40_6 : wc.cell? ⟨gb113, 6, none⟩ = some (.int .i64 a0_6) := (blk_cell BK113.out 6).trans rfl
                            have hcz40_7 : wc.cell? ⟨gb113, 7, none⟩ = some (.int .i64 a0_7) := (blk_cell BK113.out 7).trans rfl
                            have hcz40_8 : wc.cell? ⟨gb113, 8, none⟩ = some (.slice A0_8 l0_8.length c0_8) := (blk_cell BK113.out 8).trans rfl
                            have hfz40_0 := blk_frozen BK113.out 0
                            have hfz40_1 := blk_frozen BK113.out 1
                            have hfz40_2 := blk_frozen BK113.out 2
                            have hfz40_3 := blk_frozen BK113.out 3
                            have hfz40_4 := blk_frozen BK113.out 4
                            have hfz40_5 := blk_frozen BK113.out 5
                            have hfz40_6 := blk_frozen BK113.out 6
                            have hfz40_7 := blk_frozen BK113.out 7
                            have hfz40_8 := blk_frozen BK113.out 8
                            go_wp2_with (first | ((with_reducible refine gate_callee (f := 82) rfl ?_); refine goesL_ (some 65) rfl rfl Tryz.func82 (by kernel_rfl) rfl #[.agg #[.int .i64 a0_6, .int .i64 a0_7]] rfl (by (try simp only [List.map_toArray, List.map_cons, List.map_nil]); first | done | rfl | (simp only [List.length_drop, List.length_take]; rfl)) ?_; (with_reducible refine (metrolabref17_Check.calls kj19 a0_6 a0_7 t118 _ A34.out).mono ?_); rintro e w41 ⟨rfl, hb⟩; refine ⟨_, rfl, ?_⟩; have n0_ := Aside0.mk (blk_below (g := gb113) (o := .cells #[.string a0_0, .int .i64 a0_1, .int .i64 a0_2, .int .i64 a0_3, .int .i64 a0_4, .int .i64 a0_5, .int .i64 a0_6, .int .i64 a0_7, .slice A0_8 l0_8.length c0_8] 28 (0, 0)) (by (with_reducible repeat (first | refine blk_drewN ?_ _ | refine blk_drew ?_ | refine blk_alloc ?_ _)); exact BK113.out) hb); have n1_ := Aside0.mk (below_step (by repeat (first | (with_reducible first | exact HB.out | apply below_alloc | apply pw_below_drewN | apply below_drew1 | refine below_set ?_ GE113.out) | exact HB.out)) hb); clear BK113; clear HB; have BK113 := n0_; have HB := n1_; clear n0_ n1_; (try clear hb); (try clear hb2); (try clear hk); (try clear hi); have hcz42_0 : w41.cell? ⟨gb113, 0, none⟩ = some (.string a0_0) := (blk_cell BK113.out 0).trans rfl; have hcz42_1 : w41.cell? ⟨gb113, 1, none⟩ = some (.int .i64 a0_1) := (blk_cell BK113.out 1).trans rfl; have hcz42_2 : w41.cell? ⟨gb113, 2, none⟩ = some (.int .i64 a0_2) := (blk_cell BK113.out 2).trans rfl; have hcz42_3 : w41.cell? ⟨gb113, 3, none⟩ = some (.int .i64 a0_3) := (blk_cell BK113.out 3).trans rfl; have hcz42_4 : w41.cell? ⟨gb113, 4, none⟩ = some (.int .i64 a0_4) := (blk_cell BK113.out 4).trans rfl; have hcz42_5 : w41.cell? ⟨gb113, 5, none⟩ = some (.int .i64 a0_5) := (blk_cell BK113.out 5).trans rfl; have hcz42_6 : w41.cell? ⟨gb113, 6, none⟩ = some (.int .i64 a0_6) := (blk_cell BK113.out 6).trans rfl; have hcz42_7 : w41.cell? ⟨gb113, 7, none⟩ = some (.int .i64 a0_7) := (blk_cell BK113.out 7).trans rfl; have hcz42_8 : w41.cell? ⟨gb113, 8, none⟩ = some (.slice A0_8 l0_8.length c0_8) := (blk_cell BK113.out 8).trans rfl; have hfz42_0 := blk_frozen BK113.out 0; have hfz42_1 := blk_frozen BK113.out 1; have hfz42_2 := blk_frozen BK113.out 2; have hfz42_3 := blk_frozen BK113.out 3; have hfz42_4 := blk_frozen BK113.out 4; have hfz42_5 := blk_frozen BK113.out 5; have hfz42_6 := blk_frozen BK113.out 6; have hfz42_7 := blk_frozen BK113.out 7; have hfz42_8 := blk_frozen BK113.out 8))
                            go_ret
                            exact ⟨by first | rfl | (simp [errW_none, errW_some] <;> rfl) | (simp [*, errW_none, errW_some] <;> rfl), by repeat (first | (with_reducible first | exact HB.out | apply below_alloc | apply pw_below_drewN | apply below_drew1 | refine below_set ?_ GE113.out) | exact HB.out)⟩
                        · rw [if_neg c35] at H
                          have c35b0 : (t118 == 0) = false := beq_eq_false_iff_ne.mpr c35
                          have c35b1 : (t118 != 0) = true := bne_iff_ne.mpr c35
                          obtain rfl := Option.some.inj H
                          have hcz43_0 : wc.cell? ⟨gb113, 0, none⟩ = some (.string a0_0) := (blk_cell BK113.out 0).trans rfl
                          have hcz43_1 : wc.cell? ⟨gb113, 1, none⟩ = some (.int .i64 a0_1) := (blk_cell BK113.out 1).trans rfl
                          have hcz43_2 : wc.cell? ⟨gb113, 2, none⟩ = some (.int .i64 a0_2) := (blk_cell BK113.out 2).trans rfl
                          have hcz43_3 : wc.cell? ⟨gb113, 3, none⟩ = some (.int .i64 a0_3) := (blk_cell BK113.out 3).trans rfl
                          have hcz43_4 : wc.cell? ⟨gb113, 4, none⟩ = some (.int .i64 a0_4) := (blk_cell BK113.out 4).trans rfl
                          have hcz43_5 : wc.cell? ⟨gb113, 5, none⟩ = some (.int .i64 a0_5) := (blk_cell BK113.out 5).trans rfl
                          have hcz43_6 : wc.cell? ⟨gb113, 6, none⟩ = some (.int .i64 a0_6) := (blk_cell BK113.out 6).trans rfl
                          have hcz43_7 : wc.cell? ⟨gb113, 7, none⟩ = some (.int .i64 a0_7) := (blk_cell BK113.out 7).trans rfl
                          have hcz43_8 : wc.cell? ⟨gb113, 8, none⟩ = some (.slice A0_8 l0_8.length c0_8) := (blk_cell BK113.out 8).trans rfl
                          have hfz43_0 := blk_frozen BK113.out 0
                          have hfz43_1 := blk_frozen BK113.out 1
                          have hfz43_2 := blk_frozen BK113.out 2
                          have hfz43_3 := blk_frozen BK113.out 3
                          have hfz43_4 := blk_frozen BK113.out 4
                          have hfz43_5 := blk_frozen BK113.out 5
                          have hfz43_6 := blk_frozen BK113.out 6
                          have hfz43_7 := blk_frozen BK113.out 7
                          have hfz43_8 := blk_frozen BK113.out 8
                          go_wp2_with (first | ((with_reducible refine gate_callee (f := 82) rfl ?_); refine goesL_ (some 65) rfl rfl Tryz.func82 (by kernel_rfl) rfl #[.agg #[.int .i64 a0_6, .int .i64 a0_7]] rfl (by (try simp only [List.map_toArray, List.map_cons, List.map_nil]); first | done | rfl | (simp only [List.length_drop, List.length_take]; rfl)) ?_; (with_reducible refine (metrolabref17_Check.calls kj19 a0_6 a0_7 t118 _ A34.out).mono ?_); rintro e w44 ⟨rfl, hb⟩; refine ⟨_, rfl, ?_⟩; have n0_ := Aside0.mk (blk_below (g := gb113) (o := .cells #[.string a0_0, .int .i64 a0_1, .int .i64 a0_2, .int .i64 a0_3, .int .i64 a0_4, .int .i64 a0_5, .int .i64 a0_6, .int .i64 a0_7, .slice A0_8 l0_8.length c0_8] 28 (0, 0)) (by (with_reducible repeat (first | refine blk_drewN ?_ _ | refine blk_drew ?_ | refine blk_alloc ?_ _)); exact BK113.out) hb); have n1_ := Aside0.mk (below_step (by repeat (first | (with_reducible first | exact HB.out | apply below_alloc | apply pw_below_drewN | apply below_drew1 | refine below_set ?_ GE113.out) | exact HB.out)) hb); clear BK113; clear HB; have BK113 := n0_; have HB := n1_; clear n0_ n1_; (try clear hb); (try clear hb2); (try clear hk); (try clear hi)))
                          go_ret
                          exact ⟨by first | rfl | (simp [errW_none, errW_some] <;> rfl) | (simp [*, errW_none, errW_some] <;> rfl), by repeat (first | (with_reducible first | exact HB.out | apply below_alloc | apply pw_below_drewN | apply below_drew1 | refine below_set ?_ GE113.out) | exact HB.out)⟩
  · rw [if_neg c3] at H
    have c3b0 : (t114 == 0) = false := beq_eq_false_iff_ne.mpr c3
    have c3b1 : (t114 != 0) = true := bne_iff_ne.mpr c3
    obtain rfl := Option.some.inj H
    go_enter Tryz.func45, Tryz.ntmps45
    go_wp2_with (first | ((with_reducible refine gate_dst (N := 1) rfl ?_); refine box_event ?hg (N := 1) ?hd (cs := #[.string a0_0, .int .i64 a0_1, .int .i64 a0_2, .int .i64 a0_3, .int .i64 a0_4, .int .i64 a0_5, .int .i64 a0_6, .int .i64 a0_7, .slice A0_8 l0_8.length c0_8]) (t := 28) ?hr ?_; (case hd => rfl); (case hg => rfl); (case hr => first | (go_simp; done) | (go_simp; rfl)); intro gb113 hg w45 hbox hb; have n0_ := Aside0.mk (below_step (by repeat (first | (with_reducible first | exact HB.out | apply below_alloc | apply pw_below_drewN | apply below_drew1) | exact HB.out)) hb); have n1_ := Aside0.mk (hbox); have n2_ := Aside0.mk ((by rw [hg]; exact (below_size (by repeat (first | (with_reducible first | exact HB.out | apply below_alloc | apply pw_below_drewN | apply below_drew1) | exact HB.out))) : w.heap.size ≤ gb113)); have n3_ := Aside0.mk ((by rw [hg]; exact (below_size (by repeat (first | (with_reducible first | exact HB.out | apply below_alloc | apply pw_below_drewN | apply below_drew1) | exact HB.out))) : w.heap.size ≤ gb113)); clear HB; have HB := n0_; have BK113 := n1_; have GW113 := n2_; have GE113 := n3_; clear n0_ n1_ n2_ n3_; clear hb hbox hg; have hcz46_0 : w45.cell? ⟨gb113, 0, none⟩ = some (.string a0_0) := (blk_cell BK113.out 0).trans rfl; have hcz46_1 : w45.cell? ⟨gb113, 1, none⟩ = some (.int .i64 a0_1) := (blk_cell BK113.out 1).trans rfl; have hcz46_2 : w45.cell? ⟨gb113, 2, none⟩ = some (.int .i64 a0_2) := (blk_cell BK113.out 2).trans rfl; have hcz46_3 : w45.cell? ⟨gb113, 3, none⟩ = some (.int .i64 a0_3) := (blk_cell BK113.out 3).trans rfl; have hcz46_4 : w45.cell? ⟨gb113, 4, none⟩ = some (.int .i64 a0_4) := (blk_cell BK113.out 4).trans rfl; have hcz46_5 : w45.cell? ⟨gb113, 5, none⟩ = some (.int .i64 a0_5) := (blk_cell BK113.out 5).trans rfl; have hcz46_6 : w45.cell? ⟨gb113, 6, none⟩ = some (.int .i64 a0_6) := (blk_cell BK113.out 6).trans rfl; have hcz46_7 : w45.cell? ⟨gb113, 7, none⟩ = some (.int .i64 a0_7) := (blk_cell BK113.out 7).trans rfl; have hcz46_8 : w45.cell? ⟨gb113, 8, none⟩ = some (.slice A0_8 l0_8.length c0_8) := (blk_cell BK113.out 8).trans rfl; have hfz46_0 := blk_frozen BK113.out 0; have hfz46_1 := blk_frozen BK113.out 1; have hfz46_2 := blk_frozen BK113.out 2; have hfz46_3 := blk_frozen BK113.out 3; have hfz46_4 := blk_frozen BK113.out 4; have hfz46_5 := blk_frozen BK113.out 5; have hfz46_6 := blk_frozen BK113.out 6; have hfz46_7 := blk_frozen BK113.out 7; have hfz46_8 := blk_frozen BK113.out 8) | ((with_reducible refine gate_callee (f := 80) rfl ?_); refine goesL_ (some 7) rfl rfl Tryz.func80 (by kernel_rfl) rfl #[.string a0_0] rfl (by (try simp only [List.map_toArray, List.map_cons, List.map_nil]); first | done | rfl | (simp only [List.length_drop, List.length_take]; rfl)) ?_; (with_reducible refine (metrolabref17_Name.calls k a0_0 t114 _ A2.out).mono ?_); rintro e w' ⟨rfl, ⟨nd, rfl⟩⟩; refine ⟨_, rfl, ?_⟩))
    go_ret
    exact ⟨by first | rfl | (simp [errW_none, errW_some] <;> rfl) | (simp [*, errW_none, errW_some] <;> rfl), by repeat (first | (with_reducible first | exact HB.out | apply below_alloc | apply pw_below_drewN | apply below_drew1 | refine below_set ?_ GE113.out) | exact HB.out)⟩
end Go.Proofs.YtkohjcfmcliioaaGreatDoor.ZA
namespace Go.Proofs.YtkohjcfmcliioaaGreatDoor.ZA
open Go.RowKit Go.Proofs.YtkohjcfmcliioaaGreatDoorW.PrintWords Go.Proofs.YtkohjcfmcliioaaGreatDoorW.PrintLast Go.Proofs.YtkohjcfmcliioaaGreatDoorW.PrintMore
attribute [local go_sem] max2_int min2_int max_two min_two max_three min_three max_four min_four   -- for this text's walks alone
set_option linter.unusedVariables false
set_option linter.unusedSimpArgs false
def metrolabref18_Hollow.f (a0_0 : ByteArray) (a0_1 : Int) (a0_2 : Int) (a0_3 : Int) (a0_4 : Int) (a0_5 : Int) (a0_6 : Int) (a0_7 : Int) (l0_8 : List (S31)) : Option (Bool) := if a0_1 = 1 then (some true) else (some (a0_1 == 3))
def metrolabref18_sized.f (k : Nat) (a0_0 : ByteArray) (a0_1 : Int) (a0_2 : Int) (a0_3 : Int) (a0_4 : Int) (a0_5 : Int) (a0_6 : Int) (a0_7 : Int) (l0_8 : List (S31)) : Option (Int) := (metrolabref18_Check.f k a0_0 a0_1 a0_2 a0_3 a0_4 a0_5 a0_6 a0_7 l0_8).bind fun t121 => (if t121 = 0 then (if a0_1 = 0 then (some 14) else (some 0)) else (some t121))
theorem metrolabref18_sized.mono : ∀ a0 a1 a2 a3 a4 a5 a6 a7 a8 k, LeO (metrolabref18_sized.f k a0 a1 a2 a3 a4 a5 a6 a7 a8) (metrolabref18_sized.f (k + 1) a0 a1 a2 a3 a4 a5 a6 a7 a8) := by
  intro a0 a1 a2 a3 a4 a5 a6 a7 a8 k
  unfold metrolabref18_sized.f
  repeat' first
      | (with_reducible exact metrolabref18_Check.mono _ _ _ _ _ _ _ _ _ _)
      | (with_reducible exact LeO.refl _)
      | (with_reducible exact LeO.none _)
      | (with_reducible refine LeO.ite ?_ ?_)
      | (with_reducible refine LeO.bind ?_ (fun _ => ?_))
      | exact metrolabref18_Check.mono _ _ _ _ _ _ _ _ _ _
      | exact LeO.none _
      | refine LeO.ite ?_ ?_
      | refine LeO.bind ?_ (fun _ => ?_)
def metrolabref18_Maximum.f (k : Nat) (a0_0 : ByteArray) (a0_1 : Int) (a0_2 : Int) (a0_3 : Int) (a0_4 : Int) (a0_5 : Int) (a0_6 : Int) (a0_7 : Int) (l0_8 : List (S31)) : Option (Int × Int) := (metrolabref18_sized.f k a0_0 a0_1 a0_2 a0_3 a0_4 a0_5 a0_6 a0_7 l0_8).bind fun t123 => (if t123 = 0 then ((metrolabref18_Hollow.f a0_0 a0_1 a0_2 a0_3 a0_4 a0_5 a0_6 a0_7 l0_8).bind fun t124 => (if t124 = true then (some (a0_6, 0)) else (some (a0_7, 0)))) else (some (0, t123)))
theorem metrolabref18_Maximum.mono : ∀ a0 a1 a2 a3 a4 a5 a6 a7 a8 k, LeO (metrolabref18_Maximum.f k a0 a1 a2 a3 a4 a5 a6 a7 a8) (metrolabref18_Maximum.f (k + 1) a0 a1 a2 a3 a4 a5 a6 a7 a8) := by
  intro a0 a1 a2 a3 a4 a5 a6 a7 a8 k
  unfold metrolabref18_Maximum.f
  repeat' first
      | (with_reducible exact metrolabref18_sized.mono _ _ _ _ _ _ _ _ _ _)
      | (with_reducible exact LeO.refl _)
      | (with_reducible exact LeO.none _)
      | (with_reducible refine LeO.ite ?_ ?_)
      | (with_reducible refine LeO.bind ?_ (fun _ => ?_))
      | exact metrolabref18_sized.mono _ _ _ _ _ _ _ _ _ _
      | exact LeO.none _
      | refine LeO.ite ?_ ?_
      | refine LeO.bind ?_ (fun _ => ?_)
def metrolabref18_Least.f (k : Nat) (a0_0 : ByteArray) (a0_1 : Int) (a0_2 : Int) (a0_3 : Int) (a0_4 : Int) (a0_5 : Int) (a0_6 : Int) (a0_7 : Int) (l0_8 : List (S31)) : Option (Int × Int) := (metrolabref18_sized.f k a0_0 a0_1 a0_2 a0_3 a0_4 a0_5 a0_6 a0_7 l0_8).bind fun t126 => (if t126 = 0 then ((metrolabref18_Hollow.f a0_0 a0_1 a0_2 a0_3 a0_4 a0_5 a0_6 a0_7 l0_8).bind fun t127 => (if t127 = true then (some (a0_7, 0)) else (some (a0_6, 0)))) else (some (0, t126)))
theorem metrolabref18_Least.mono : ∀ a0 a1 a2 a3 a4 a5 a6 a7 a8 k, LeO (metrolabref18_Least.f k a0 a1 a2 a3 a4 a5 a6 a7 a8) (metrolabref18_Least.f (k + 1) a0 a1 a2 a3 a4 a5 a6 a7 a8) := by
  intro a0 a1 a2 a3 a4 a5 a6 a7 a8 k
  unfold metrolabref18_Least.f
  repeat' first
      | (with_reducible exact metrolabref18_sized.mono _ _ _ _ _ _ _ _ _ _)
      | (with_reducible exact LeO.refl _)
      | (with_reducible exact LeO.none _)
      | (with_reducible refine LeO.ite ?_ ?_)
      | (with_reducible refine LeO.bind ?_ (fun _ => ?_))
      | exact metrolabref18_sized.mono _ _ _ _ _ _ _ _ _ _
      | exact LeO.none _
      | refine LeO.ite ?_ ?_
      | refine LeO.bind ?_ (fun _ => ?_)
end Go.Proofs.YtkohjcfmcliioaaGreatDoor.ZA
namespace Go.Proofs.YtkohjcfmcliioaaGreatDoor.ZA
open Go.RowKit Go.Proofs.YtkohjcfmcliioaaGreatDoorW.PrintWords Go.Proofs.YtkohjcfmcliioaaGreatDoorW.PrintLast Go.Proofs.YtkohjcfmcliioaaGreatDoorW.PrintMore
attribute [local go_sem] max2_int min2_int max_two min_two max_three min_three max_four min_four   -- for this text's walks alone
set_option linter.unusedVariables false
set_option linter.unusedSimpArgs false
attribute [local go_sem high] eqA76
mutual
def metrolabref18_SameFrames.l0 : Nat → List (S31) → List (S31) → Int → Option (Bool)
  | 0, _, _, _ => none
  | k + 1, x0, x1, x5 => if x5 < (x0.length : Int) then (if 0 ≤ x5 then (if x5 < (x1.length : Int) then (if ((rd_T31 x0 x5).f0) = ((rd_T31 x1 x5).f0) then (if (((rd_T31 x0 x5).f1) != ((rd_T31 x1 x5).f1)) = true then (metrolabref18_SameFrames.j1 k x0 x1 x5 true ((rd_T31 x0 x5).f0) ((rd_T31 x0 x5).f1) ((rd_T31 x0 x5).f2) ((rd_T31 x0 x5).f3) ((rd_T31 x0 x5).f4) ((rd_T31 x1 x5).f0) ((rd_T31 x1 x5).f1) ((rd_T31 x1 x5).f2) ((rd_T31 x1 x5).f3) ((rd_T31 x1 x5).f4)) else (if ((rd_T31 x0 x5).f2) = ((rd_T31 x1 x5).f2) then (if ((rd_T31 x0 x5).f3) = ((rd_T31 x1 x5).f3) then (metrolabref18_SameFrames.j1 k x0 x1 x5 ((((rd_T31 x0 x5).f4).length : Int) != (((rd_T31 x1 x5).f4).length : Int)) ((rd_T31 x0 x5).f0) ((rd_T31 x0 x5).f1) ((rd_T31 x0 x5).f2) ((rd_T31 x0 x5).f3) ((rd_T31 x0 x5).f4) ((rd_T31 x1 x5).f0) ((rd_T31 x1 x5).f1) ((rd_T31 x1 x5).f2) ((rd_T31 x1 x5).f3) ((rd_T31 x1 x5).f4)) else (metrolabref18_SameFrames.j1 k x0 x1 x5 true ((rd_T31 x0 x5).f0) ((rd_T31 x0 x5).f1) ((rd_T31 x0 x5).f2) ((rd_T31 x0 x5).f3) ((rd_T31 x0 x5).f4) ((rd_T31 x1 x5).f0) ((rd_T31 x1 x5).f1) ((rd_T31 x1 x5).f2) ((rd_T31 x1 x5).f3) ((rd_T31 x1 x5).f4))) else (metrolabref18_SameFrames.j1 k x0 x1 x5 true ((rd_T31 x0 x5).f0) ((rd_T31 x0 x5).f1) ((rd_T31 x0 x5).f2) ((rd_T31 x0 x5).f3) ((rd_T31 x0 x5).f4) ((rd_T31 x1 x5).f0) ((rd_T31 x1 x5).f1) ((rd_T31 x1 x5).f2) ((rd_T31 x1 x5).f3) ((rd_T31 x1 x5).f4)))) else (metrolabref18_SameFrames.j1 k x0 x1 x5 true ((rd_T31 x0 x5).f0) ((rd_T31 x0 x5).f1) ((rd_T31 x0 x5).f2) ((rd_T31 x0 x5).f3) ((rd_T31 x0 x5).f4) ((rd_T31 x1 x5).f0) ((rd_T31 x1 x5).f1) ((rd_T31 x1 x5).f2) ((rd_T31 x1 x5).f3) ((rd_T31 x1 x5).f4))) else (none)) else (none)) else (some true)
def metrolabref18_SameFrames.j1 : Nat → List (S31) → List (S31) → Int → Bool → Int → Bool → Int → Int → List (S76) → Int → Bool → Int → Int → List (S76) → Option (Bool)
  | 0, _, _, _, _, _, _, _, _, _, _, _, _, _, _ => none
  | k + 1, x0, x1, x5, x62, x131000, x131001, x131002, x131003, x131004, x132000, x132001, x132002, x132003, x132004 => if x62 = true then (some false) else (metrolabref18_SameFrames.l1 k x0 x1 x5 0 x131000 x131001 x131002 x131003 x131004 x132000 x132001 x132002 x132003 x132004)
def metrolabref18_SameFrames.l1 : Nat → List (S31) → List (S31) → Int → Int → Int → Bool → Int → Int → List (S76) → Int → Bool → Int → Int → List (S76) → Option (Bool)
  | 0, _, _, _, _, _, _, _, _, _, _, _, _, _, _ => none
  | k + 1, x0, x1, x5, x8, x131000, x131001, x131002, x131003, x131004, x132000, x132001, x132002, x132003, x132004 => if x8 < (x131004.length : Int) then (if 0 ≤ x8 then (if x8 < (x132004.length : Int) then (if (!((((rd_T76 x131004 x8).f0).toList) == (((rd_T76 x132004 x8).f0).toList)) || (!(((rd_T76 x131004 x8).f1) == ((rd_T76 x132004 x8).f1)))) = true then (some false) else (metrolabref18_SameFrames.l1 k x0 x1 x5 (wrap64 (x8 + 1)) x131000 x131001 x131002 x131003 x131004 x132000 x132001 x132002 x132003 x132004)) else (none)) else (none)) else (metrolabref18_SameFrames.l0 k x0 x1 (wrap64 (x5 + 1)))
end
def metrolabref18_SameFrames.f (k : Nat) (l0 : List (S31)) (l1 : List (S31)) : Option (Bool) := if (l0.length : Int) = (l1.length : Int) then (metrolabref18_SameFrames.l0 k l0 l1 0) else (some false)
theorem metrolabref18_SameFrames.mono_l : ∀ k, (∀ y0 y1 y2, LeO (metrolabref18_SameFrames.l0 k y0 y1 y2) (metrolabref18_SameFrames.l0 (k + 1) y0 y1 y2)) ∧ (∀ y0 y1 y2 y3 y4 y5 y6 y7 y8 y9 y10 y11 y12 y13, LeO (metrolabref18_SameFrames.j1 k y0 y1 y2 y3 y4 y5 y6 y7 y8 y9 y10 y11 y12 y13) (metrolabref18_SameFrames.j1 (k + 1) y0 y1 y2 y3 y4 y5 y6 y7 y8 y9 y10 y11 y12 y13)) ∧ (∀ y0 y1 y2 y3 y4 y5 y6 y7 y8 y9 y10 y11 y12 y13, LeO (metrolabref18_SameFrames.l1 k y0 y1 y2 y3 y4 y5 y6 y7 y8 y9 y10 y11 y12 y13) (metrolabref18_SameFrames.l1 (k + 1) y0 y1 y2 y3 y4 y5 y6 y7 y8 y9 y10 y11 y12 y13))
  | 0 => ⟨fun _ _ _ r h => by simp [metrolabref18_SameFrames.l0] at h, fun _ _ _ _ _ _ _ _ _ _ _ _ _ _ r h => by simp [metrolabref18_SameFrames.j1] at h, fun _ _ _ _ _ _ _ _ _ _ _ _ _ _ r h => by simp [metrolabref18_SameFrames.l1] at h⟩
  | k + 1 => by
    obtain ⟨ih0, ih1, ih2⟩ := metrolabref18_SameFrames.mono_l k
    refine ⟨?_, ?_, ?_⟩
    · intro y0 y1 y2
      unfold metrolabref18_SameFrames.l0
      repeat' first
      | (with_reducible exact ih0 _ _ _)
      | (with_reducible exact ih1 _ _ _ _ _ _ _ _ _ _ _ _ _ _)
      | (with_reducible exact ih2 _ _ _ _ _ _ _ _ _ _ _ _ _ _)
      | (with_reducible exact LeO.refl _)
      | (with_reducible exact LeO.none _)
      | (with_reducible refine LeO.ite ?_ ?_)
      | (with_reducible refine LeO.bind ?_ (fun _ => ?_))
      | exact ih0 _ _ _
      | exact ih1 _ _ _ _ _ _ _ _ _ _ _ _ _ _
      | exact ih2 _ _ _ _ _ _ _ _ _ _ _ _ _ _
      | exact LeO.none _
      | refine LeO.ite ?_ ?_
      | refine LeO.bind ?_ (fun _ => ?_)
    · intro y0 y1 y2 y3 y4 y5 y6 y7 y8 y9 y10 y11 y12 y13
      unfold metrolabref18_SameFrames.j1
      repeat' first
      | (with_reducible exact ih0 _ _ _)
      | (with_reducible exact ih1 _ _ _ _ _ _ _ _ _ _ _ _ _ _)
      | (with_reducible exact ih2 _ _ _ _ _ _ _ _ _ _ _ _ _ _)
      | (with_reducible exact LeO.refl _)
      | (with_reducible exact LeO.none _)
      | (with_reducible refine LeO.ite ?_ ?_)
      | (with_reducible refine LeO.bind ?_ (fun _ => ?_))
      | exact ih0 _ _ _
      | exact ih1 _ _ _ _ _ _ _ _ _ _ _ _ _ _
      | exact ih2 _ _ _ _ _ _ _ _ _ _ _ _ _ _
      | exact LeO.none _
      | refine LeO.ite ?_ ?_
      | refine LeO.bind ?_ (fun _ => ?_)
    · intro y0 y1 y2 y3 y4 y5 y6 y7 y8 y9 y10 y11 y12 y13
      unfold metrolabref18_SameFrames.l1
      repeat' first
      | (with_reducible exact ih0 _ _ _)
      | (with_reducible exact ih1 _ _ _ _ _ _ _ _ _ _ _ _ _ _)
      | (with_reducible exact ih2 _ _ _ _ _ _ _ _ _ _ _ _ _ _)
      | (with_reducible exact LeO.refl _)
      | (with_reducible exact LeO.none _)
      | (with_reducible refine LeO.ite ?_ ?_)
      | (with_reducible refine LeO.bind ?_ (fun _ => ?_))
      | exact ih0 _ _ _
      | exact ih1 _ _ _ _ _ _ _ _ _ _ _ _ _ _
      | exact ih2 _ _ _ _ _ _ _ _ _ _ _ _ _ _
      | exact LeO.none _
      | refine LeO.ite ?_ ?_
      | refine LeO.bind ?_ (fun _ => ?_)
theorem metrolabref18_SameFrames.mono : ∀ a0 a1 k, LeO (metrolabref18_SameFrames.f k a0 a1) (metrolabref18_SameFrames.f (k + 1) a0 a1) := by
  intro a0 a1 k
  obtain ⟨ih0, ih1, ih2⟩ := metrolabref18_SameFrames.mono_l k
  unfold metrolabref18_SameFrames.f
  repeat' first
      | (with_reducible exact ih0 _ _ _)
      | (with_reducible exact ih1 _ _ _ _ _ _ _ _ _ _ _ _ _ _)
      | (with_reducible exact ih2 _ _ _ _ _ _ _ _ _ _ _ _ _ _)
      | (with_reducible exact LeO.refl _)
      | (with_reducible exact LeO.none _)
      | (with_reducible refine LeO.ite ?_ ?_)
      | (with_reducible refine LeO.bind ?_ (fun _ => ?_))
      | exact ih0 _ _ _
      | exact ih1 _ _ _ _ _ _ _ _ _ _ _ _ _ _
      | exact ih2 _ _ _ _ _ _ _ _ _ _ _ _ _ _
      | exact LeO.none _
      | refine LeO.ite ?_ ?_
      | refine LeO.bind ?_ (fun _ => ?_)
end Go.Proofs.YtkohjcfmcliioaaGreatDoor.ZA
namespace Go.Proofs.YtkohjcfmcliioaaGreatDoor.ZA
open Go.RowKit Go.Proofs.YtkohjcfmcliioaaGreatDoorW.PrintWords Go.Proofs.YtkohjcfmcliioaaGreatDoorW.PrintLast Go.Proofs.YtkohjcfmcliioaaGreatDoorW.PrintMore
attribute [local go_sem] max2_int min2_int max_two min_two max_three min_three max_four min_four   -- for this text's walks alone
set_option linter.unusedVariables false
set_option linter.unusedSimpArgs false
mutual
def metrolabref18_Few.j0 : Nat → Bool → ByteArray → Int → Int → Int → Int → Int → Int → Int → List (S31) → Option (Bool)
  | 0, _, _, _, _, _, _, _, _, _, _ => none
  | k + 1, x14, x135000, x135001, x135002, x135003, x135004, x135005, x135006, x135007, x135008 => if x14 = true then (some false) else (metrolabref18_Few.l0 k 0 x135000 x135001 x135002 x135003 x135004 x135005 x135006 x135007 x135008)
def metrolabref18_Few.l0 : Nat → Int → ByteArray → Int → Int → Int → Int → Int → Int → Int → List (S31) → Option (Bool)
  | 0, _, _, _, _, _, _, _, _, _, _ => none
  | k + 1, x3, x135000, x135001, x135002, x135003, x135004, x135005, x135006, x135007, x135008 => if x3 < (x135008.length : Int) then (if 0 ≤ x3 then (if (((rd_T31 x135008 x3).f4).length : Int) > 6 then (some false) else (metrolabref18_Few.l1 k x3 0 x135000 x135001 x135002 x135003 x135004 x135005 x135006 x135007 x135008)) else (none)) else (some true)
def metrolabref18_Few.l1 : Nat → Int → Int → ByteArray → Int → Int → Int → Int → Int → Int → Int → List (S31) → Option (Bool)
  | 0, _, _, _, _, _, _, _, _, _, _, _ => none
  | k + 1, x3, x4, x135000, x135001, x135002, x135003, x135004, x135005, x135006, x135007, x135008 => if 0 ≤ x3 then (if x3 < (x135008.length : Int) then (if x4 < (((rd_T31 x135008 x3).f4).length : Int) then (if 0 ≤ x4 then (if (((rd_T76 ((rd_T31 x135008 x3).f4) x4).f0).size : Int) > 100 then (some false) else (metrolabref18_Few.l1 k x3 (wrap64 (x4 + 1)) x135000 x135001 x135002 x135003 x135004 x135005 x135006 x135007 x135008)) else (none)) else (metrolabref18_Few.l0 k (wrap64 (x3 + 1)) x135000 x135001 x135002 x135003 x135004 x135005 x135006 x135007 x135008)) else (none)) else (none)
end
def metrolabref18_Few.f (k : Nat) (a0_0 : ByteArray) (a0_1 : Int) (a0_2 : Int) (a0_3 : Int) (a0_4 : Int) (a0_5 : Int) (a0_6 : Int) (a0_7 : Int) (l0_8 : List (S31)) : Option (Bool) := if (a0_0.size : Int) > 100 then (metrolabref18_Few.j0 k true a0_0 a0_1 a0_2 a0_3 a0_4 a0_5 a0_6 a0_7 l0_8) else (metrolabref18_Few.j0 k (decide ((l0_8.length : Int) > 12)) a0_0 a0_1 a0_2 a0_3 a0_4 a0_5 a0_6 a0_7 l0_8)
theorem metrolabref18_Few.mono_l : ∀ k, (∀ y0 y1 y2 y3 y4 y5 y6 y7 y8 y9, LeO (metrolabref18_Few.j0 k y0 y1 y2 y3 y4 y5 y6 y7 y8 y9) (metrolabref18_Few.j0 (k + 1) y0 y1 y2 y3 y4 y5 y6 y7 y8 y9)) ∧ (∀ y0 y1 y2 y3 y4 y5 y6 y7 y8 y9, LeO (metrolabref18_Few.l0 k y0 y1 y2 y3 y4 y5 y6 y7 y8 y9) (metrolabref18_Few.l0 (k + 1) y0 y1 y2 y3 y4 y5 y6 y7 y8 y9)) ∧ (∀ y0 y1 y2 y3 y4 y5 y6 y7 y8 y9 y10, LeO (metrolabref18_Few.l1 k y0 y1 y2 y3 y4 y5 y6 y7 y8 y9 y10) (metrolabref18_Few.l1 (k + 1) y0 y1 y2 y3 y4 y5 y6 y7 y8 y9 y10))
  | 0 => ⟨fun _ _ _ _ _ _ _ _ _ _ r h => by simp [metrolabref18_Few.j0] at h, fun _ _ _ _ _ _ _ _ _ _ r h => by simp [metrolabref18_Few.l0] at h, fun _ _ _ _ _ _ _ _ _ _ _ r h => by simp [metrolabref18_Few.l1] at h⟩
  | k + 1 => by
    obtain ⟨ih0, ih1, ih2⟩ := metrolabref18_Few.mono_l k
    refine ⟨?_, ?_, ?_⟩
    · intro y0 y1 y2 y3 y4 y5 y6 y7 y8 y9
      unfold metrolabref18_Few.j0
      repeat' first
      | (with_reducible exact ih0 _ _ _ _ _ _ _ _ _ _)
      | (with_reducible exact ih1 _ _ _ _ _ _ _ _ _ _)
      | (with_reducible exact ih2 _ _ _ _ _ _ _ _ _ _ _)
      | (with_reducible exact LeO.refl _)
      | (with_reducible exact LeO.none _)
      | (with_reducible refine LeO.ite ?_ ?_)
      | (with_reducible refine LeO.bind ?_ (fun _ => ?_))
      | exact ih0 _ _ _ _ _ _ _ _ _ _
      | exact ih1 _ _ _ _ _ _ _ _ _ _
      | exact ih2 _ _ _ _ _ _ _ _ _ _ _
      | exact LeO.none _
      | refine LeO.ite ?_ ?_
      | refine LeO.bind ?_ (fun _ => ?_)
    · intro y0 y1 y2 y3 y4 y5 y6 y7 y8 y9
      unfold metrolabref18_Few.l0
      repeat' first
      | (with_reducible exact ih0 _ _ _ _ _ _ _ _ _ _)
      | (with_reducible exact ih1 _ _ _ _ _ _ _ _ _ _)
      | (with_reducible exact ih2 _ _ _ _ _ _ _ _ _ _ _)
      | (with_reducible exact LeO.refl _)
      | (with_reducible exact LeO.none _)
      | (with_reducible refine LeO.ite ?_ ?_)
      | (with_reducible refine LeO.bind ?_ (fun _ => ?_))
      | exact ih0 _ _ _ _ _ _ _ _ _ _
      | exact ih1 _ _ _ _ _ _ _ _ _ _
      | exact ih2 _ _ _ _ _ _ _ _ _ _ _
      | exact LeO.none _
      | refine LeO.ite ?_ ?_
      | refine LeO.bind ?_ (fun _ => ?_)
    · intro y0 y1 y2 y3 y4 y5 y6 y7 y8 y9 y10
      unfold metrolabref18_Few.l1
      repeat' first
      | (with_reducible exact ih0 _ _ _ _ _ _ _ _ _ _)
      | (with_reducible exact ih1 _ _ _ _ _ _ _ _ _ _)
      | (with_reducible exact ih2 _ _ _ _ _ _ _ _ _ _ _)
      | (with_reducible exact LeO.refl _)
      | (with_reducible exact LeO.none _)
      | (with_reducible refine LeO.ite ?_ ?_)
      | (with_reducible refine LeO.bind ?_ (fun _ => ?_))
      | exact ih0 _ _ _ _ _ _ _ _ _ _
      | exact ih1 _ _ _ _ _ _ _ _ _ _
      | exact ih2 _ _ _ _ _ _ _ _ _ _ _
      | exact LeO.none _
      | refine LeO.ite ?_ ?_
      | refine LeO.bind ?_ (fun _ => ?_)
theorem metrolabref18_Few.mono : ∀ a0 a1 a2 a3 a4 a5 a6 a7 a8 k, LeO (metrolabref18_Few.f k a0 a1 a2 a3 a4 a5 a6 a7 a8) (metrolabref18_Few.f (k + 1) a0 a1 a2 a3 a4 a5 a6 a7 a8) := by
  intro a0 a1 a2 a3 a4 a5 a6 a7 a8 k
  obtain ⟨ih0, ih1, ih2⟩ := metrolabref18_Few.mono_l k
  unfold metrolabref18_Few.f
  repeat' first
      | (with_reducible exact ih0 _ _ _ _ _ _ _ _ _ _)
      | (with_reducible exact ih1 _ _ _ _ _ _ _ _ _ _)
      | (with_reducible exact ih2 _ _ _ _ _ _ _ _ _ _ _)
      | (with_reducible exact LeO.refl _)
      | (with_reducible exact LeO.none _)
      | (with_reducible refine LeO.ite ?_ ?_)
      | (with_reducible refine LeO.bind ?_ (fun _ => ?_))
      | exact ih0 _ _ _ _ _ _ _ _ _ _
      | exact ih1 _ _ _ _ _ _ _ _ _ _
      | exact ih2 _ _ _ _ _ _ _ _ _ _ _
      | exact LeO.none _
      | refine LeO.ite ?_ ?_
      | refine LeO.bind ?_ (fun _ => ?_)
set_option maxHeartbeats 8000000 in
set_option maxRecDepth 100000 in
theorem metrolabref18_Few.calls (k : Nat) (a0_0 : ByteArray) (a0_1 : Int) (a0_2 : Int) (a0_3 : Int) (a0_4 : Int) (a0_5 : Int) (a0_6 : Int) (a0_7 : Int) (A0_8 : Option Addr) (c0_8 : Nat) (l0_8 : List (S31)) (r : Bool) (w : World) (hr0_8 : Kd.C k31 w A0_8 l0_8.length l0_8) (hc0_8 : l0_8.length ≤ c0_8) (h : metrolabref18_Few.f k a0_0 a0_1 a0_2 a0_3 a0_4 a0_5 a0_6 a0_7 l0_8 = some r) :
    Calls Tryz.prog 10 #[.agg #[.string a0_0, .int .i64 a0_1, .int .i64 a0_2, .int .i64 a0_3, .int .i64 a0_4, .int .i64 a0_5, .int .i64 a0_6, .int .i64 a0_7, .slice A0_8 l0_8.length c0_8]] w fun e w' => e = .returned (.bool r) ∧ Below w.heap.size w w' := by
  have hu28 := Tryz.underlying28
  have HR0_8 := Aside0.mk hr0_8
  have HC0_8 := Aside0.mk hc0_8
  clear hr0_8 hc0_8
  have HB := Aside0.mk (Below.refl w.heap.size w)
  have H : (if (a0_0.size : Int) > 100 then (metrolabref18_Few.j0 k true a0_0 a0_1 a0_2 a0_3 a0_4 a0_5 a0_6 a0_7 l0_8) else (metrolabref18_Few.j0 k (decide ((l0_8.length : Int) > 12)) a0_0 a0_1 a0_2 a0_3 a0_4 a0_5 a0_6 a0_7 l0_8)) = some r := h
  clear h
  have HC2 := Aside0.mk H
  clear H
  go_enter Tryz.func10, Tryz.ntmps10
  go_upto_region 1 with (first | ((with_reducible refine gate_dst (N := 1) rfl ?_); (try (refine gate_guard (by rfl) ?_; dsimp only)); refine box_event ?hg (N := 1) ?hd (cs := #[.string a0_0, .int .i64 a0_1, .int .i64 a0_2, .int .i64 a0_3, .int .i64 a0_4, .int .i64 a0_5, .int .i64 a0_6, .int .i64 a0_7, .slice A0_8 l0_8.length c0_8]) (t := 28) ?hr ?_; (case hd => rfl); (case hg => rfl); (case hr => first | (go_simp; done) | (go_simp; rfl)); intro gb134 hg w3 hbox hb; have n0_ := Aside0.mk (below_step (by repeat (first | (with_reducible first | exact HB.out | apply below_alloc | apply pw_below_drewN | apply below_drew1) | exact HB.out)) hb); have n1_ := Aside0.mk (hbox); have n2_ := Aside0.mk ((by rw [hg]; exact (below_size (by repeat (first | (with_reducible first | exact HB.out | apply below_alloc | apply pw_below_drewN | apply below_drew1) | exact HB.out))) : w.heap.size ≤ gb134)); have n3_ := Aside0.mk ((by rw [hg]; exact (below_size (by repeat (first | (with_reducible first | exact HB.out | apply below_alloc | apply pw_below_drewN | apply below_drew1) | exact HB.out))) : w.heap.size ≤ gb134)); clear HB; have HB := n0_; have BK134 := n1_; have GW134 := n2_; have GE134 := n3_; clear n0_ n1_ n2_ n3_; clear hb hbox hg))
  (try simp only [Act.put, List.setIfInBounds_toArray, List.set_cons_zero, List.set_cons_succ])
  go_cut [14] (fun v14 wc => ∃ (kq : Nat) (x14_1 : Bool), v14 = .bool x14_1 ∧ Aside0 (metrolabref18_Few.j0 kq x14_1 a0_0 a0_1 a0_2 a0_3 a0_4 a0_5 a0_6 a0_7 l0_8 = some r) ∧ Aside0 (kq ≤ k) ∧ Aside0 (wc.heap[gb134]? = some (.cells #[.string a0_0, .int .i64 a0_1, .int .i64 a0_2, .int .i64 a0_3, .int .i64 a0_4, .int .i64 a0_5, .int .i64 a0_6, .int .i64 a0_7, (.slice A0_8 l0_8.length c0_8)] 28 (0, 0))) ∧ Aside0 (Below w.heap.size w wc))
  case first =>
    have H := HC2.out
    clear HC2
    by_cases c4 : (a0_0.size : Int) > 100
    · rw [if_pos c4] at H
      have c4b0 : decide (100 < (a0_0.size : Int)) = true := decide_eq_true c4
      have c4b1 : decide (100 < a0_0.size) = true := decide_eq_true (by omega)
      clear c4
      (first | rw [c4b0] | (simp only [i64_w, i32_w]; rw [c4b0]) | skip)
      have H' := Aside0.mk H
      clear H
      have hcz5_0 : w3.cell? ⟨gb134, 0, none⟩ = some (.string a0_0) := (blk_cell BK134.out 0).trans rfl
      have hcz5_1 : w3.cell? ⟨gb134, 1, none⟩ = some (.int .i64 a0_1) := (blk_cell BK134.out 1).trans rfl
      have hcz5_2 : w3.cell? ⟨gb134, 2, none⟩ = some (.int .i64 a0_2) := (blk_cell BK134.out 2).trans rfl
      have hcz5_3 : w3.cell? ⟨gb134, 3, none⟩ = some (.int .i64 a0_3) := (blk_cell BK134.out 3).trans rfl
      have hcz5_4 : w3.cell? ⟨gb134, 4, none⟩ = some (.int .i64 a0_4) := (blk_cell BK134.out 4).trans rfl
      have hcz5_5 : w3.cell? ⟨gb134, 5, none⟩ = some (.int .i64 a0_5) := (blk_cell BK134.out 5).trans rfl
      have hcz5_6 : w3.cell? ⟨gb134, 6, none⟩ = some (.int .i64 a0_6) := (blk_cell BK134.out 6).trans rfl
      have hcz5_7 : w3.cell? ⟨gb134, 7, none⟩ = some (.int .i64 a0_7) := (blk_cell BK134.out 7).trans rfl
      have hcz5_8 : w3.cell? ⟨gb134, 8, none⟩ = some (.slice A0_8 l0_8.length c0_8) := (blk_cell BK134.out 8).trans rfl
      have hfz5_0 := blk_frozen BK134.out 0
      have hfz5_1 := blk_frozen BK134.out 1
      have hfz5_2 := blk_frozen BK134.out 2
      have hfz5_3 := blk_frozen BK134.out 3
      have hfz5_4 := blk_frozen BK134.out 4
      have hfz5_5 := blk_frozen BK134.out 5
      have hfz5_6 := blk_frozen BK134.out 6
      have hfz5_7 := blk_frozen BK134.out 7
      have hfz5_8 := blk_frozen BK134.out 8
      go_wp2
      go_meet
      case rel => exact ⟨_, (true), (by first | rfl | exact congrArg Value.bool (not_empty _) | exact congrArg Value.bool (is_empty _) | (simp; done) | (simp [*]; done)), H', ⟨by first | omega | exact Nat.le_refl _⟩, ⟨by (with_reducible repeat (first | refine blk_drewN ?_ _ | refine blk_drew ?_ | refine blk_alloc ?_ _)); exact BK134.out⟩, ⟨by repeat (first | (with_reducible first | exact HB.out | apply below_alloc | apply pw_below_drewN | apply below_drew1 | refine below_set ?_ GE134.out) | exact HB.out)⟩⟩
    · rw [if_neg c4] at H
      have c4b0 : decide (100 < (a0_0.size : Int)) = false := decide_eq_false c4
      have c4b1 : decide (100 < a0_0.size) = false := decide_eq_false (by omega)
      clear c4
      (first | rw [c4b0] | (simp only [i64_w, i32_w]; rw [c4b0]) | skip)
      have H' := Aside0.mk H
      clear H
      have hcz6_0 : w3.cell? ⟨gb134, 0, none⟩ = some (.string a0_0) := (blk_cell BK134.out 0).trans rfl
      have hcz6_1 : w3.cell? ⟨gb134, 1, none⟩ = some (.int .i64 a0_1) := (blk_cell BK134.out 1).trans rfl
      have hcz6_2 : w3.cell? ⟨gb134, 2, none⟩ = some (.int .i64 a0_2) := (blk_cell BK134.out 2).trans rfl
      have hcz6_3 : w3.cell? ⟨gb134, 3, none⟩ = some (.int .i64 a0_3) := (blk_cell BK134.out 3).trans rfl
      have hcz6_4 : w3.cell? ⟨gb134, 4, none⟩ = some (.int .i64 a0_4) := (blk_cell BK134.out 4).trans rfl
      have hcz6_5 : w3.cell? ⟨gb134, 5, none⟩ = some (.int .i64 a0_5) := (blk_cell BK134.out 5).trans rfl
      have hcz6_6 : w3.cell? ⟨gb134, 6, none⟩ = some (.int .i64 a0_6) := (blk_cell BK134.out 6).trans rfl
      have hcz6_7 : w3.cell? ⟨gb134, 7, none⟩ = some (.int .i64 a0_7) := (blk_cell BK134.out 7).trans rfl
      have hcz6_8 : w3.cell? ⟨gb134, 8, none⟩ = some (.slice A0_8 l0_8.length c0_8) := (blk_cell BK134.out 8).trans rfl
      have hfz6_0 := blk_frozen BK134.out 0
      have hfz6_1 := blk_frozen BK134.out 1
      have hfz6_2 := blk_frozen BK134.out 2
      have hfz6_3 := blk_frozen BK134.out 3
      have hfz6_4 := blk_frozen BK134.out 4
      have hfz6_5 := blk_frozen BK134.out 5
      have hfz6_6 := blk_frozen BK134.out 6
      have hfz6_7 := blk_frozen BK134.out 7
      have hfz6_8 := blk_frozen BK134.out 8
      go_wp2
      go_meet
      case rel => exact ⟨_, (decide ((l0_8.length : Int) > 12)), (by first | rfl | exact congrArg Value.bool (not_empty _) | exact congrArg Value.bool (is_empty _) | (simp; done) | (simp [*]; done)), H', ⟨by first | omega | exact Nat.le_refl _⟩, ⟨by (with_reducible repeat (first | refine blk_drewN ?_ _ | refine blk_drew ?_ | refine blk_alloc ?_ _)); exact BK134.out⟩, ⟨by repeat (first | (with_reducible first | exact HB.out | apply below_alloc | apply pw_below_drewN | apply below_drew1 | refine below_set ?_ GE134.out) | exact HB.out)⟩⟩
  case rest =>
    clear HC2
    try clear c1
    try clear p2
    try clear c4
    try clear c4b0
    try clear c4b1
    try clear hcz5_0
    try clear hcz5_1
    try clear hcz5_2
    try clear hcz5_3
    try clear hcz5_4
    try clear hcz5_5
    try clear hcz5_6
    try clear hcz5_7
    try clear hcz5_8
    try clear hcz6_0
    try clear hcz6_1
    try clear hcz6_2
    try clear hcz6_3
    try clear hcz6_4
    try clear hcz6_5
    try clear hcz6_6
    try clear hcz6_7
    try clear hcz6_8
    try clear hfz5_0
    try clear hfz5_1
    try clear hfz5_2
    try clear hfz5_3
    try clear hfz5_4
    try clear hfz5_5
    try clear hfz5_6
    try clear hfz5_7
    try clear hfz5_8
    try clear hfz6_0
    try clear hfz6_1
    try clear hfz6_2
    try clear hfz6_3
    try clear hfz6_4
    try clear hfz6_5
    try clear hfz6_6
    try clear hfz6_7
    try clear hfz6_8
    obtain ⟨kq, x14_1, rfl, HA, HJ1, BK134, HB⟩ := hcut
    cases kq with
    | zero => exact absurd HA.out (by simp [metrolabref18_Few.j0])
    | succ kj1 =>
      have H := HA.out
      clear HA
      simp only [metrolabref18_Few.j0] at H
      by_cases c7 : x14_1 = true
      · subst c7
        have H1 : (some false) = some r := by rw [if_pos rfl] at H; exact H
        clear H
        have H := H1
        clear H1
        obtain rfl := Option.some.inj H
        go_wp2
        go_ret
        exact ⟨by first | rfl | (simp [errW_none, errW_some] <;> rfl) | (simp [*, errW_none, errW_some] <;> rfl), by repeat (first | (with_reducible first | exact HB.out | apply below_alloc | apply pw_below_drewN | apply below_drew1 | refine below_set ?_ GE134.out) | exact HB.out)⟩
      · replace c7 := Bool.eq_false_iff.mpr c7
        subst c7
        have H1 : (metrolabref18_Few.l0 kj1 0 a0_0 a0_1 a0_2 a0_3 a0_4 a0_5 a0_6 a0_7 l0_8) = some r := by rw [if_neg (show ¬ (false = true) by decide)] at H; exact H
        clear H
        have H := H1
        clear H1
        have H' := Aside0.mk H
        clear H
        go_wp2
        go_loopg [3] kj1 (fun kq v3 w' => ∃ (x3_2 : Int), v3 = .int .i64 x3_2 ∧ Aside0 (metrolabref18_Few.l0 kq x3_2 a0_0 a0_1 a0_2 a0_3 a0_4 a0_5 a0_6 a0_7 l0_8 = some r) ∧ Aside0 (kq ≤ kj1) ∧ Aside0 (w'.heap[gb134]? = some (.cells #[.string a0_0, .int .i64 a0_1, .int .i64 a0_2, .int .i64 a0_3, .int .i64 a0_4, .int .i64 a0_5, .int .i64 a0_6, .int .i64 a0_7, (.slice A0_8 l0_8.length c0_8)] 28 (0, 0))) ∧ Aside0 (Below w.heap.size w w'))
        case atStart => exact ⟨(0), (by first | rfl | exact congrArg Value.bool (not_empty _) | exact congrArg Value.bool (is_empty _) | (simp; done) | (simp [*]; done)), H', ⟨Nat.le_refl _⟩, ⟨by (with_reducible repeat (first | refine blk_drewN ?_ _ | refine blk_drew ?_ | refine blk_alloc ?_ _)); exact BK134.out⟩, ⟨by repeat (first | (with_reducible first | exact HB.out | apply below_alloc | apply pw_below_drewN | apply below_drew1 | refine below_set ?_ GE134.out) | exact HB.out)⟩⟩
        case round =>
          clear H'
          try clear c1
          try clear p2
          try clear c4
          try clear c4b0
          try clear c4b1
          try clear c7
          try clear hcz5_0
          try clear hcz5_1
          try clear hcz5_2
          try clear hcz5_3
          try clear hcz5_4
          try clear hcz5_5
          try clear hcz5_6
          try clear hcz5_7
          try clear hcz5_8
          try clear hcz6_0
          try clear hcz6_1
          try clear hcz6_2
          try clear hcz6_3
          try clear hcz6_4
          try clear hcz6_5
          try clear hcz6_6
          try clear hcz6_7
          try clear hcz6_8
          try clear hfz5_0
          try clear hfz5_1
          try clear hfz5_2
          try clear hfz5_3
          try clear hfz5_4
          try clear hfz5_5
          try clear hfz5_6
          try clear hfz5_7
          try clear hfz5_8
          try clear hfz6_0
          try clear hfz6_1
          try clear hfz6_2
          try clear hfz6_3
          try clear hfz6_4
          try clear hfz6_5
          try clear hfz6_6
          try clear hfz6_7
          try clear hfz6_8
          try clear p2
          obtain ⟨x3_2, rfl, HA, HK2, BK134, HB⟩ := hrel
          cases gk with
          | zero => exact absurd HA.out (by simp [metrolabref18_Few.l0])
          | succ k2 =>
            have H := HA.out
            clear HA
            simp only [metrolabref18_Few.l0] at H
            by_cases c8 : x3_2 < (l0_8.length : Int)
            · rw [if_pos c8] at H
              have c8b0 : decide (x3_2 < (l0_8.length : Int)) = true := decide_eq_true c8
              clear c8
              by_cases c9 : 0 ≤ x3_2
              · rw [if_pos c9] at H
                have c9b0 : decide (0 ≤ x3_2) = true := decide_eq_true c9
                clear c9
                by_cases c10 : (((rd_T31 l0_8 x3_2).f4).length : Int) > 6
                · rw [if_pos c10] at H
                  have c10b0 : decide (6 < (((rd_T31 l0_8 x3_2).f4).length : Int)) = true := decide_eq_true c10
                  have c10b1 : decide (6 < ((rd_T31 l0_8 x3_2).f4).length) = true := decide_eq_true (by omega)
                  clear c10
                  obtain rfl := Option.some.inj H
                  have hcz11_0 : wr.cell? ⟨gb134, 0, none⟩ = some (.string a0_0) := (blk_cell BK134.out 0).trans rfl
                  have hcz11_1 : wr.cell? ⟨gb134, 1, none⟩ = some (.int .i64 a0_1) := (blk_cell BK134.out 1).trans rfl
                  have hcz11_2 : wr.cell? ⟨gb134, 2, none⟩ = some (.int .i64 a0_2) := (blk_cell BK134.out 2).trans rfl
                  have hcz11_3 : wr.cell? ⟨gb134, 3, none⟩ = some (.int .i64 a0_3) := (blk_cell BK134.out 3).trans rfl
                  have hcz11_4 : wr.cell? ⟨gb134, 4, none⟩ = some (.int .i64 a0_4) := (blk_cell BK134.out 4).trans rfl
                  have hcz11_5 : wr.cell? ⟨gb134, 5, none⟩ = some (.int .i64 a0_5) := (blk_cell BK134.out 5).trans rfl
                  have hcz11_6 : wr.cell? ⟨gb134, 6, none⟩ = some (.int .i64 a0_6) := (blk_cell BK134.out 6).trans rfl
                  have hcz11_7 : wr.cell? ⟨gb134, 7, none⟩ = some (.int .i64 a0_7) := (blk_cell BK134.out 7).trans rfl
                  have hcz11_8 : wr.cell? ⟨gb134, 8, none⟩ = some (.slice A0_8 l0_8.length c0_8) := (blk_cell BK134.out 8).trans rfl
                  have hfz11_0 := blk_frozen BK134.out 0
                  have hfz11_1 := blk_frozen BK134.out 1
                  have hfz11_2 := blk_frozen BK134.out 2
                  have hfz11_3 := blk_frozen BK134.out 3
                  have hfz11_4 := blk_frozen BK134.out 4
                  have hfz11_5 := blk_frozen BK134.out 5
                  have hfz11_6 := blk_frozen BK134.out 6
                  have hfz11_7 := blk_frozen BK134.out 7
                  have hfz11_8 := blk_frozen BK134.out 8
                  have p135 : 0 ≤ (x3_2 : Int) := of_decide_eq_true (by first | (with_reducible assumption) | assumption)
                  have q135 : x3_2 < (l0_8.length : Int) := of_decide_eq_true (by first | (with_reducible assumption) | assumption)
                  obtain ⟨ad135, A135_4, c135_4, e135, hx135_0, hx135_1, hx135_2, hx135_3, hx135_4, hl135_4, hi135_4⟩ := at_T31 HR0_8.out x3_2 p135 q135
                  cases e135
                  replace hx135_0 := (HB.out.cell (World.block_lt_of_cell? w _ hx135_0)).trans hx135_0
                  replace hx135_1 := (HB.out.cell (World.block_lt_of_cell? w _ hx135_1)).trans hx135_1
                  replace hx135_2 := (HB.out.cell (World.block_lt_of_cell? w _ hx135_2)).trans hx135_2
                  replace hx135_3 := (HB.out.cell (World.block_lt_of_cell? w _ hx135_3)).trans hx135_3
                  replace hx135_4 := (HB.out.cell (World.block_lt_of_cell? w _ hx135_4)).trans hx135_4
                  have HR135_4 := Aside0.mk hi135_4
                  have HC135_4 := Aside0.mk hl135_4
                  clear hi135_4 hl135_4
                  replace p135 := eq_true p135
                  replace q135 := eq_true q135
                  go_wp2
                  go_ret
                  exact ⟨by first | rfl | (simp [errW_none, errW_some] <;> rfl) | (simp [*, errW_none, errW_some] <;> rfl), by repeat (first | (with_reducible first | exact HB.out | apply below_alloc | apply pw_below_drewN | apply below_drew1 | refine below_set ?_ GE134.out) | exact HB.out)⟩
                · rw [if_neg c10] at H
                  have c10b0 : decide (6 < (((rd_T31 l0_8 x3_2).f4).length : Int)) = false := decide_eq_false c10
                  have c10b1 : decide (6 < ((rd_T31 l0_8 x3_2).f4).length) = false := decide_eq_false (by omega)
                  clear c10
                  have H' := Aside0.mk H
                  clear H
                  have hcz12_0 : wr.cell? ⟨gb134, 0, none⟩ = some (.string a0_0) := (blk_cell BK134.out 0).trans rfl
                  have hcz12_1 : wr.cell? ⟨gb134, 1, none⟩ = some (.int .i64 a0_1) := (blk_cell BK134.out 1).trans rfl
                  have hcz12_2 : wr.cell? ⟨gb134, 2, none⟩ = some (.int .i64 a0_2) := (blk_cell BK134.out 2).trans rfl
                  have hcz12_3 : wr.cell? ⟨gb134, 3, none⟩ = some (.int .i64 a0_3) := (blk_cell BK134.out 3).trans rfl
                  have hcz12_4 : wr.cell? ⟨gb134, 4, none⟩ = some (.int .i64 a0_4) := (blk_cell BK134.out 4).trans rfl
                  have hcz12_5 : wr.cell? ⟨gb134, 5, none⟩ = some (.int .i64 a0_5) := (blk_cell BK134.out 5).trans rfl
                  have hcz12_6 : wr.cell? ⟨gb134, 6, none⟩ = some (.int .i64 a0_6) := (blk_cell BK134.out 6).trans rfl
                  have hcz12_7 : wr.cell? ⟨gb134, 7, none⟩ = some (.int .i64 a0_7) := (blk_cell BK134.out 7).trans rfl
                  have hcz12_8 : wr.cell? ⟨gb134, 8, none⟩ = some (.slice A0_8 l0_8.length c0_8) := (blk_cell BK134.out 8).trans rfl
                  have hfz12_0 := blk_frozen BK134.out 0
                  have hfz12_1 := blk_frozen BK134.out 1
                  have hfz12_2 := blk_frozen BK134.out 2
                  have hfz12_3 := blk_frozen BK134.out 3
                  have hfz12_4 := blk_frozen BK134.out 4
                  have hfz12_5 := blk_frozen BK134.out 5
                  have hfz12_6 := blk_frozen BK134.out 6
                  have hfz12_7 := blk_frozen BK134.out 7
                  have hfz12_8 := blk_frozen BK134.out 8
                  have p135 : 0 ≤ (x3_2 : Int) := of_decide_eq_true (by first | (with_reducible assumption) | assumption)
                  have q135 : x3_2 < (l0_8.length : Int) := of_decide_eq_true (by first | (with_reducible assumption) | assumption)
                  obtain ⟨ad135, A135_4, c135_4, e135, hx135_0, hx135_1, hx135_2, hx135_3, hx135_4, hl135_4, hi135_4⟩ := at_T31 HR0_8.out x3_2 p135 q135
                  cases e135
                  replace hx135_0 := (HB.out.cell (World.block_lt_of_cell? w _ hx135_0)).trans hx135_0
                  replace hx135_1 := (HB.out.cell (World.block_lt_of_cell? w _ hx135_1)).trans hx135_1
                  replace hx135_2 := (HB.out.cell (World.block_lt_of_cell? w _ hx135_2)).trans hx135_2
                  replace hx135_3 := (HB.out.cell (World.block_lt_of_cell? w _ hx135_3)).trans hx135_3
                  replace hx135_4 := (HB.out.cell (World.block_lt_of_cell? w _ hx135_4)).trans hx135_4
                  have HR135_4 := Aside0.mk hi135_4
                  have HC135_4 := Aside0.mk hl135_4
                  clear hi135_4 hl135_4
                  replace p135 := eq_true p135
                  replace q135 := eq_true q135
                  go_wp2
                  go_loopg [4] k2 (fun kq v4 w' => ∃ (x4_3 : Int), v4 = .int .i64 x4_3 ∧ Aside0 (metrolabref18_Few.l1 kq x3_2 x4_3 a0_0 a0_1 a0_2 a0_3 a0_4 a0_5 a0_6 a0_7 l0_8 = some r) ∧ Aside0 (kq ≤ k2) ∧ Aside0 (w'.heap[gb134]? = some (.cells #[.string a0_0, .int .i64 a0_1, .int .i64 a0_2, .int .i64 a0_3, .int .i64 a0_4, .int .i64 a0_5, .int .i64 a0_6, .int .i64 a0_7, (.slice (some ad135) l0_8.length c0_8)] 28 (0, 0))) ∧ Aside0 (Below w.heap.size w w'))
                  case atStart => exact ⟨(0), (by first | rfl | exact congrArg Value.bool (not_empty _) | exact congrArg Value.bool (is_empty _) | (simp; done) | (simp [*]; done)), H', ⟨Nat.le_refl _⟩, ⟨by (with_reducible repeat (first | refine blk_drewN ?_ _ | refine blk_drew ?_ | refine blk_alloc ?_ _)); exact BK134.out⟩, ⟨by repeat (first | (with_reducible first | exact HB.out | apply below_alloc | apply pw_below_drewN | apply below_drew1 | refine below_set ?_ GE134.out) | exact HB.out)⟩⟩
                  case round =>
                    clear H'
                    try clear c1
                    try clear p1
                    try clear q1
                    try clear hx1
                    try clear p2
                    try clear c4
                    try clear c4b0
                    try clear c4b1
                    try clear c7
                    try clear c8
                    try clear c8b0
                    try clear c9
                    try clear c9b0
                    try clear c10
                    try clear c10b0
                    try clear c10b1
                    try clear hcz11_0
                    try clear hcz11_1
                    try clear hcz11_2
                    try clear hcz11_3
                    try clear hcz11_4
                    try clear hcz11_5
                    try clear hcz11_6
                    try clear hcz11_7
                    try clear hcz11_8
                    try clear hcz12_0
                    try clear hcz12_1
                    try clear hcz12_2
                    try clear hcz12_3
                    try clear hcz12_4
                    try clear hcz12_5
                    try clear hcz12_6
                    try clear hcz12_7
                    try clear hcz12_8
                    try clear hcz5_0
                    try clear hcz5_1
                    try clear hcz5_2
                    try clear hcz5_3
                    try clear hcz5_4
                    try clear hcz5_5
                    try clear hcz5_6
                    try clear hcz5_7
                    try clear hcz5_8
                    try clear hcz6_0
                    try clear hcz6_1
                    try clear hcz6_2
                    try clear hcz6_3
                    try clear hcz6_4
                    try clear hcz6_5
                    try clear hcz6_6
                    try clear hcz6_7
                    try clear hcz6_8
                    try clear hfz11_0
                    try clear hfz11_1
                    try clear hfz11_2
                    try clear hfz11_3
                    try clear hfz11_4
                    try clear hfz11_5
                    try clear hfz11_6
                    try clear hfz11_7
                    try clear hfz11_8
                    try clear hfz12_0
                    try clear hfz12_1
                    try clear hfz12_2
                    try clear hfz12_3
                    try clear hfz12_4
                    try clear hfz12_5
                    try clear hfz12_6
                    try clear hfz12_7
                    try clear hfz12_8
                    try clear hfz5_0
                    try clear hfz5_1
                    try clear hfz5_2
                    try clear hfz5_3
                    try clear hfz5_4
                    try clear hfz5_5
                    try clear hfz5_6
                    try clear hfz5_7
                    try clear hfz5_8
                    try clear hfz6_0
                    try clear hfz6_1
                    try clear hfz6_2
                    try clear hfz6_3
                    try clear hfz6_4
                    try clear hfz6_5
                    try clear hfz6_6
                    try clear hfz6_7
                    try clear hfz6_8
                    try clear hx135_0
                    try clear hx135_1
                    try clear hx135_2
                    try clear hx135_3
                    try clear hx135_4
                    try clear p135
                    try clear p2
                    try clear q135
                    obtain ⟨x4_3, rfl, HA, HK3, BK134, HB⟩ := hrel
                    cases gk with
                    | zero => exact absurd HA.out (by simp [metrolabref18_Few.l1])
                    | succ k3 =>
                      have H := HA.out
                      clear HA
                      simp only [metrolabref18_Few.l1] at H
                      by_cases c13 : 0 ≤ x3_2
                      · rw [if_pos c13] at H
                        have c13b0 : decide (0 ≤ x3_2) = true := decide_eq_true c13
                        clear c13
                        by_cases c14 : x3_2 < (l0_8.length : Int)
                        · rw [if_pos c14] at H
                          have c14b0 : decide (x3_2 < (l0_8.length : Int)) = true := decide_eq_true c14
                          clear c14
                          by_cases c15 : x4_3 < (((rd_T31 l0_8 x3_2).f4).length : Int)
                          · rw [if_pos c15] at H
                            have c15b0 : decide (x4_3 < (((rd_T31 l0_8 x3_2).f4).length : Int)) = true := decide_eq_true c15
                            clear c15
                            by_cases c16 : 0 ≤ x4_3
                            · rw [if_pos c16] at H
                              have c16b0 : decide (0 ≤ x4_3) = true := decide_eq_true c16
                              clear c16
                              by_cases c17 : (((rd_T76 ((rd_T31 l0_8 x3_2).f4) x4_3).f0).size : Int) > 100
                              · rw [if_pos c17] at H
                                have c17b0 : decide (100 < (((rd_T76 ((rd_T31 l0_8 x3_2).f4) x4_3).f0).size : Int)) = true := decide_eq_true c17
                                have c17b1 : decide (100 < ((rd_T76 ((rd_T31 l0_8 x3_2).f4) x4_3).f0).size) = true := decide_eq_true (by omega)
                                clear c17
                                obtain rfl := Option.some.inj H
                                have hcz18_0 : wr.cell? ⟨gb134, 0, none⟩ = some (.string a0_0) := (blk_cell BK134.out 0).trans rfl
                                have hcz18_1 : wr.cell? ⟨gb134, 1, none⟩ = some (.int .i64 a0_1) := (blk_cell BK134.out 1).trans rfl
                                have hcz18_2 : wr.cell? ⟨gb134, 2, none⟩ = some (.int .i64 a0_2) := (blk_cell BK134.out 2).trans rfl
                                have hcz18_3 : wr.cell? ⟨gb134, 3, none⟩ = some (.int .i64 a0_3) := (blk_cell BK134.out 3).trans rfl
                                have hcz18_4 : wr.cell? ⟨gb134, 4, none⟩ = some (.int .i64 a0_4) := (blk_cell BK134.out 4).trans rfl
                                have hcz18_5 : wr.cell? ⟨gb134, 5, none⟩ = some (.int .i64 a0_5) := (blk_cell BK134.out 5).trans rfl
                                have hcz18_6 : wr.cell? ⟨gb134, 6, none⟩ = some (.int .i64 a0_6) := (blk_cell BK134.out 6).trans rfl
                                have hcz18_7 : wr.cell? ⟨gb134, 7, none⟩ = some (.int .i64 a0_7) := (blk_cell BK134.out 7).trans rfl
                                have hcz18_8 : wr.cell? ⟨gb134, 8, none⟩ = some (.slice (some ad135) l0_8.length c0_8) := (blk_cell BK134.out 8).trans rfl
                                have hfz18_0 := blk_frozen BK134.out 0
                                have hfz18_1 := blk_frozen BK134.out 1
                                have hfz18_2 := blk_frozen BK134.out 2
                                have hfz18_3 := blk_frozen BK134.out 3
                                have hfz18_4 := blk_frozen BK134.out 4
                                have hfz18_5 := blk_frozen BK134.out 5
                                have hfz18_6 := blk_frozen BK134.out 6
                                have hfz18_7 := blk_frozen BK134.out 7
                                have hfz18_8 := blk_frozen BK134.out 8
                                have p136 : 0 ≤ (x3_2 : Int) := of_decide_eq_true (by first | (with_reducible assumption) | assumption)
                                have q136 : x3_2 < (l0_8.length : Int) := of_decide_eq_true (by first | (with_reducible assumption) | assumption)
                                obtain ⟨ad136, A136_4, c136_4, e136, hx136_0, hx136_1, hx136_2, hx136_3, hx136_4, hl136_4, hi136_4⟩ := at_T31 HR0_8.out x3_2 p136 q136
                                obtain rfl : ad135 = ad136 := (by injection e136)
                                replace hx136_0 := (HB.out.cell (World.block_lt_of_cell? w _ hx136_0)).trans hx136_0
                                replace hx136_1 := (HB.out.cell (World.block_lt_of_cell? w _ hx136_1)).trans hx136_1
                                replace hx136_2 := (HB.out.cell (World.block_lt_of_cell? w _ hx136_2)).trans hx136_2
                                replace hx136_3 := (HB.out.cell (World.block_lt_of_cell? w _ hx136_3)).trans hx136_3
                                replace hx136_4 := (HB.out.cell (World.block_lt_of_cell? w _ hx136_4)).trans hx136_4
                                have HR136_4 := Aside0.mk hi136_4
                                have HC136_4 := Aside0.mk hl136_4
                                clear hi136_4 hl136_4
                                replace p136 := eq_true p136
                                replace q136 := eq_true q136
                                have p137 : 0 ≤ (x3_2 : Int) := of_decide_eq_true (by first | (with_reducible assumption) | assumption)
                                have q137 : x3_2 < (l0_8.length : Int) := of_decide_eq_true (by first | (with_reducible assumption) | assumption)
                                obtain ⟨ad137, A137_4, c137_4, e137, hx137_0, hx137_1, hx137_2, hx137_3, hx137_4, hl137_4, hi137_4⟩ := at_T31 HR0_8.out x3_2 p137 q137
                                obtain rfl : ad135 = ad137 := (by injection e137)
                                replace hx137_0 := (HB.out.cell (World.block_lt_of_cell? w _ hx137_0)).trans hx137_0
                                replace hx137_1 := (HB.out.cell (World.block_lt_of_cell? w _ hx137_1)).trans hx137_1
                                replace hx137_2 := (HB.out.cell (World.block_lt_of_cell? w _ hx137_2)).trans hx137_2
                                replace hx137_3 := (HB.out.cell (World.block_lt_of_cell? w _ hx137_3)).trans hx137_3
                                replace hx137_4 := (HB.out.cell (World.block_lt_of_cell? w _ hx137_4)).trans hx137_4
                                have HR137_4 := Aside0.mk hi137_4
                                have HC137_4 := Aside0.mk hl137_4
                                clear hi137_4 hl137_4
                                replace p137 := eq_true p137
                                replace q137 := eq_true q137
                                have ea_ := Option.some.inj (hx136_4.symm.trans hx137_4)
                                injection ea_ with ea_ en_ ec_
                                subst ea_
                                subst ec_
                                clear en_
                                have p138 : 0 ≤ (x4_3 : Int) := of_decide_eq_true (by first | (with_reducible assumption) | assumption)
                                have q138 : x4_3 < (((rd_T31 l0_8 x3_2).f4).length : Int) := of_decide_eq_true (by first | (with_reducible assumption) | assumption)
                                obtain ⟨ad138, e138, hx138_0, hx138_1⟩ := at_T76 HR137_4.out x4_3 p138 q138
                                cases e138
                                replace hx138_0 := (HB.out.cell (World.block_lt_of_cell? w _ hx138_0)).trans hx138_0
                                replace hx138_1 := (HB.out.cell (World.block_lt_of_cell? w _ hx138_1)).trans hx138_1
                                replace p138 := eq_true p138
                                replace q138 := eq_true q138
                                go_wp2
                                go_ret
                                exact ⟨by first | rfl | (simp [errW_none, errW_some] <;> rfl) | (simp [*, errW_none, errW_some] <;> rfl), by repeat (first | (with_reducible first | exact HB.out | apply below_alloc | apply pw_below_drewN | apply below_drew1 | refine below_set ?_ GE134.out) | exact HB.out)⟩
                              · rw [if_neg c17] at H
                                have c17b0 : decide (100 < (((rd_T76 ((rd_T31 l0_8 x3_2).f4) x4_3).f0).size : Int)) = false := decide_eq_false c17
                                have c17b1 : decide (100 < ((rd_T76 ((rd_T31 l0_8 x3_2).f4) x4_3).f0).size) = false := decide_eq_false (by omega)
                                clear c17
                                have H' := Aside0.mk H
                                clear H
                                have hcz19_0 : wr.cell? ⟨gb134, 0, none⟩ = some (.string a0_0) := (blk_cell BK134.out 0).trans rfl
                                have hcz19_1 : wr.cell? ⟨gb134, 1, none⟩ = some (.int .i64 a0_1) := (blk_cell BK134.out 1).trans rfl
                                have hcz19_2 : wr.cell? ⟨gb134, 2, none⟩ = some (.int .i64 a0_2) := (blk_cell BK134.out 2).trans rfl
                                have hcz19_3 : wr.cell? ⟨gb134, 3, none⟩ = some (.int .i64 a0_3) := (blk_cell BK134.out 3).trans rfl
                                have hcz19_4 : wr.cell? ⟨gb134, 4, none⟩ = some (.int .i64 a0_4) := (blk_cell BK134.out 4).trans rfl
                                have hcz19_5 : wr.cell? ⟨gb134, 5, none⟩ = some (.int .i64 a0_5) := (blk_cell BK134.out 5).trans rfl
                                have hcz19_6 : wr.cell? ⟨gb134, 6, none⟩ = some (.int .i64 a0_6) := (blk_cell BK134.out 6).trans rfl
                                have hcz19_7 : wr.cell? ⟨gb134, 7, none⟩ = some (.int .i64 a0_7) := (blk_cell BK134.out 7).trans rfl
                                have hcz19_8 : wr.cell? ⟨gb134, 8, none⟩ = some (.slice (some ad135) l0_8.length c0_8) := (blk_cell BK134.out 8).trans rfl
                                have hfz19_0 := blk_frozen BK134.out 0
                                have hfz19_1 := blk_frozen BK134.out 1
                                have hfz19_2 := blk_frozen BK134.out 2
                                have hfz19_3 := blk_frozen BK134.out 3
                                have hfz19_4 := blk_frozen BK134.out 4
                                have hfz19_5 := blk_frozen BK134.out 5
                                have hfz19_6 := blk_frozen BK134.out 6
                                have hfz19_7 := blk_frozen BK134.out 7
                                have hfz19_8 := blk_frozen BK134.out 8
                                have p136 : 0 ≤ (x3_2 : Int) := of_decide_eq_true (by first | (with_reducible assumption) | assumption)
                                have q136 : x3_2 < (l0_8.length : Int) := of_decide_eq_true (by first | (with_reducible assumption) | assumption)
                                obtain ⟨ad136, A136_4, c136_4, e136, hx136_0, hx136_1, hx136_2, hx136_3, hx136_4, hl136_4, hi136_4⟩ := at_T31 HR0_8.out x3_2 p136 q136
                                obtain rfl : ad135 = ad136 := (by injection e136)
                                replace hx136_0 := (HB.out.cell (World.block_lt_of_cell? w _ hx136_0)).trans hx136_0
                                replace hx136_1 := (HB.out.cell (World.block_lt_of_cell? w _ hx136_1)).trans hx136_1
                                replace hx136_2 := (HB.out.cell (World.block_lt_of_cell? w _ hx136_2)).trans hx136_2
                                replace hx136_3 := (HB.out.cell (World.block_lt_of_cell? w _ hx136_3)).trans hx136_3
                                replace hx136_4 := (HB.out.cell (World.block_lt_of_cell? w _ hx136_4)).trans hx136_4
                                have HR136_4 := Aside0.mk hi136_4
                                have HC136_4 := Aside0.mk hl136_4
                                clear hi136_4 hl136_4
                                replace p136 := eq_true p136
                                replace q136 := eq_true q136
                                have p137 : 0 ≤ (x3_2 : Int) := of_decide_eq_true (by first | (with_reducible assumption) | assumption)
                                have q137 : x3_2 < (l0_8.length : Int) := of_decide_eq_true (by first | (with_reducible assumption) | assumption)
                                obtain ⟨ad137, A137_4, c137_4, e137, hx137_0, hx137_1, hx137_2, hx137_3, hx137_4, hl137_4, hi137_4⟩ := at_T31 HR0_8.out x3_2 p137 q137
                                obtain rfl : ad135 = ad137 := (by injection e137)
                                replace hx137_0 := (HB.out.cell (World.block_lt_of_cell? w _ hx137_0)).trans hx137_0
                                replace hx137_1 := (HB.out.cell (World.block_lt_of_cell? w _ hx137_1)).trans hx137_1
                                replace hx137_2 := (HB.out.cell (World.block_lt_of_cell? w _ hx137_2)).trans hx137_2
                                replace hx137_3 := (HB.out.cell (World.block_lt_of_cell? w _ hx137_3)).trans hx137_3
                                replace hx137_4 := (HB.out.cell (World.block_lt_of_cell? w _ hx137_4)).trans hx137_4
                                have HR137_4 := Aside0.mk hi137_4
                                have HC137_4 := Aside0.mk hl137_4
                                clear hi137_4 hl137_4
                                replace p137 := eq_true p137
                                replace q137 := eq_true q137
                                have ea_ := Option.some.inj (hx136_4.symm.trans hx137_4)
                                injection ea_ with ea_ en_ ec_
                                subst ea_
                                subst ec_
                                clear en_
                                have p138 : 0 ≤ (x4_3 : Int) := of_decide_eq_true (by first | (with_reducible assumption) | assumption)
                                have q138 : x4_3 < (((rd_T31 l0_8 x3_2).f4).length : Int) := of_decide_eq_true (by first | (with_reducible assumption) | assumption)
                                obtain ⟨ad138, e138, hx138_0, hx138_1⟩ := at_T76 HR137_4.out x4_3 p138 q138
                                cases e138
                                replace hx138_0 := (HB.out.cell (World.block_lt_of_cell? w _ hx138_0)).trans hx138_0
                                replace hx138_1 := (HB.out.cell (World.block_lt_of_cell? w _ hx138_1)).trans hx138_1
                                replace p138 := eq_true p138
                                replace q138 := eq_true q138
                                go_wp2
                                go_roundg k3
                                case measure => have := HJ1.out; have := HK2.out; have := HK3.out; omega
                                case rel => exact ⟨(wrap64 (x4_3 + 1)), (by first | rfl | exact congrArg Value.bool (not_empty _) | exact congrArg Value.bool (is_empty _) | (simp; done) | (simp [*]; done)), H', ⟨by have := HJ1.out; have := HK2.out; have := HK3.out; omega⟩, ⟨by (with_reducible repeat (first | refine blk_drewN ?_ _ | refine blk_drew ?_ | refine blk_alloc ?_ _)); exact BK134.out⟩, ⟨by repeat (first | (with_reducible first | exact HB.out | apply below_alloc | apply pw_below_drewN | apply below_drew1 | refine below_set ?_ GE134.out) | exact HB.out)⟩⟩
                            · rw [if_neg c16] at H
                              exact absurd H (by simp)
                          · rw [if_neg c15] at H
                            have c15b0 : decide (x4_3 < (((rd_T31 l0_8 x3_2).f4).length : Int)) = false := decide_eq_false c15
                            clear c15
                            have H' := Aside0.mk H
                            clear H
                            have hcz20_0 : wr.cell? ⟨gb134, 0, none⟩ = some (.string a0_0) := (blk_cell BK134.out 0).trans rfl
                            have hcz20_1 : wr.cell? ⟨gb134, 1, none⟩ = some (.int .i64 a0_1) := (blk_cell BK134.out 1).trans rfl
                            have hcz20_2 : wr.cell? ⟨gb134, 2, none⟩ = some (.int .i64 a0_2) := (blk_cell BK134.out 2).trans rfl
                            have hcz20_3 : wr.cell? ⟨gb134, 3, none⟩ = some (.int .i64 a0_3) := (blk_cell BK134.out 3).trans rfl
                            have hcz20_4 : wr.cell? ⟨gb134, 4, none⟩ = some (.int .i64 a0_4) := (blk_cell BK134.out 4).trans rfl
                            have hcz20_5 : wr.cell? ⟨gb134, 5, none⟩ = some (.int .i64 a0_5) := (blk_cell BK134.out 5).trans rfl
                            have hcz20_6 : wr.cell? ⟨gb134, 6, none⟩ = some (.int .i64 a0_6) := (blk_cell BK134.out 6).trans rfl
                            have hcz20_7 : wr.cell? ⟨gb134, 7, none⟩ = some (.int .i64 a0_7) := (blk_cell BK134.out 7).trans rfl
                            have hcz20_8 : wr.cell? ⟨gb134, 8, none⟩ = some (.slice (some ad135) l0_8.length c0_8) := (blk_cell BK134.out 8).trans rfl
                            have hfz20_0 := blk_frozen BK134.out 0
                            have hfz20_1 := blk_frozen BK134.out 1
                            have hfz20_2 := blk_frozen BK134.out 2
                            have hfz20_3 := blk_frozen BK134.out 3
                            have hfz20_4 := blk_frozen BK134.out 4
                            have hfz20_5 := blk_frozen BK134.out 5
                            have hfz20_6 := blk_frozen BK134.out 6
                            have hfz20_7 := blk_frozen BK134.out 7
                            have hfz20_8 := blk_frozen BK134.out 8
                            have p136 : 0 ≤ (x3_2 : Int) := of_decide_eq_true (by first | (with_reducible assumption) | assumption)
                            have q136 : x3_2 < (l0_8.length : Int) := of_decide_eq_true (by first | (with_reducible assumption) | assumption)
                            obtain ⟨ad136, A136_4, c136_4, e136, hx136_0, hx136_1, hx136_2, hx136_3, hx136_4, hl136_4, hi136_4⟩ := at_T31 HR0_8.out x3_2 p136 q136
                            obtain rfl : ad135 = ad136 := (by injection e136)
                            replace hx136_0 := (HB.out.cell (World.block_lt_of_cell? w _ hx136_0)).trans hx136_0
                            replace hx136_1 := (HB.out.cell (World.block_lt_of_cell? w _ hx136_1)).trans hx136_1
                            replace hx136_2 := (HB.out.cell (World.block_lt_of_cell? w _ hx136_2)).trans hx136_2
                            replace hx136_3 := (HB.out.cell (World.block_lt_of_cell? w _ hx136_3)).trans hx136_3
                            replace hx136_4 := (HB.out.cell (World.block_lt_of_cell? w _ hx136_4)).trans hx136_4
                            have HR136_4 := Aside0.mk hi136_4
                            have HC136_4 := Aside0.mk hl136_4
                            clear hi136_4 hl136_4
                            replace p136 := eq_true p136
                            replace q136 := eq_true q136
                            go_wp2
                            go_roundg k3
                            case measure => have := HJ1.out; have := HK2.out; have := HK3.out; omega
                            case rel => exact ⟨(wrap64 (x3_2 + 1)), (by first | rfl | exact congrArg Value.bool (not_empty _) | exact congrArg Value.bool (is_empty _) | (simp; done) | (simp [*]; done)), H', ⟨by have := HJ1.out; have := HK2.out; have := HK3.out; omega⟩, ⟨by (with_reducible repeat (first | refine blk_drewN ?_ _ | refine blk_drew ?_ | refine blk_alloc ?_ _)); exact BK134.out⟩, ⟨by repeat (first | (with_reducible first | exact HB.out | apply below_alloc | apply pw_below_drewN | apply below_drew1 | refine below_set ?_ GE134.out) | exact HB.out)⟩⟩
                        · rw [if_neg c14] at H
                          exact absurd H (by simp)
                      · rw [if_neg c13] at H
                        exact absurd H (by simp)
              · rw [if_neg c9] at H
                exact absurd H (by simp)
            · rw [if_neg c8] at H
              have c8b0 : decide (x3_2 < (l0_8.length : Int)) = false := decide_eq_false c8
              clear c8
              obtain rfl := Option.some.inj H
              have hcz21_0 : wr.cell? ⟨gb134, 0, none⟩ = some (.string a0_0) := (blk_cell BK134.out 0).trans rfl
              have hcz21_1 : wr.cell? ⟨gb134, 1, none⟩ = some (.int .i64 a0_1) := (blk_cell BK134.out 1).trans rfl
              have hcz21_2 : wr.cell? ⟨gb134, 2, none⟩ = some (.int .i64 a0_2) := (blk_cell BK134.out 2).trans rfl
              have hcz21_3 : wr.cell? ⟨gb134, 3, none⟩ = some (.int .i64 a0_3) := (blk_cell BK134.out 3).trans rfl
              have hcz21_4 : wr.cell? ⟨gb134, 4, none⟩ = some (.int .i64 a0_4) := (blk_cell BK134.out 4).trans rfl
              have hcz21_5 : wr.cell? ⟨gb134, 5, none⟩ = some (.int .i64 a0_5) := (blk_cell BK134.out 5).trans rfl
              have hcz21_6 : wr.cell? ⟨gb134, 6, none⟩ = some (.int .i64 a0_6) := (blk_cell BK134.out 6).trans rfl
              have hcz21_7 : wr.cell? ⟨gb134, 7, none⟩ = some (.int .i64 a0_7) := (blk_cell BK134.out 7).trans rfl
              have hcz21_8 : wr.cell? ⟨gb134, 8, none⟩ = some (.slice A0_8 l0_8.length c0_8) := (blk_cell BK134.out 8).trans rfl
              have hfz21_0 := blk_frozen BK134.out 0
              have hfz21_1 := blk_frozen BK134.out 1
              have hfz21_2 := blk_frozen BK134.out 2
              have hfz21_3 := blk_frozen BK134.out 3
              have hfz21_4 := blk_frozen BK134.out 4
              have hfz21_5 := blk_frozen BK134.out 5
              have hfz21_6 := blk_frozen BK134.out 6
              have hfz21_7 := blk_frozen BK134.out 7
              have hfz21_8 := blk_frozen BK134.out 8
              go_wp2
              go_ret
              exact ⟨by first | rfl | (simp [errW_none, errW_some] <;> rfl) | (simp [*, errW_none, errW_some] <;> rfl), by repeat (first | (with_reducible first | exact HB.out | apply below_alloc | apply pw_below_drewN | apply below_drew1 | refine below_set ?_ GE134.out) | exact HB.out)⟩
def metrolabref19_Few.f (k : Nat) (a0_0 : Int) (a0_1 : Bool) (a0_2 : Int) (a0_3 : Int) (l0_4 : List (S76)) : Option (Bool) := (metrolabref18_Few.f k (⟨#[]⟩ : ByteArray) 0 0 0 0 0 0 0 (([(⟨a0_0, a0_1, a0_2, a0_3, l0_4⟩ : S31)] : List (S31)))).bind fun t143 => (some t143)
theorem metrolabref19_Few.mono : ∀ a0 a1 a2 a3 a4 k, LeO (metrolabref19_Few.f k a0 a1 a2 a3 a4) (metrolabref19_Few.f (k + 1) a0 a1 a2 a3 a4) := by
  intro a0 a1 a2 a3 a4 k
  unfold metrolabref19_Few.f
  repeat' first
      | (with_reducible exact metrolabref18_Few.mono _ _ _ _ _ _ _ _ _ _)
      | (with_reducible exact LeO.refl _)
      | (with_reducible exact LeO.none _)
      | (with_reducible refine LeO.ite ?_ ?_)
      | (with_reducible refine LeO.bind ?_ (fun _ => ?_))
      | exact metrolabref18_Few.mono _ _ _ _ _ _ _ _ _ _
      | exact LeO.none _
      | refine LeO.ite ?_ ?_
      | refine LeO.bind ?_ (fun _ => ?_)
set_option maxHeartbeats 8000000 in
set_option maxRecDepth 100000 in
theorem metrolabref19_Few.calls (k : Nat) (a0_0 : Int) (a0_1 : Bool) (a0_2 : Int) (a0_3 : Int) (P0_4_ : Nat → Prop) (A0_4 : Option Addr) (c0_4 : Nat) (l0_4 : List (S76)) (r : Bool) (w : World) (hs0_4 : Kd.V k76 76 w w.heap.size (fun k_ => P0_4_ k_) (.slice A0_4 l0_4.length c0_4) l0_4) (h : metrolabref19_Few.f k a0_0 a0_1 a0_2 a0_3 l0_4 = some r) :
    Calls Tryz.prog 11 #[.agg #[.int .i64 a0_0, .bool a0_1, .int .i64 a0_2, .int .i64 a0_3, .slice A0_4 l0_4.length c0_4]] w fun e w' => e = .returned (.bool r) ∧ Below w.heap.size w w' := by
  have hu31 := Tryz.underlying31
  have hu28 := Tryz.underlying28
  have HO0_4 := Aside0.mk (show Kd.V k76 76 w w.heap.size (fun k_ => (P0_4_ k_ ∨ w.heap.size ≤ k_)) (.slice A0_4 l0_4.length c0_4) l0_4 from Kd.V_mono hs0_4 (fun k_ hk => .inl hk))
  have HB := Aside0.mk (Below.refl w.heap.size w)
  have H : ((metrolabref18_Few.f k (⟨#[]⟩ : ByteArray) 0 0 0 0 0 0 0 (([(⟨a0_0, a0_1, a0_2, a0_3, l0_4⟩ : S31)] : List (S31)))).bind fun t143 => (some t143)) = some r := h
  clear h
  obtain ⟨y140, hy140⟩ : ∃ y_ : List (S31), y_ = (([(⟨a0_0, a0_1, a0_2, a0_3, l0_4⟩ : S31)] : List (S31))) := ⟨_, rfl⟩
  replace H : ((metrolabref18_Few.f k (⟨#[]⟩ : ByteArray) 0 0 0 0 0 0 0 y140).bind fun t143 => (some t143)) = some r := by first | (rw [hy140]; with_reducible exact H) | (have H2_ := (Option.bind_some _ _).symm.trans H; rw [hy140]; with_reducible exact H2_) | (have H2_ := (Option.bind_some _ _).symm.trans H; with_reducible exact H2_) | with_reducible exact H | (rw [hy140]; exact H) | exact H
  have Ny140 := Aside0.mk hy140
  clear hy140
  replace H := Option.bind_eq_some_iff.mp H
  obtain ⟨t143, A20, H⟩ := H
  replace H : (some t143) = some r := H
  have A2 := Aside0.mk A20
  clear A20
  obtain rfl := Option.some.inj H
  go_enter Tryz.func11, Tryz.ntmps11
  go_wp2_with (first | ((with_reducible refine gate_dst (N := 1) rfl ?_); refine box_event ?hg (N := 1) ?hd (cs := #[.int .i64 a0_0, .bool a0_1, .int .i64 a0_2, .int .i64 a0_3, .slice A0_4 l0_4.length c0_4]) (t := 31) ?hr ?_; (case hd => rfl); (case hg => rfl); (case hr => first | (go_simp; done) | (go_simp; rfl)); intro gb139 hg w3 hbox hb; have n0_ := Aside0.mk (Kd.V_below (Kd.V_elderB (by (with_reducible repeat (first | apply Kd.V_alloc | apply Kd.V_drewN | apply Kd.V_drew)); exact HO0_4.out) gb139 (Nat.le_of_eq hg.symm)) hb); have n1_ := Aside0.mk (below_step (by repeat (first | (with_reducible first | exact HB.out | apply below_alloc | apply pw_below_drewN | apply below_drew1) | exact HB.out)) hb); have n2_ := Aside0.mk (hbox); have n3_ := Aside0.mk ((by rw [hg]; exact (below_size (by repeat (first | (with_reducible first | exact HB.out | apply below_alloc | apply pw_below_drewN | apply below_drew1) | exact HB.out))) : w.heap.size ≤ gb139)); have n4_ := Aside0.mk ((by rw [hg]; exact (below_size (by repeat (first | (with_reducible first | exact HB.out | apply below_alloc | apply pw_below_drewN | apply below_drew1) | exact HB.out))) : w.heap.size ≤ gb139)); clear HO0_4; clear HB; have HO0_4 := n0_; have HB := n1_; have BK139 := n2_; have GW139 := n3_; have GE139 := n4_; clear n0_ n1_ n2_ n3_ n4_; clear hb hbox hg; have hcz4_0 : w3.cell? ⟨gb139, 0, none⟩ = some (.int .i64 a0_0) := (blk_cell BK139.out 0).trans rfl; have hcz4_1 : w3.cell? ⟨gb139, 1, none⟩ = some (.bool a0_1) := (blk_cell BK139.out 1).trans rfl; have hcz4_2 : w3.cell? ⟨gb139, 2, none⟩ = some (.int .i64 a0_2) := (blk_cell BK139.out 2).trans rfl; have hcz4_3 : w3.cell? ⟨gb139, 3, none⟩ = some (.int .i64 a0_3) := (blk_cell BK139.out 3).trans rfl; have hcz4_4 : w3.cell? ⟨gb139, 4, none⟩ = some (.slice A0_4 l0_4.length c0_4) := (blk_cell BK139.out 4).trans rfl; have hfz4_0 := blk_frozen BK139.out 0; have hfz4_1 := blk_frozen BK139.out 1; have hfz4_2 := blk_frozen BK139.out 2; have hfz4_3 := blk_frozen BK139.out 3; have hfz4_4 := blk_frozen BK139.out 4) | ((with_reducible refine gate_dst (N := 4) rfl ?_); refine Kd.N_lit k31 _ 31 ?hg (N' := 4) ?hd (xs := ([(⟨a0_0, a0_1, a0_2, a0_3, l0_4⟩ : S31)] : List (S31))) (inner := [.int .i64 a0_0, .bool a0_1, .int .i64 a0_2, .int .i64 a0_3, .slice A0_4 l0_4.length c0_4]) (ok := (fun k_ => (P0_4_ k_ ∨ w.heap.size ≤ k_) ∧ k_ ≠ gb139)) (okp := (fun k_ => (P0_4_ k_ ∨ w.heap.size ≤ k_) ∧ k_ ≠ gb139)) ?hr ?hp (fun _ hk => hk) ((show ∀ k_, w3.heap.size ≤ k_ → (fun k_ => (P0_4_ k_ ∨ w.heap.size ≤ k_) ∧ k_ ≠ gb139) k_ from fun k_ hk => ⟨(.inr (Nat.le_trans (below_size (by repeat (first | (with_reducible first | exact HB.out | apply below_alloc | apply pw_below_drewN | apply below_drew1 | refine below_set ?_ GE139.out) | exact HB.out))) hk)), Kd.freshB (g := gb139) (o := .cells #[.int .i64 a0_0, .bool a0_1, .int .i64 a0_2, .int .i64 a0_3, .slice A0_4 l0_4.length c0_4] 31 (0, 0)) (by (with_reducible repeat (first | refine blk_drewN ?_ _ | refine blk_drew ?_ | refine blk_alloc ?_ _)); exact BK139.out) k_ hk⟩) _ (Nat.le_refl _)) (Below.refl _ _) (Nat.le_refl _) (by simp) ?_; (case hd => rfl); (case hg => rfl); (case hr => first | (go_simp; done) | (go_simp; rfl)); (case hp => exact (Reps.c5 (show Kd.FK k31 _ _ (⟨a0_0, a0_1, a0_2, a0_3, l0_4⟩ : S31) [.int .i64 a0_0, .bool a0_1, .int .i64 a0_2, .int .i64 a0_3, .slice A0_4 l0_4.length c0_4] from (k31_mkF _ _ (⟨a0_0, a0_1, a0_2, a0_3, l0_4⟩ : S31) (Kd.V_reads' (Kd.V_mono (ok' := (fun k_ => (P0_4_ k_ ∨ w.heap.size ≤ k_) ∧ k_ ≠ gb139)) (HO0_4.out) (fun k_ hk => ⟨hk.1, hk.2⟩))).2.1 (Kd.V_F (Kd.V_mono (ok' := (fun k_ => (P0_4_ k_ ∨ w.heap.size ≤ k_) ∧ k_ ≠ gb139)) (HO0_4.out) (fun k_ hk => ⟨hk.1, hk.2⟩))))) (Reps.none _ _))); intro v141 w5 ho6 hb hg_ hnew_; clear hg_ hnew_; (first | rw [← Ny140.out] at ho6 | (simp only [Int.reduceToNat] at ho6; rw [← Ny140.out] at ho6)); have n0_ := Aside0.mk (Kd.V_elder' (by (with_reducible repeat (first | apply Kd.V_alloc | apply Kd.V_drewN | apply Kd.V_drew)); exact HO0_4.out) (Kd.N_base ho6) hb); have n1_ := Aside0.mk (Kd.N_lower ho6 (below_size (by repeat (first | (with_reducible first | exact HB.out | apply below_alloc | apply pw_below_drewN | apply below_drew1 | refine below_set ?_ GE139.out) | exact HB.out)))); have n2_ := Aside0.mk (blk_below (g := gb139) (o := .cells #[.int .i64 a0_0, .bool a0_1, .int .i64 a0_2, .int .i64 a0_3, .slice A0_4 l0_4.length c0_4] 31 (0, 0)) (by (with_reducible repeat (first | refine blk_drewN ?_ _ | refine blk_drew ?_ | refine blk_alloc ?_ _)); exact BK139.out) hb); have n3_ := Aside0.mk (below_step (by repeat (first | (with_reducible first | exact HB.out | apply below_alloc | apply pw_below_drewN | apply below_drew1 | refine below_set ?_ GE139.out) | exact HB.out)) hb); clear HO0_4; clear BK139; clear HB; have HO0_4 := n0_; have HO142 := n1_; have BK139 := n2_; have HB := n3_; clear n0_ n1_ n2_ n3_; clear hb ho6; obtain ⟨Ao7, co7, eo7⟩ := Kd.N_slice HO142.out; subst eo7) | ((with_reducible refine gate_callee (f := 10) rfl ?_); refine goesL_ (some 6) rfl rfl Tryz.func10 (by kernel_rfl) rfl #[.agg #[.string (⟨#[]⟩ : ByteArray), .int .i64 0, .int .i64 0, .int .i64 0, .int .i64 0, .int .i64 0, .int .i64 0, .int .i64 0, .slice Ao7 y140.length co7]] rfl (by (try simp only [List.map_toArray, List.map_cons, List.map_nil]); first | done | rfl | (simp only [List.length_drop, List.length_take]; rfl)) ?_; (with_reducible refine (metrolabref18_Few.calls k (⟨#[]⟩ : ByteArray) 0 0 0 0 0 0 0 _ _ y140 t143 _ ?side1 ?side2 A2.out).mono ?_); (case side1 => repeat (first | exact (Kd.N_reads' HO142.out).2.2 | (with_reducible refine Kd.C_alloc ?_ _) | (with_reducible refine Kd.C_drewN ?_ _) | (with_reducible refine Kd.C_drew ?_))); (case side2 => exact (Kd.N_reads' HO142.out).2.1); rintro e w8 ⟨rfl, hb⟩; refine ⟨_, rfl, ?_⟩; have n0_ := Aside0.mk (Kd.V_below (by (with_reducible repeat (first | apply Kd.V_alloc | apply Kd.V_drewN | apply Kd.V_drew)); exact HO0_4.out) hb); have n1_ := Aside0.mk (Kd.N_below (by (with_reducible repeat (first | apply Kd.N_alloc | apply Kd.N_drewN | apply Kd.N_drew)); exact HO142.out) hb); have n2_ := Aside0.mk (blk_below (g := gb139) (o := .cells #[.int .i64 a0_0, .bool a0_1, .int .i64 a0_2, .int .i64 a0_3, .slice A0_4 l0_4.length c0_4] 31 (0, 0)) (by (with_reducible repeat (first | refine blk_drewN ?_ _ | refine blk_drew ?_ | refine blk_alloc ?_ _)); exact BK139.out) hb); have n3_ := Aside0.mk (below_step (by repeat (first | (with_reducible first | exact HB.out | apply below_alloc | apply pw_below_drewN | apply below_drew1 | refine below_set ?_ GE139.out) | exact HB.out)) hb); clear HO0_4; clear HO142; clear BK139; clear HB; have HO0_4 := n0_; have HO142 := n1_; have BK139 := n2_; have HB := n3_; clear n0_ n1_ n2_ n3_; (try clear hb); (try clear hb2); (try clear hk); (try clear hi)))
  go_ret
  exact ⟨by first | rfl | (simp [errW_none, errW_some] <;> rfl) | (simp [*, errW_none, errW_some] <;> rfl), by repeat (first | (with_reducible first | exact HB.out | apply below_alloc | apply pw_below_drewN | apply below_drew1 | refine below_set ?_ GE139.out) | exact HB.out)⟩
def metrolabref19_material.f (a0 : Int) : Option (Int) := if a0 < 0 then (some 1) else (if a0 ≥ 3 then (some 1) else (some 0))
set_option maxHeartbeats 8000000 in
set_option maxRecDepth 100000 in
theorem metrolabref19_material.calls (a0 : Int) (r : Int) (w : World) (h : metrolabref19_material.f a0 = some r) :
    Calls Tryz.prog 50 #[.int .i64 a0] w fun e w' => e = .returned (.int .i64 r) ∧ Drawn0 w w' := by
  have H : (if a0 < 0 then (some 1) else (if a0 ≥ 3 then (some 1) else (some 0))) = some r := h
  clear h
  by_cases c2 : a0 < 0
  · rw [if_pos c2] at H
    have c2b0 : decide (a0 < 0) = true := decide_eq_true c2
    clear c2
    obtain rfl := Option.some.inj H
    go_enter Tryz.func50, Tryz.ntmps50
    go_wp2
    go_ret
    exact ⟨by first | rfl | (simp; done) | (simp [*]; done), by repeat (first | exact Drawn0.refl _ | apply Drawn0.step)⟩
  · rw [if_neg c2] at H
    have c2b0 : decide (a0 < 0) = false := decide_eq_false c2
    clear c2
    by_cases c3 : a0 ≥ 3
    · rw [if_pos c3] at H
      have c3b0 : decide (3 ≤ a0) = true := decide_eq_true c3
      clear c3
      obtain rfl := Option.some.inj H
      go_enter Tryz.func50, Tryz.ntmps50
      go_wp2
      go_ret
      exact ⟨by first | rfl | (simp; done) | (simp [*]; done), by repeat (first | exact Drawn0.refl _ | apply Drawn0.step)⟩
    · rw [if_neg c3] at H
      have c3b0 : decide (3 ≤ a0) = false := decide_eq_false c3
      clear c3
      obtain rfl := Option.some.inj H
      go_enter Tryz.func50, Tryz.ntmps50
      go_wp2
      go_ret
      exact ⟨by first | rfl | (simp; done) | (simp [*]; done), by repeat (first | exact Drawn0.refl _ | apply Drawn0.step)⟩
end Go.Proofs.YtkohjcfmcliioaaGreatDoor.ZA
