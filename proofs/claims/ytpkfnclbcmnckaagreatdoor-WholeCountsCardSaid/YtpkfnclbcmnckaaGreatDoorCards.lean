/-
  DERIVED. GIVEN WITH THE SEED: THE CARDS: each row of YtpkfnclbcmnckaaGreatDoorRows.lean that lists a variable, with what it lists TIED to the program's text (the seventh form; the later family's looks); each row that meets fmt, with fmt's text TOLD by the authors' own Lean function (tested against real Go, not proved from fmt's source: count such statements apart). THE CARD IS WHAT COUNTS. Prove the row's statement (the work); the ties are given (YtpkfnclbcmnckaaGreatDoorTie.lean); close each card by the builder's one call (the guide's Derived/Test/ToyasCard.lean, 'card_holds'). Laid BY PROGRAM, IN A SANDBOX (cutbox-door.mjs). By AI agents, Wed Nov 11 2026. No macro, syntax, notation, axiom, sorry.
-/
import Derived.Test.YtpkfnclbcmnckaaGreatDoorRows
import GoSem.ClaimSeven
namespace Go.Proofs.YtpkfnclbcmnckaaGreatDoor
namespace Rows

/-- THE TIED CARD OF 'metrolablaw01.WholeMultiplies'. -/
def wholeMultipliesCard : Claim7 := { stood := { row := wholeMultipliesRow, standIns := [], harness := (true, "00ed168626a0f91c1577080cb88bb8270eacf83602a60caf9a197a1be9c37ecb"), looks := true }, kinds := [], alts := [], laidByText := true, laidKinds := [.data, .data, .data, .data, .sentinel, .sentinel, .pinned], laidTests := true, laidLooks := .later }
def WholeMultipliesCardSaid : Prop := Claim7.holds Tryz.pinned (.plain (OpenSpec.ofChange wholeMultipliesSpec)) wholeMultipliesCard

/-- THE TIED CARD OF 'metrolablaw01.WholeCounts'. -/
def wholeCountsCard : Claim7 := { stood := { row := wholeCountsRow, standIns := [], harness := (true, "00ed168626a0f91c1577080cb88bb8270eacf83602a60caf9a197a1be9c37ecb"), looks := true }, kinds := [], alts := [], laidByText := true, laidKinds := [.data, .data, .data, .data, .sentinel, .sentinel, .pinned], laidTests := true, laidLooks := .later }
def WholeCountsCardSaid : Prop := Claim7.holds Tryz.pinned (.plain (OpenSpec.ofChange wholeCountsSpec)) wholeCountsCard

/-- THE TIED CARD OF 'metrolablaw01.WholeTotals'. -/
def wholeTotalsCard : Claim7 := { stood := { row := wholeTotalsRow, standIns := [], harness := (true, "00ed168626a0f91c1577080cb88bb8270eacf83602a60caf9a197a1be9c37ecb"), looks := true }, kinds := [], alts := [], laidByText := true, laidKinds := [.data, .data, .data, .data, .sentinel, .sentinel, .pinned], laidTests := true, laidLooks := .later }
def WholeTotalsCardSaid : Prop := Claim7.holds Tryz.pinned (.plain (OpenSpec.ofChange wholeTotalsSpec)) wholeTotalsCard

/-- THE TIED CARD OF 'metrolablaw01.WholeReads'. -/
def wholeReadsCard : Claim7 := { stood := { row := wholeReadsRow, standIns := [], harness := (true, "00ed168626a0f91c1577080cb88bb8270eacf83602a60caf9a197a1be9c37ecb"), looks := true }, kinds := [], alts := [], laidByText := true, laidKinds := [.data, .data, .data, .data, .sentinel, .sentinel, .pinned], laidTests := true, laidLooks := .later }
def WholeReadsCardSaid : Prop := Claim7.holds Tryz.pinned (.plain (OpenSpec.ofChange wholeReadsSpec)) wholeReadsCard

/-- THE TIED CARD OF 'metrolablaw01.WholeAdds'. -/
def wholeAddsCard : Claim7 := { stood := { row := wholeAddsRow, standIns := [], harness := (true, "00ed168626a0f91c1577080cb88bb8270eacf83602a60caf9a197a1be9c37ecb"), looks := true }, kinds := [], alts := [], laidByText := true, laidKinds := [.data, .data, .data, .data, .sentinel, .sentinel, .pinned], laidTests := true, laidLooks := .later }
def WholeAddsCardSaid : Prop := Claim7.holds Tryz.pinned (.plain (OpenSpec.ofChange wholeAddsSpec)) wholeAddsCard

/-- THE SECOND FORM's CARD OF 'metrolablaw01.WholeMultiplies'. -/
def wholeMultipliesUptoCard : Claim7 := { stood := { row := wholeMultipliesUptoRow, standIns := [], harness := (true, "00ed168626a0f91c1577080cb88bb8270eacf83602a60caf9a197a1be9c37ecb"), looks := true }, kinds := [], alts := [], laidByText := true, laidKinds := [.data, .data, .data, .data, .sentinel, .sentinel, .pinned], laidTests := true, laidLooks := .later }
def WholeMultipliesUptoCardSaid : Prop := Claim7.holds Tryz.pinned (.plain (OpenSpec.upto wholeMultipliesSpec)) wholeMultipliesUptoCard

/-- THE SECOND FORM's CARD OF 'metrolablaw01.WholeCounts'. -/
def wholeCountsUptoCard : Claim7 := { stood := { row := wholeCountsUptoRow, standIns := [], harness := (true, "00ed168626a0f91c1577080cb88bb8270eacf83602a60caf9a197a1be9c37ecb"), looks := true }, kinds := [], alts := [], laidByText := true, laidKinds := [.data, .data, .data, .data, .sentinel, .sentinel, .pinned], laidTests := true, laidLooks := .later }
def WholeCountsUptoCardSaid : Prop := Claim7.holds Tryz.pinned (.plain (OpenSpec.upto wholeCountsSpec)) wholeCountsUptoCard

/-- THE SECOND FORM's CARD OF 'metrolablaw01.WholeTotals'. -/
def wholeTotalsUptoCard : Claim7 := { stood := { row := wholeTotalsUptoRow, standIns := [], harness := (true, "00ed168626a0f91c1577080cb88bb8270eacf83602a60caf9a197a1be9c37ecb"), looks := true }, kinds := [], alts := [], laidByText := true, laidKinds := [.data, .data, .data, .data, .sentinel, .sentinel, .pinned], laidTests := true, laidLooks := .later }
def WholeTotalsUptoCardSaid : Prop := Claim7.holds Tryz.pinned (.plain (OpenSpec.upto wholeTotalsSpec)) wholeTotalsUptoCard

/-- THE SECOND FORM's CARD OF 'metrolablaw01.WholeReads'. -/
def wholeReadsUptoCard : Claim7 := { stood := { row := wholeReadsUptoRow, standIns := [], harness := (true, "00ed168626a0f91c1577080cb88bb8270eacf83602a60caf9a197a1be9c37ecb"), looks := true }, kinds := [], alts := [], laidByText := true, laidKinds := [.data, .data, .data, .data, .sentinel, .sentinel, .pinned], laidTests := true, laidLooks := .later }
def WholeReadsUptoCardSaid : Prop := Claim7.holds Tryz.pinned (.plain (OpenSpec.upto wholeReadsSpec)) wholeReadsUptoCard

/-- THE SECOND FORM's CARD OF 'metrolablaw01.WholeAdds'. -/
def wholeAddsUptoCard : Claim7 := { stood := { row := wholeAddsUptoRow, standIns := [], harness := (true, "00ed168626a0f91c1577080cb88bb8270eacf83602a60caf9a197a1be9c37ecb"), looks := true }, kinds := [], alts := [], laidByText := true, laidKinds := [.data, .data, .data, .data, .sentinel, .sentinel, .pinned], laidTests := true, laidLooks := .later }
def WholeAddsUptoCardSaid : Prop := Claim7.holds Tryz.pinned (.plain (OpenSpec.upto wholeAddsSpec)) wholeAddsUptoCard
end Rows
end Go.Proofs.YtpkfnclbcmnckaaGreatDoor
