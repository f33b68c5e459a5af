/-
  DERIVED. GIVEN WITH THE SEED: THE CARDS: each row of YthhnmpkgleelfaaGreatDoorRows.lean that lists a variable, with what it lists TIED to the program's text (the seventh form; the later family's looks); each row that meets fmt, with fmt's text TOLD by the authors' own Lean function (tested against real Go, not proved from fmt's source: count such statements apart). THE CARD IS WHAT COUNTS. Prove the row's statement (the work); the ties are given (YthhnmpkgleelfaaGreatDoorTie.lean); close each card by the builder's one call (the guide's Derived/Test/ToyasCard.lean, 'card_holds'). Laid BY PROGRAM, IN A SANDBOX (cutbox-door.mjs). By AI agents, Wed Nov 11 2026. No macro, syntax, notation, axiom, sorry.
-/
import Derived.Test.YthhnmpkgleelfaaGreatDoorRows
import GoSem.ClaimSeven
namespace Go.Proofs.YthhnmpkgleelfaaGreatDoor
namespace Rows

/-- THE TIED CARD OF 'wicketlaw12.SimEnds'. -/
def simEndsCard : Claim7 := { stood := { row := simEndsRow, standIns := [], harness := (true, "da06317ba2eb82c490d0eac53cab57abb34fed3c0ffa8e28a1d5893f053bf523"), looks := true }, kinds := [], alts := [], laidByText := true, laidKinds := [.data, .data, .data, .data, .sentinel, .sentinel, .sentinel, .sentinel, .sentinel, .pinned], laidTests := true, laidLooks := .later }
def SimEndsCardSaid : Prop := Claim7.holds Tryz.pinned (.plain (OpenSpec.ofChange simEndsSpec)) simEndsCard

/-- THE TIED CARD OF 'wicketlaw12.SimRuns'. -/
def simRunsCard : Claim7 := { stood := { row := simRunsRow, standIns := [], harness := (true, "da06317ba2eb82c490d0eac53cab57abb34fed3c0ffa8e28a1d5893f053bf523"), looks := true }, kinds := [], alts := [], laidByText := true, laidKinds := [.data, .data, .data, .data, .sentinel, .sentinel, .sentinel, .sentinel, .sentinel, .pinned], laidTests := true, laidLooks := .later }
def SimRunsCardSaid : Prop := Claim7.holds Tryz.pinned (.plain (OpenSpec.ofChange simRunsSpec)) simRunsCard

/-- THE TIED CARD OF 'wicketlaw12.SimStrings'. -/
def simStringsCard : Claim7 := { stood := { row := simStringsRow, standIns := [], harness := (true, "da06317ba2eb82c490d0eac53cab57abb34fed3c0ffa8e28a1d5893f053bf523"), looks := true }, kinds := [], alts := [], laidByText := true, laidKinds := [.data, .data, .data, .data, .sentinel, .sentinel, .sentinel, .sentinel, .sentinel, .pinned], laidTests := true, laidLooks := .later }
def SimStringsCardSaid : Prop := Claim7.holds Tryz.pinned (.plain (OpenSpec.ofChange simStringsSpec)) simStringsCard

/-- THE TIED CARD OF 'wicketlaw12.SimParts'. -/
def simPartsCard : Claim7 := { stood := { row := simPartsRow, standIns := [], harness := (true, "da06317ba2eb82c490d0eac53cab57abb34fed3c0ffa8e28a1d5893f053bf523"), looks := true }, kinds := [], alts := [], laidByText := true, laidKinds := [.data, .data, .data, .data, .sentinel, .sentinel, .sentinel, .sentinel, .sentinel, .pinned], laidTests := true, laidLooks := .later }
def SimPartsCardSaid : Prop := Claim7.holds Tryz.pinned (.plain (OpenSpec.ofChange simPartsSpec)) simPartsCard

/-- THE TIED CARD OF 'wicketlaw12.SimLonger'. -/
def simLongerCard : Claim7 := { stood := { row := simLongerRow, standIns := [], harness := (true, "da06317ba2eb82c490d0eac53cab57abb34fed3c0ffa8e28a1d5893f053bf523"), looks := true }, kinds := [], alts := [], laidByText := true, laidKinds := [.data, .data, .data, .data, .sentinel, .sentinel, .sentinel, .sentinel, .sentinel, .pinned], laidTests := true, laidLooks := .later }
def SimLongerCardSaid : Prop := Claim7.holds Tryz.pinned (.plain (OpenSpec.ofChange simLongerSpec)) simLongerCard

/-- THE TIED CARD OF 'wicketlaw12.SimOwn'. -/
def simOwnCard : Claim7 := { stood := { row := simOwnRow, standIns := [], harness := (true, "da06317ba2eb82c490d0eac53cab57abb34fed3c0ffa8e28a1d5893f053bf523"), looks := true }, kinds := [], alts := [], laidByText := true, laidKinds := [.data, .data, .data, .data, .sentinel, .sentinel, .sentinel, .sentinel, .sentinel, .pinned], laidTests := true, laidLooks := .later }
def SimOwnCardSaid : Prop := Claim7.holds Tryz.pinned (.plain (OpenSpec.ofChange simOwnSpec)) simOwnCard

/-- THE TIED CARD OF 'wicketlaw12.SimCounts'. -/
def simCountsCard : Claim7 := { stood := { row := simCountsRow, standIns := [], harness := (true, "da06317ba2eb82c490d0eac53cab57abb34fed3c0ffa8e28a1d5893f053bf523"), looks := true }, kinds := [], alts := [], laidByText := true, laidKinds := [.data, .data, .data, .data, .sentinel, .sentinel, .sentinel, .sentinel, .sentinel, .pinned], laidTests := true, laidLooks := .later }
def SimCountsCardSaid : Prop := Claim7.holds Tryz.pinned (.plain (OpenSpec.ofChange simCountsSpec)) simCountsCard

/-- THE SECOND FORM's CARD OF 'wicketlaw12.SimEnds'. -/
def simEndsUptoCard : Claim7 := { stood := { row := simEndsUptoRow, standIns := [], harness := (true, "da06317ba2eb82c490d0eac53cab57abb34fed3c0ffa8e28a1d5893f053bf523"), looks := true }, kinds := [], alts := [], laidByText := true, laidKinds := [.data, .data, .data, .data, .sentinel, .sentinel, .sentinel, .sentinel, .sentinel, .pinned], laidTests := true, laidLooks := .later }
def SimEndsUptoCardSaid : Prop := Claim7.holds Tryz.pinned (.plain (OpenSpec.upto simEndsSpec)) simEndsUptoCard

/-- THE SECOND FORM's CARD OF 'wicketlaw12.SimRuns'. -/
def simRunsUptoCard : Claim7 := { stood := { row := simRunsUptoRow, standIns := [], harness := (true, "da06317ba2eb82c490d0eac53cab57abb34fed3c0ffa8e28a1d5893f053bf523"), looks := true }, kinds := [], alts := [], laidByText := true, laidKinds := [.data, .data, .data, .data, .sentinel, .sentinel, .sentinel, .sentinel, .sentinel, .pinned], laidTests := true, laidLooks := .later }
def SimRunsUptoCardSaid : Prop := Claim7.holds Tryz.pinned (.plain (OpenSpec.upto simRunsSpec)) simRunsUptoCard

/-- THE SECOND FORM's CARD OF 'wicketlaw12.SimStrings'. -/
def simStringsUptoCard : Claim7 := { stood := { row := simStringsUptoRow, standIns := [], harness := (true, "da06317ba2eb82c490d0eac53cab57abb34fed3c0ffa8e28a1d5893f053bf523"), looks := true }, kinds := [], alts := [], laidByText := true, laidKinds := [.data, .data, .data, .data, .sentinel, .sentinel, .sentinel, .sentinel, .sentinel, .pinned], laidTests := true, laidLooks := .later }
def SimStringsUptoCardSaid : Prop := Claim7.holds Tryz.pinned (.plain (OpenSpec.upto simStringsSpec)) simStringsUptoCard

/-- THE SECOND FORM's CARD OF 'wicketlaw12.SimParts'. -/
def simPartsUptoCard : Claim7 := { stood := { row := simPartsUptoRow, standIns := [], harness := (true, "da06317ba2eb82c490d0eac53cab57abb34fed3c0ffa8e28a1d5893f053bf523"), looks := true }, kinds := [], alts := [], laidByText := true, laidKinds := [.data, .data, .data, .data, .sentinel, .sentinel, .sentinel, .sentinel, .sentinel, .pinned], laidTests := true, laidLooks := .later }
def SimPartsUptoCardSaid : Prop := Claim7.holds Tryz.pinned (.plain (OpenSpec.upto simPartsSpec)) simPartsUptoCard

/-- THE SECOND FORM's CARD OF 'wicketlaw12.SimLonger'. -/
def simLongerUptoCard : Claim7 := { stood := { row := simLongerUptoRow, standIns := [], harness := (true, "da06317ba2eb82c490d0eac53cab57abb34fed3c0ffa8e28a1d5893f053bf523"), looks := true }, kinds := [], alts := [], laidByText := true, laidKinds := [.data, .data, .data, .data, .sentinel, .sentinel, .sentinel, .sentinel, .sentinel, .pinned], laidTests := true, laidLooks := .later }
def SimLongerUptoCardSaid : Prop := Claim7.holds Tryz.pinned (.plain (OpenSpec.upto simLongerSpec)) simLongerUptoCard

/-- THE SECOND FORM's CARD OF 'wicketlaw12.SimOwn'. -/
def simOwnUptoCard : Claim7 := { stood := { row := simOwnUptoRow, standIns := [], harness := (true, "da06317ba2eb82c490d0eac53cab57abb34fed3c0ffa8e28a1d5893f053bf523"), looks := true }, kinds := [], alts := [], laidByText := true, laidKinds := [.data, .data, .data, .data, .sentinel, .sentinel, .sentinel, .sentinel, .sentinel, .pinned], laidTests := true, laidLooks := .later }
def SimOwnUptoCardSaid : Prop := Claim7.holds Tryz.pinned (.plain (OpenSpec.upto simOwnSpec)) simOwnUptoCard

/-- THE SECOND FORM's CARD OF 'wicketlaw12.SimCounts'. -/
def simCountsUptoCard : Claim7 := { stood := { row := simCountsUptoRow, standIns := [], harness := (true, "da06317ba2eb82c490d0eac53cab57abb34fed3c0ffa8e28a1d5893f053bf523"), looks := true }, kinds := [], alts := [], laidByText := true, laidKinds := [.data, .data, .data, .data, .sentinel, .sentinel, .sentinel, .sentinel, .sentinel, .pinned], laidTests := true, laidLooks := .later }
def SimCountsUptoCardSaid : Prop := Claim7.holds Tryz.pinned (.plain (OpenSpec.upto simCountsSpec)) simCountsUptoCard
end Rows
end Go.Proofs.YthhnmpkgleelfaaGreatDoor
