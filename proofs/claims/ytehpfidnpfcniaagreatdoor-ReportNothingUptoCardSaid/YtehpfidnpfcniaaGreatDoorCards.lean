/-
  DERIVED. GIVEN WITH THE SEED: THE CARDS: each row of YtehpfidnpfcniaaGreatDoorRows.lean that lists a variable, with what it lists TIED to the program's text (the seventh form; the later family's looks); each row that meets fmt, with fmt's text TOLD by the authors' own Lean function (tested against real Go, not proved from fmt's source: count such statements apart). THE CARD IS WHAT COUNTS. Prove the row's statement (the work); the ties are given (YtehpfidnpfcniaaGreatDoorTie.lean); close each card by the builder's one call (the guide's Derived/Test/ToyasCard.lean, 'card_holds'). Laid BY PROGRAM, IN A SANDBOX (cutbox-door.mjs). By AI agents, Wed Nov 11 2026. No macro, syntax, notation, axiom, sorry.
-/
import Derived.Test.YtehpfidnpfcniaaGreatDoorRows
import GoSem.ClaimSeven
namespace Go.Proofs.YtehpfidnpfcniaaGreatDoor
namespace Rows

/-- THE TIED CARD OF 'wicketlaw20.ReportNothing'. -/
def reportNothingCard : Claim7 := { stood := { row := reportNothingRow, standIns := [], harness := (true, "cea310b358efcda0163cd52e8c254d1f9eee76e5c65e93bffeec4d4e43ecefad"), looks := true }, kinds := [], alts := [], laidByText := true, laidKinds := [.data, .data, .data, .data, .sentinel, .sentinel, .sentinel, .sentinel, .sentinel, .sentinel, .sentinel, .sentinel, .sentinel, .sentinel, .sentinel, .sentinel, .sentinel, .sentinel, .sentinel, .sentinel, .sentinel, .sentinel, .sentinel, .data, .data, .data, .data, .widerDeep, .widerDeep, .pinned], laidTests := true, laidLooks := .later }
def ReportNothingCardSaid : Prop := Claim7.holds Tryz.pinned (.plain (OpenSpec.ofChange reportNothingSpec)) reportNothingCard

/-- THE SECOND FORM's CARD OF 'wicketlaw20.ReportNothing'. -/
def reportNothingUptoCard : Claim7 := { stood := { row := reportNothingUptoRow, standIns := [], harness := (true, "cea310b358efcda0163cd52e8c254d1f9eee76e5c65e93bffeec4d4e43ecefad"), looks := true }, kinds := [], alts := [], laidByText := true, laidKinds := [.data, .data, .data, .data, .sentinel, .sentinel, .sentinel, .sentinel, .sentinel, .sentinel, .sentinel, .sentinel, .sentinel, .sentinel, .sentinel, .sentinel, .sentinel, .sentinel, .sentinel, .sentinel, .sentinel, .sentinel, .sentinel, .data, .data, .data, .data, .widerDeep, .widerDeep, .pinned], laidTests := true, laidLooks := .later }
def ReportNothingUptoCardSaid : Prop := Claim7.holds Tryz.pinned (.plain (OpenSpec.upto reportNothingSpec)) reportNothingUptoCard
end Rows
end Go.Proofs.YtehpfidnpfcniaaGreatDoor
