/-
  DERIVED. GIVEN WITH THE SEED: THE CARDS: each row of YtafobflehfecpaaGreatDoorRows.lean that lists a variable, with what it lists TIED to the program's text (the seventh form; the later family's looks); each row that meets fmt, with fmt's text TOLD by the authors' own Lean function (tested against real Go, not proved from fmt's source: count such statements apart). THE CARD IS WHAT COUNTS. Prove the row's statement (the work); the ties are given (YtafobflehfecpaaGreatDoorTie.lean); close each card by the builder's one call (the guide's Derived/Test/ToyasCard.lean, 'card_holds'). Laid BY PROGRAM, IN A SANDBOX (cutbox-door.mjs). By AI agents, Wed Nov 11 2026. No macro, syntax, notation, axiom, sorry.
-/
import Derived.Test.YtafobflehfecpaaGreatDoorRows
import GoSem.ClaimSeven
namespace Go.Proofs.YtafobflehfecpaaGreatDoor
namespace Rows

/-- THE TIED CARD OF 'wicketlaw20.ReportEntries'. -/
def reportEntriesCard : Claim7 := { stood := { row := reportEntriesRow, standIns := [], harness := (true, "2de3642e7434886aa93e33381dfdaa4a1be614996fec104175eb1298065b50f6"), looks := true }, kinds := [], alts := [], laidByText := true, laidKinds := [.data, .data, .data, .data, .sentinel, .sentinel, .sentinel, .sentinel, .sentinel, .sentinel, .sentinel, .sentinel, .sentinel, .sentinel, .sentinel, .sentinel, .sentinel, .sentinel, .sentinel, .sentinel, .sentinel, .sentinel, .sentinel, .data, .data, .data, .data, .widerDeep, .widerDeep, .pinned], laidTests := true, laidLooks := .later }
def ReportEntriesCardSaid : Prop := Claim7.holds Tryz.pinned (.plain (OpenSpec.ofChange reportEntriesSpec)) reportEntriesCard

/-- THE SECOND FORM's CARD OF 'wicketlaw20.ReportEntries'. -/
def reportEntriesUptoCard : Claim7 := { stood := { row := reportEntriesUptoRow, standIns := [], harness := (true, "2de3642e7434886aa93e33381dfdaa4a1be614996fec104175eb1298065b50f6"), looks := true }, kinds := [], alts := [], laidByText := true, laidKinds := [.data, .data, .data, .data, .sentinel, .sentinel, .sentinel, .sentinel, .sentinel, .sentinel, .sentinel, .sentinel, .sentinel, .sentinel, .sentinel, .sentinel, .sentinel, .sentinel, .sentinel, .sentinel, .sentinel, .sentinel, .sentinel, .data, .data, .data, .data, .widerDeep, .widerDeep, .pinned], laidTests := true, laidLooks := .later }
def ReportEntriesUptoCardSaid : Prop := Claim7.holds Tryz.pinned (.plain (OpenSpec.upto reportEntriesSpec)) reportEntriesUptoCard
end Rows
end Go.Proofs.YtafobflehfecpaaGreatDoor
