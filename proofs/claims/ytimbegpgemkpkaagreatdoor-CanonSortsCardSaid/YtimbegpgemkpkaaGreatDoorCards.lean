/-
  DERIVED. GIVEN WITH THE SEED: THE CARDS: each row of YtimbegpgemkpkaaGreatDoorRows.lean that lists a variable, with what it lists TIED to the program's text (the seventh form; the later family's looks); each row that meets fmt, with fmt's text TOLD by the authors' own Lean function (tested against real Go, not proved from fmt's source: count such statements apart). THE CARD IS WHAT COUNTS. Prove the row's statement (the work); the ties are given (YtimbegpgemkpkaaGreatDoorTie.lean); close each card by the builder's one call (the guide's Derived/Test/ToyasCard.lean, 'card_holds'). Laid BY PROGRAM, IN A SANDBOX (cutbox-door.mjs). By AI agents, Wed Nov 11 2026. No macro, syntax, notation, axiom, sorry.
-/
import Derived.Test.YtimbegpgemkpkaaGreatDoorRows
import GoSem.ClaimSeven
namespace Go.Proofs.YtimbegpgemkpkaaGreatDoor
namespace Rows

/-- THE TIED CARD OF 'wicketlaw8.CanonSorts'. -/
def canonSortsCard : Claim7 := { stood := { row := canonSortsRow, standIns := [], harness := (true, "2379569505890180b7e60200164ac3edca6bbc87ffd9a589a05457772d5e3715"), looks := true }, kinds := [], alts := [], laidByText := true, laidKinds := [.data, .data, .data, .data, .sentinel, .sentinel, .sentinel, .sentinel, .sentinel, .sentinel, .sentinel, .sentinel, .sentinel, .sentinel, .sentinel, .sentinel, .sentinel, .sentinel, .sentinel, .sentinel, .data, .data, .data, .data, .pinned], laidTests := true, laidLooks := .later }
def CanonSortsCardSaid : Prop := Claim7.holds Tryz.pinned (.plain (OpenSpec.ofChange canonSortsSpec)) canonSortsCard

/-- THE SECOND FORM's CARD OF 'wicketlaw8.CanonSorts'. -/
def canonSortsUptoCard : Claim7 := { stood := { row := canonSortsUptoRow, standIns := [], harness := (true, "2379569505890180b7e60200164ac3edca6bbc87ffd9a589a05457772d5e3715"), looks := true }, kinds := [], alts := [], laidByText := true, laidKinds := [.data, .data, .data, .data, .sentinel, .sentinel, .sentinel, .sentinel, .sentinel, .sentinel, .sentinel, .sentinel, .sentinel, .sentinel, .sentinel, .sentinel, .sentinel, .sentinel, .sentinel, .sentinel, .data, .data, .data, .data, .pinned], laidTests := true, laidLooks := .later }
def CanonSortsUptoCardSaid : Prop := Claim7.holds Tryz.pinned (.plain (OpenSpec.upto canonSortsSpec)) canonSortsUptoCard
end Rows
end Go.Proofs.YtimbegpgemkpkaaGreatDoor
