/-
  DERIVED. GIVEN WITH THE SEED: THE CARDS: each row of YtohibglohlfjfaaGreatDoorRows.lean that lists a variable, with what it lists TIED to the program's text (the seventh form; the later family's looks); each row that meets fmt, with fmt's text TOLD by the authors' own Lean function (tested against real Go, not proved from fmt's source: count such statements apart). THE CARD IS WHAT COUNTS. Prove the row's statement (the work); the ties are given (YtohibglohlfjfaaGreatDoorTie.lean); close each card by the builder's one call (the guide's Derived/Test/ToyasCard.lean, 'card_holds'). Laid BY PROGRAM, IN A SANDBOX (cutbox-door.mjs). By AI agents, Wed Nov 11 2026. No macro, syntax, notation, axiom, sorry.
-/
import Derived.Test.YtohibglohlfjfaaGreatDoorRows
import GoSem.ClaimSeven
namespace Go.Proofs.YtohibglohlfjfaaGreatDoor
namespace Rows

/-- THE TIED CARD OF 'wicketlaw8.CanonOrder'. -/
def canonOrderCard : Claim7 := { stood := { row := canonOrderRow, standIns := [], harness := (true, "3618900c565b88bc4b9589c77cdf9fd5d8d9625d6f7eab58e9b0e6c4d2e78d01"), looks := true }, kinds := [], alts := [], laidByText := true, laidKinds := [.data, .data, .data, .data, .sentinel, .sentinel, .sentinel, .sentinel, .sentinel, .sentinel, .sentinel, .sentinel, .sentinel, .sentinel, .sentinel, .sentinel, .sentinel, .sentinel, .sentinel, .sentinel, .data, .data, .data, .data, .pinned], laidTests := true, laidLooks := .later }
def CanonOrderCardSaid : Prop := Claim7.holds Tryz.pinned (.plain (OpenSpec.ofChange canonOrderSpec)) canonOrderCard

/-- THE SECOND FORM's CARD OF 'wicketlaw8.CanonOrder'. -/
def canonOrderUptoCard : Claim7 := { stood := { row := canonOrderUptoRow, standIns := [], harness := (true, "3618900c565b88bc4b9589c77cdf9fd5d8d9625d6f7eab58e9b0e6c4d2e78d01"), looks := true }, kinds := [], alts := [], laidByText := true, laidKinds := [.data, .data, .data, .data, .sentinel, .sentinel, .sentinel, .sentinel, .sentinel, .sentinel, .sentinel, .sentinel, .sentinel, .sentinel, .sentinel, .sentinel, .sentinel, .sentinel, .sentinel, .sentinel, .data, .data, .data, .data, .pinned], laidTests := true, laidLooks := .later }
def CanonOrderUptoCardSaid : Prop := Claim7.holds Tryz.pinned (.plain (OpenSpec.upto canonOrderSpec)) canonOrderUptoCard
end Rows
end Go.Proofs.YtohibglohlfjfaaGreatDoor
