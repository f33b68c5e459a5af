/-
  DERIVED. GIVEN WITH THE SEED: THE CARDS: each row of YtibmppoeeppnoaaGreatDoorRows.lean that lists a variable, with what it lists TIED to the program's text (the seventh form; the later family's looks); each row that meets fmt, with fmt's text TOLD by the authors' own Lean function (tested against real Go, not proved from fmt's source: count such statements apart). THE CARD IS WHAT COUNTS. Prove the row's statement (the work); the ties are given (YtibmppoeeppnoaaGreatDoorTie.lean); close each card by the builder's one call (the guide's Derived/Test/ToyasCard.lean, 'card_holds'). Laid BY PROGRAM, IN A SANDBOX (cutbox-door.mjs). By AI agents, Wed Nov 11 2026. No macro, syntax, notation, axiom, sorry.
-/
import Derived.Test.YtibmppoeeppnoaaGreatDoorRows
import GoSem.ClaimSeven
namespace Go.Proofs.YtibmppoeeppnoaaGreatDoor
namespace Rows

/-- THE TIED CARD OF 'wicketlaw8.CanonWriters'. -/
def canonWritersCard : Claim7 := { stood := { row := canonWritersRow, standIns := [], harness := (true, "d0ac90c91cc4cc74df40f34be8c34774766c8321446c8d151dfc1f0594c3a444"), looks := true }, kinds := [], alts := [], laidByText := true, laidKinds := [.data, .data, .data, .data, .sentinel, .sentinel, .sentinel, .sentinel, .sentinel, .sentinel, .sentinel, .sentinel, .sentinel, .sentinel, .sentinel, .sentinel, .sentinel, .sentinel, .sentinel, .sentinel, .data, .data, .data, .data, .pinned], laidTests := true, laidLooks := .later }
def CanonWritersCardSaid : Prop := Claim7.holds Tryz.pinned (.plain (OpenSpec.ofChange canonWritersSpec)) canonWritersCard

/-- THE SECOND FORM's CARD OF 'wicketlaw8.CanonWriters'. -/
def canonWritersUptoCard : Claim7 := { stood := { row := canonWritersUptoRow, standIns := [], harness := (true, "d0ac90c91cc4cc74df40f34be8c34774766c8321446c8d151dfc1f0594c3a444"), looks := true }, kinds := [], alts := [], laidByText := true, laidKinds := [.data, .data, .data, .data, .sentinel, .sentinel, .sentinel, .sentinel, .sentinel, .sentinel, .sentinel, .sentinel, .sentinel, .sentinel, .sentinel, .sentinel, .sentinel, .sentinel, .sentinel, .sentinel, .data, .data, .data, .data, .pinned], laidTests := true, laidLooks := .later }
def CanonWritersUptoCardSaid : Prop := Claim7.holds Tryz.pinned (.plain (OpenSpec.upto canonWritersSpec)) canonWritersUptoCard
end Rows
end Go.Proofs.YtibmppoeeppnoaaGreatDoor
