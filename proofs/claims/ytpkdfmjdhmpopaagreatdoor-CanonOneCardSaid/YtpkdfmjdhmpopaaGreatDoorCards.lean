/-
  DERIVED. GIVEN WITH THE SEED: THE CARDS: each row of YtpkdfmjdhmpopaaGreatDoorRows.lean that lists a variable, with what it lists TIED to the program's text (the seventh form; the later family's looks); each row that meets fmt, with fmt's text TOLD by the authors' own Lean function (tested against real Go, not proved from fmt's source: count such statements apart). THE CARD IS WHAT COUNTS. Prove the row's statement (the work); the ties are given (YtpkdfmjdhmpopaaGreatDoorTie.lean); close each card by the builder's one call (the guide's Derived/Test/ToyasCard.lean, 'card_holds'). Laid BY PROGRAM, IN A SANDBOX (cutbox-door.mjs). By AI agents, Wed Nov 11 2026. No macro, syntax, notation, axiom, sorry.
-/
import Derived.Test.YtpkdfmjdhmpopaaGreatDoorRows
import GoSem.ClaimSeven
namespace Go.Proofs.YtpkdfmjdhmpopaaGreatDoor
namespace Rows

/-- THE TIED CARD OF 'wicketlaw8.CanonOne'. -/
def canonOneCard : Claim7 := { stood := { row := canonOneRow, standIns := [], harness := (true, "eb79b1f0d4538463b0499dc8a6d681ea4d130f896324cd56f756471c619db175"), looks := true }, kinds := [], alts := [], laidByText := true, laidKinds := [.data, .data, .data, .data, .sentinel, .sentinel, .sentinel, .sentinel, .sentinel, .sentinel, .sentinel, .sentinel, .sentinel, .sentinel, .sentinel, .sentinel, .sentinel, .sentinel, .sentinel, .sentinel, .data, .data, .data, .data, .pinned], laidTests := true, laidLooks := .later }
def CanonOneCardSaid : Prop := Claim7.holds Tryz.pinned (.plain (OpenSpec.ofChange canonOneSpec)) canonOneCard

/-- THE SECOND FORM's CARD OF 'wicketlaw8.CanonOne'. -/
def canonOneUptoCard : Claim7 := { stood := { row := canonOneUptoRow, standIns := [], harness := (true, "eb79b1f0d4538463b0499dc8a6d681ea4d130f896324cd56f756471c619db175"), looks := true }, kinds := [], alts := [], laidByText := true, laidKinds := [.data, .data, .data, .data, .sentinel, .sentinel, .sentinel, .sentinel, .sentinel, .sentinel, .sentinel, .sentinel, .sentinel, .sentinel, .sentinel, .sentinel, .sentinel, .sentinel, .sentinel, .sentinel, .data, .data, .data, .data, .pinned], laidTests := true, laidLooks := .later }
def CanonOneUptoCardSaid : Prop := Claim7.holds Tryz.pinned (.plain (OpenSpec.upto canonOneSpec)) canonOneUptoCard
end Rows
end Go.Proofs.YtpkdfmjdhmpopaaGreatDoor
