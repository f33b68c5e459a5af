/-
  DERIVED. GIVEN WITH THE SEED: THE CARDS: each row of YthknekoamnnhhaaGreatDoorRows.lean that lists a variable, with what it lists TIED to the program's text (the seventh form; the later family's looks); each row that meets fmt, with fmt's text TOLD by the authors' own Lean function (tested against real Go, not proved from fmt's source: count such statements apart). THE CARD IS WHAT COUNTS. Prove the row's statement (the work); the ties are given (YthknekoamnnhhaaGreatDoorTie.lean); close each card by the builder's one call (the guide's Derived/Test/ToyasCard.lean, 'card_holds'). Laid BY PROGRAM, IN A SANDBOX (cutbox-door.mjs). By AI agents, Wed Nov 11 2026. No macro, syntax, notation, axiom, sorry.
-/
import Derived.Test.YthknekoamnnhhaaGreatDoorRows
import GoSem.ClaimSeven
namespace Go.Proofs.YthknekoamnnhhaaGreatDoor
namespace Rows

/-- THE TIED CARD OF 'wicketlaw8.CanonCompares'. -/
def canonComparesCard : Claim7 := { stood := { row := canonComparesRow, standIns := [], harness := (true, "2581ce78faa882616be41246a41917a4faba108fc18138dc1185ed29782b437e"), looks := true }, kinds := [], alts := [], laidByText := true, laidKinds := [.data, .data, .data, .data, .sentinel, .sentinel, .sentinel, .sentinel, .sentinel, .sentinel, .sentinel, .sentinel, .sentinel, .sentinel, .sentinel, .sentinel, .sentinel, .sentinel, .sentinel, .sentinel, .data, .data, .data, .data, .pinned], laidTests := true, laidLooks := .later }
def CanonComparesCardSaid : Prop := Claim7.holds Tryz.pinned (.plain (OpenSpec.ofChange canonComparesSpec)) canonComparesCard

/-- THE TIED CARD OF 'wicketlaw8.CanonSorts'. -/
def canonSortsCard : Claim7 := { stood := { row := canonSortsRow, standIns := [], harness := (true, "2581ce78faa882616be41246a41917a4faba108fc18138dc1185ed29782b437e"), looks := true }, kinds := [], alts := [], laidByText := true, laidKinds := [.data, .data, .data, .data, .sentinel, .sentinel, .sentinel, .sentinel, .sentinel, .sentinel, .sentinel, .sentinel, .sentinel, .sentinel, .sentinel, .sentinel, .sentinel, .sentinel, .sentinel, .sentinel, .data, .data, .data, .data, .pinned], laidTests := true, laidLooks := .later }
def CanonSortsCardSaid : Prop := Claim7.holds Tryz.pinned (.plain (OpenSpec.ofChange canonSortsSpec)) canonSortsCard

/-- THE TIED CARD OF 'wicketlaw8.CanonOrder'. -/
def canonOrderCard : Claim7 := { stood := { row := canonOrderRow, standIns := [], harness := (true, "2581ce78faa882616be41246a41917a4faba108fc18138dc1185ed29782b437e"), looks := true }, kinds := [], alts := [], laidByText := true, laidKinds := [.data, .data, .data, .data, .sentinel, .sentinel, .sentinel, .sentinel, .sentinel, .sentinel, .sentinel, .sentinel, .sentinel, .sentinel, .sentinel, .sentinel, .sentinel, .sentinel, .sentinel, .sentinel, .data, .data, .data, .data, .pinned], laidTests := true, laidLooks := .later }
def CanonOrderCardSaid : Prop := Claim7.holds Tryz.pinned (.plain (OpenSpec.ofChange canonOrderSpec)) canonOrderCard

/-- THE SECOND FORM's CARD OF 'wicketlaw8.CanonCompares'. -/
def canonComparesUptoCard : Claim7 := { stood := { row := canonComparesUptoRow, standIns := [], harness := (true, "2581ce78faa882616be41246a41917a4faba108fc18138dc1185ed29782b437e"), looks := true }, kinds := [], alts := [], laidByText := true, laidKinds := [.data, .data, .data, .data, .sentinel, .sentinel, .sentinel, .sentinel, .sentinel, .sentinel, .sentinel, .sentinel, .sentinel, .sentinel, .sentinel, .sentinel, .sentinel, .sentinel, .sentinel, .sentinel, .data, .data, .data, .data, .pinned], laidTests := true, laidLooks := .later }
def CanonComparesUptoCardSaid : Prop := Claim7.holds Tryz.pinned (.plain (OpenSpec.upto canonComparesSpec)) canonComparesUptoCard

/-- THE SECOND FORM's CARD OF 'wicketlaw8.CanonSorts'. -/
def canonSortsUptoCard : Claim7 := { stood := { row := canonSortsUptoRow, standIns := [], harness := (true, "2581ce78faa882616be41246a41917a4faba108fc18138dc1185ed29782b437e"), looks := true }, kinds := [], alts := [], laidByText := true, laidKinds := [.data, .data, .data, .data, .sentinel, .sentinel, .sentinel, .sentinel, .sentinel, .sentinel, .sentinel, .sentinel, .sentinel, .sentinel, .sentinel, .sentinel, .sentinel, .sentinel, .sentinel, .sentinel, .data, .data, .data, .data, .pinned], laidTests := true, laidLooks := .later }
def CanonSortsUptoCardSaid : Prop := Claim7.holds Tryz.pinned (.plain (OpenSpec.upto canonSortsSpec)) canonSortsUptoCard

/-- THE SECOND FORM's CARD OF 'wicketlaw8.CanonOrder'. -/
def canonOrderUptoCard : Claim7 := { stood := { row := canonOrderUptoRow, standIns := [], harness := (true, "2581ce78faa882616be41246a41917a4faba108fc18138dc1185ed29782b437e"), looks := true }, kinds := [], alts := [], laidByText := true, laidKinds := [.data, .data, .data, .data, .sentinel, .sentinel, .sentinel, .sentinel, .sentinel, .sentinel, .sentinel, .sentinel, .sentinel, .sentinel, .sentinel, .sentinel, .sentinel, .sentinel, .sentinel, .sentinel, .data, .data, .data, .data, .pinned], laidTests := true, laidLooks := .later }
def CanonOrderUptoCardSaid : Prop := Claim7.holds Tryz.pinned (.plain (OpenSpec.upto canonOrderSpec)) canonOrderUptoCard
end Rows
end Go.Proofs.YthknekoamnnhhaaGreatDoor
