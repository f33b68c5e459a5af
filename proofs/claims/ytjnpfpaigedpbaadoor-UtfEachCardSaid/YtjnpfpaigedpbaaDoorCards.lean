/-
  DERIVED. GIVEN WITH THE SEED: THE CARDS: each row of YtjnpfpaigedpbaaDoorRows.lean that lists a variable, with what it lists TIED to the program's text (the seventh form; the later family's looks); each row that meets fmt, with fmt's text TOLD by the authors' own Lean function (tested against real Go, not proved from fmt's source: count such statements apart). THE CARD IS WHAT COUNTS. Prove the row's statement (the work); the ties are given (YtjnpfpaigedpbaaDoorTie.lean); close each card by the builder's one call (the guide's Derived/Test/ToyasCard.lean, 'card_holds'). Laid BY PROGRAM, IN A SANDBOX (cutbox-door.mjs). By AI agents, Wed Nov 11 2026. No macro, syntax, notation, axiom, sorry.
-/
import Derived.Test.YtjnpfpaigedpbaaDoorRows
import GoSem.ClaimSeven
namespace Go.Proofs.YtjnpfpaigedpbaaDoor
namespace Rows

/-- THE TIED CARD OF 'wicketlaw2.UtfClass'. -/
def utfClassCard : Claim7 := { stood := { row := utfClassRow, standIns := [], harness := (true, "d6fb58b77e540c9de8f264ae1a3c8d1aab43b002acea55d1dbe9cf4ade7ce608"), looks := true }, kinds := [], alts := [], laidByText := true, laidKinds := [.sentinel, .sentinel, .data], laidTests := true, laidLooks := .later }
def UtfClassCardSaid : Prop := Claim7.holds Tryd.pinned (.plain (OpenSpec.ofChange utfClassSpec)) utfClassCard

/-- THE TIED CARD OF 'wicketlaw2.UtfEach'. -/
def utfEachCard : Claim7 := { stood := { row := utfEachRow, standIns := [], harness := (true, "d6fb58b77e540c9de8f264ae1a3c8d1aab43b002acea55d1dbe9cf4ade7ce608"), looks := true }, kinds := [], alts := [], laidByText := true, laidKinds := [.sentinel, .sentinel, .data], laidTests := true, laidLooks := .later }
def UtfEachCardSaid : Prop := Claim7.holds Tryd.pinned (.plain (OpenSpec.ofChange utfEachSpec)) utfEachCard

/-- THE TIED CARD OF 'wicketlaw2.UtfAppends'. -/
def utfAppendsCard : Claim7 := { stood := { row := utfAppendsRow, standIns := [], harness := (true, "d6fb58b77e540c9de8f264ae1a3c8d1aab43b002acea55d1dbe9cf4ade7ce608"), looks := true }, kinds := [], alts := [], laidByText := true, laidKinds := [.sentinel, .sentinel, .data], laidTests := true, laidLooks := .later }
def UtfAppendsCardSaid : Prop := Claim7.holds Tryd.pinned (.plain (OpenSpec.ofChange utfAppendsSpec)) utfAppendsCard

/-- THE TIED CARD OF 'wicketlaw2.UtfBack'. -/
def utfBackCard : Claim7 := { stood := { row := utfBackRow, standIns := [], harness := (true, "d6fb58b77e540c9de8f264ae1a3c8d1aab43b002acea55d1dbe9cf4ade7ce608"), looks := true }, kinds := [], alts := [], laidByText := true, laidKinds := [.sentinel, .sentinel, .data], laidTests := true, laidLooks := .later }
def UtfBackCardSaid : Prop := Claim7.holds Tryd.pinned (.plain (OpenSpec.ofChange utfBackSpec)) utfBackCard

/-- THE TIED CARD OF 'wicketlaw2.UtfParts'. -/
def utfPartsCard : Claim7 := { stood := { row := utfPartsRow, standIns := [], harness := (true, "d6fb58b77e540c9de8f264ae1a3c8d1aab43b002acea55d1dbe9cf4ade7ce608"), looks := true }, kinds := [], alts := [], laidByText := true, laidKinds := [.sentinel, .sentinel, .data], laidTests := true, laidLooks := .later }
def UtfPartsCardSaid : Prop := Claim7.holds Tryd.pinned (.plain (OpenSpec.ofChange utfPartsSpec)) utfPartsCard

/-- THE TIED CARD OF 'wicketlaw2.UtfOrder'. -/
def utfOrderCard : Claim7 := { stood := { row := utfOrderRow, standIns := [], harness := (true, "d6fb58b77e540c9de8f264ae1a3c8d1aab43b002acea55d1dbe9cf4ade7ce608"), looks := true }, kinds := [], alts := [], laidByText := true, laidKinds := [.sentinel, .sentinel, .data], laidTests := true, laidLooks := .later }
def UtfOrderCardSaid : Prop := Claim7.holds Tryd.pinned (.plain (OpenSpec.ofChange utfOrderSpec)) utfOrderCard

/-- THE SECOND FORM's CARD OF 'wicketlaw2.UtfClass'. -/
def utfClassUptoCard : Claim7 := { stood := { row := utfClassUptoRow, standIns := [], harness := (true, "d6fb58b77e540c9de8f264ae1a3c8d1aab43b002acea55d1dbe9cf4ade7ce608"), looks := true }, kinds := [], alts := [], laidByText := true, laidKinds := [.sentinel, .sentinel, .data], laidTests := true, laidLooks := .later }
def UtfClassUptoCardSaid : Prop := Claim7.holds Tryd.pinned (.plain (OpenSpec.upto utfClassSpec)) utfClassUptoCard

/-- THE SECOND FORM's CARD OF 'wicketlaw2.UtfEach'. -/
def utfEachUptoCard : Claim7 := { stood := { row := utfEachUptoRow, standIns := [], harness := (true, "d6fb58b77e540c9de8f264ae1a3c8d1aab43b002acea55d1dbe9cf4ade7ce608"), looks := true }, kinds := [], alts := [], laidByText := true, laidKinds := [.sentinel, .sentinel, .data], laidTests := true, laidLooks := .later }
def UtfEachUptoCardSaid : Prop := Claim7.holds Tryd.pinned (.plain (OpenSpec.upto utfEachSpec)) utfEachUptoCard

/-- THE SECOND FORM's CARD OF 'wicketlaw2.UtfAppends'. -/
def utfAppendsUptoCard : Claim7 := { stood := { row := utfAppendsUptoRow, standIns := [], harness := (true, "d6fb58b77e540c9de8f264ae1a3c8d1aab43b002acea55d1dbe9cf4ade7ce608"), looks := true }, kinds := [], alts := [], laidByText := true, laidKinds := [.sentinel, .sentinel, .data], laidTests := true, laidLooks := .later }
def UtfAppendsUptoCardSaid : Prop := Claim7.holds Tryd.pinned (.plain (OpenSpec.upto utfAppendsSpec)) utfAppendsUptoCard

/-- THE SECOND FORM's CARD OF 'wicketlaw2.UtfBack'. -/
def utfBackUptoCard : Claim7 := { stood := { row := utfBackUptoRow, standIns := [], harness := (true, "d6fb58b77e540c9de8f264ae1a3c8d1aab43b002acea55d1dbe9cf4ade7ce608"), looks := true }, kinds := [], alts := [], laidByText := true, laidKinds := [.sentinel, .sentinel, .data], laidTests := true, laidLooks := .later }
def UtfBackUptoCardSaid : Prop := Claim7.holds Tryd.pinned (.plain (OpenSpec.upto utfBackSpec)) utfBackUptoCard

/-- THE SECOND FORM's CARD OF 'wicketlaw2.UtfParts'. -/
def utfPartsUptoCard : Claim7 := { stood := { row := utfPartsUptoRow, standIns := [], harness := (true, "d6fb58b77e540c9de8f264ae1a3c8d1aab43b002acea55d1dbe9cf4ade7ce608"), looks := true }, kinds := [], alts := [], laidByText := true, laidKinds := [.sentinel, .sentinel, .data], laidTests := true, laidLooks := .later }
def UtfPartsUptoCardSaid : Prop := Claim7.holds Tryd.pinned (.plain (OpenSpec.upto utfPartsSpec)) utfPartsUptoCard

/-- THE SECOND FORM's CARD OF 'wicketlaw2.UtfOrder'. -/
def utfOrderUptoCard : Claim7 := { stood := { row := utfOrderUptoRow, standIns := [], harness := (true, "d6fb58b77e540c9de8f264ae1a3c8d1aab43b002acea55d1dbe9cf4ade7ce608"), looks := true }, kinds := [], alts := [], laidByText := true, laidKinds := [.sentinel, .sentinel, .data], laidTests := true, laidLooks := .later }
def UtfOrderUptoCardSaid : Prop := Claim7.holds Tryd.pinned (.plain (OpenSpec.upto utfOrderSpec)) utfOrderUptoCard
end Rows
end Go.Proofs.YtjnpfpaigedpbaaDoor
