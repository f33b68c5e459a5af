/-
  NARROWER THAN 'FOR EVERY INPUT', by the rows' own cells (each row's printed sentence says how): UtfClass: laid · UtfEach: laid · UtfAppends: laid · UtfBack: laid · UtfParts: laid · UtfOrder: laid.
  DERIVED. THE GIVEN ROWS OF THIS SEAT. 6 by the template 'for every input the law returns true; each argument reads behind the call as it read before'; 0 by the template 'total and deterministic' (their statements: YtjnpfpaigedpbaaDoorTotals.lean).
  GIVEN WITH THE SEED: the statements are not yours to turn. If you find one false, say at which input.
  Laid BY PROGRAM, IN A SANDBOX (cutbox-rows.mjs): the forced cells as the released guide's own fill.sh prints them over the translation a8814d158435da74… (all of the seat's roots in one cut). By AI agents, Wed Nov 11 2026. No macro, syntax, notation, axiom, sorry.
-/
import Derived.Test.YtjnpfpaigedpbaaDoorChecked
import GoSem.Claim
import GoSem.ClaimJoined
import GoSem.ClaimMapViews
import Derived.JoinedTies
import Derived.KernelRfl
namespace Go.Proofs.YtjnpfpaigedpbaaDoor
/- THE CELL 'sum', in the pinned program and in every row, IS THE sha256 OF THE DUMP (.gsa) THAT YtjnpfpaigedpbaaDoorProg.lean LOADS. Nothing in Lean hashes anything: it is a label: what it is worth is what the hold of that sum in a sandbox is worth. -/
noncomputable def Tryd.pinned : Pinned := { name := "ytjnpfpaigedpbaadoor", sum := "a8814d158435da745a85535cb5f4dbfcf1b3c508c60ca71016fcfef36213ca13", checked := Tryd.checked }
namespace Rows
def none {H : Type} : Left H := { results := [], args := [] }

/- WHAT THE LISTED PACKAGE-LEVEL VARIABLES READ AS WHEN THE CALL BEGINS. Each datum BY PROGRAM (the guide's laid-datum.mjs) off the statement by which the dump's own 'gosem.cut.vars' lays the variable. In a bare row this is a premise. The card (YtjnpfpaigedpbaaDoorCards.lean) ties it to the program's text. -/
def laid_wicket_api_ErrUTF {H : Type} : DataW H := .iface "*errors.errorString" (.ptr (.agg [.lit (.string [98, 121, 116, 101, 115, 32, 116, 104, 97, 116, 32, 97, 114, 101, 32, 110, 111, 32, 85, 84, 70, 45, 56])]))
def laid_wicket_api_ErrEnd {H : Type} : DataW H := .iface "*errors.errorString" (.ptr (.agg [.lit (.string [116, 104, 101, 32, 116, 101, 120, 116, 32, 101, 110, 100, 115, 32, 116, 111, 111, 32, 101, 97, 114, 108, 121])]))
def laid_wicket_utf_lengths {H : Type} : DataW H := .agg [.lit (.int .i8 1), .lit (.int .i8 1), .lit (.int .i8 1), .lit (.int .i8 1), .lit (.int .i8 1), .lit (.int .i8 1), .lit (.int .i8 1), .lit (.int .i8 1), .lit (.int .i8 0), .lit (.int .i8 0), .lit (.int .i8 0), .lit (.int .i8 0), .lit (.int .i8 2), .lit (.int .i8 2), .lit (.int .i8 3), .lit (.int .i8 4)]

/-- 'wicketlaw2.UtfClass': WHATEVER THE INPUT: true; the input reads as it did. -/
def utfClassSpec : ChangeSpec := { name := "utfClass", fn := fun _ => fun
  | [] => { results := [.lit (.bool true)], args := [] }
  | _ => none }
def utfClassRow : OpenClaim := { program := "ytjnpfpaigedpbaadoor", sum := "a8814d158435da745a85535cb5f4dbfcf1b3c508c60ca71016fcfef36213ca13", func := "wicket/wicketlaw2.UtfClass", spec := "utfClass", unfollowed := true, recurses := true, named := ["wicket/api.ErrEnd", "wicket/api.ErrUTF", "wicket/utf.lengths"], apart := false, laid := [("wicket/api.ErrUTF", laid_wicket_api_ErrUTF), ("wicket/api.ErrEnd", laid_wicket_api_ErrEnd), ("wicket/utf.lengths", laid_wicket_utf_lengths)] }
def UtfClassSaid : Prop := utfClassRow.holds Tryd.pinned (OpenSpec.ofChange utfClassSpec)

/-- ITS FALSE NEIGHBOUR: 'it returns false'. Refute it at one input. -/
def utfClassWrong : ChangeSpec := { name := "utfClass", fn := fun _ => fun
  | [] => { results := [.lit (.bool false)], args := [] }
  | _ => none }
def UtfClassWrongFalsely : Prop := utfClassRow.holds Tryd.pinned (OpenSpec.ofChange utfClassWrong)

/-- 'wicketlaw2.UtfEach': WHATEVER THE INPUT: true; the input reads as it did. -/
def utfEachSpec : ChangeSpec := { name := "utfEach", fn := fun _ => fun
  | [d1, d2] => { results := [.lit (.bool true)], args := [d1, d2] }
  | _ => none }
def utfEachRow : OpenClaim := { program := "ytjnpfpaigedpbaadoor", sum := "a8814d158435da745a85535cb5f4dbfcf1b3c508c60ca71016fcfef36213ca13", func := "wicket/wicketlaw2.UtfEach", spec := "utfEach", unfollowed := true, recurses := true, named := ["wicket/api.ErrEnd", "wicket/api.ErrUTF", "wicket/utf.lengths"], apart := false, laid := [("wicket/api.ErrUTF", laid_wicket_api_ErrUTF), ("wicket/api.ErrEnd", laid_wicket_api_ErrEnd), ("wicket/utf.lengths", laid_wicket_utf_lengths)] }
def UtfEachSaid : Prop := utfEachRow.holds Tryd.pinned (OpenSpec.ofChange utfEachSpec)

/-- ITS FALSE NEIGHBOUR: 'it returns false'. Refute it at one input. -/
def utfEachWrong : ChangeSpec := { name := "utfEach", fn := fun _ => fun
  | [d1, d2] => { results := [.lit (.bool false)], args := [d1, d2] }
  | _ => none }
def UtfEachWrongFalsely : Prop := utfEachRow.holds Tryd.pinned (OpenSpec.ofChange utfEachWrong)

/-- 'wicketlaw2.UtfAppends': WHATEVER THE INPUT: true; the input reads as it did. -/
def utfAppendsSpec : ChangeSpec := { name := "utfAppends", fn := fun _ => fun
  | [d1, d2, d3] => { results := [.lit (.bool true)], args := [d1, d2, d3] }
  | _ => none }
def utfAppendsRow : OpenClaim := { program := "ytjnpfpaigedpbaadoor", sum := "a8814d158435da745a85535cb5f4dbfcf1b3c508c60ca71016fcfef36213ca13", func := "wicket/wicketlaw2.UtfAppends", spec := "utfAppends", unfollowed := true, recurses := true, named := ["wicket/api.ErrUTF", "wicket/api.ErrEnd", "wicket/utf.lengths"], apart := false, laid := [("wicket/api.ErrUTF", laid_wicket_api_ErrUTF), ("wicket/api.ErrEnd", laid_wicket_api_ErrEnd), ("wicket/utf.lengths", laid_wicket_utf_lengths)] }
def UtfAppendsSaid : Prop := utfAppendsRow.holds Tryd.pinned (OpenSpec.ofChange utfAppendsSpec)

/-- ITS FALSE NEIGHBOUR: 'it returns false'. Refute it at one input. -/
def utfAppendsWrong : ChangeSpec := { name := "utfAppends", fn := fun _ => fun
  | [d1, d2, d3] => { results := [.lit (.bool false)], args := [d1, d2, d3] }
  | _ => none }
def UtfAppendsWrongFalsely : Prop := utfAppendsRow.holds Tryd.pinned (OpenSpec.ofChange utfAppendsWrong)

/-- 'wicketlaw2.UtfBack': WHATEVER THE INPUT: true; the input reads as it did. -/
def utfBackSpec : ChangeSpec := { name := "utfBack", fn := fun _ => fun
  | [d1, d2, d3] => { results := [.lit (.bool true)], args := [d1, d2, d3] }
  | _ => none }
def utfBackRow : OpenClaim := { program := "ytjnpfpaigedpbaadoor", sum := "a8814d158435da745a85535cb5f4dbfcf1b3c508c60ca71016fcfef36213ca13", func := "wicket/wicketlaw2.UtfBack", spec := "utfBack", unfollowed := true, recurses := true, named := ["wicket/api.ErrEnd", "wicket/api.ErrUTF", "wicket/utf.lengths"], apart := false, laid := [("wicket/api.ErrUTF", laid_wicket_api_ErrUTF), ("wicket/api.ErrEnd", laid_wicket_api_ErrEnd), ("wicket/utf.lengths", laid_wicket_utf_lengths)] }
def UtfBackSaid : Prop := utfBackRow.holds Tryd.pinned (OpenSpec.ofChange utfBackSpec)

/-- ITS FALSE NEIGHBOUR: 'it returns false'. Refute it at one input. -/
def utfBackWrong : ChangeSpec := { name := "utfBack", fn := fun _ => fun
  | [d1, d2, d3] => { results := [.lit (.bool false)], args := [d1, d2, d3] }
  | _ => none }
def UtfBackWrongFalsely : Prop := utfBackRow.holds Tryd.pinned (OpenSpec.ofChange utfBackWrong)

/-- 'wicketlaw2.UtfParts': WHATEVER THE INPUT: true; the input reads as it did. -/
def utfPartsSpec : ChangeSpec := { name := "utfParts", fn := fun _ => fun
  | [d1, d2] => { results := [.lit (.bool true)], args := [d1, d2] }
  | _ => none }
def utfPartsRow : OpenClaim := { program := "ytjnpfpaigedpbaadoor", sum := "a8814d158435da745a85535cb5f4dbfcf1b3c508c60ca71016fcfef36213ca13", func := "wicket/wicketlaw2.UtfParts", spec := "utfParts", unfollowed := true, recurses := true, named := ["wicket/api.ErrEnd", "wicket/api.ErrUTF", "wicket/utf.lengths"], apart := false, laid := [("wicket/api.ErrUTF", laid_wicket_api_ErrUTF), ("wicket/api.ErrEnd", laid_wicket_api_ErrEnd), ("wicket/utf.lengths", laid_wicket_utf_lengths)] }
def UtfPartsSaid : Prop := utfPartsRow.holds Tryd.pinned (OpenSpec.ofChange utfPartsSpec)

/-- ITS FALSE NEIGHBOUR: 'it returns false'. Refute it at one input. -/
def utfPartsWrong : ChangeSpec := { name := "utfParts", fn := fun _ => fun
  | [d1, d2] => { results := [.lit (.bool false)], args := [d1, d2] }
  | _ => none }
def UtfPartsWrongFalsely : Prop := utfPartsRow.holds Tryd.pinned (OpenSpec.ofChange utfPartsWrong)

/-- 'wicketlaw2.UtfOrder': WHATEVER THE INPUT: true; the input reads as it did. -/
def utfOrderSpec : ChangeSpec := { name := "utfOrder", fn := fun _ => fun
  | [d1, d2] => { results := [.lit (.bool true)], args := [d1, d2] }
  | _ => none }
def utfOrderRow : OpenClaim := { program := "ytjnpfpaigedpbaadoor", sum := "a8814d158435da745a85535cb5f4dbfcf1b3c508c60ca71016fcfef36213ca13", func := "wicket/wicketlaw2.UtfOrder", spec := "utfOrder", unfollowed := true, recurses := true, named := ["wicket/api.ErrEnd", "wicket/api.ErrUTF", "wicket/utf.lengths"], apart := false, laid := [("wicket/api.ErrUTF", laid_wicket_api_ErrUTF), ("wicket/api.ErrEnd", laid_wicket_api_ErrEnd), ("wicket/utf.lengths", laid_wicket_utf_lengths)] }
def UtfOrderSaid : Prop := utfOrderRow.holds Tryd.pinned (OpenSpec.ofChange utfOrderSpec)

/-- ITS FALSE NEIGHBOUR: 'it returns false'. Refute it at one input. -/
def utfOrderWrong : ChangeSpec := { name := "utfOrder", fn := fun _ => fun
  | [d1, d2] => { results := [.lit (.bool false)], args := [d1, d2] }
  | _ => none }
def UtfOrderWrongFalsely : Prop := utfOrderRow.holds Tryd.pinned (OpenSpec.ofChange utfOrderWrong)

/- THE SECOND FORM. 'bulk': how many values and letters a reading holds, each counted each time it is reached (what is shared counts as often as it is met; a slice's spare places count too). A statement '..UptoSaid' is the law's where the arguments, and the package variables that the reading takes, are together of bulk at most 1048576: NARROWER than '..Said'. Prove '..Said' where nothing that the law and all that it calls make is longer than what came in: it says more and counts as full. Else prove '..UptoSaid'. A law counts once. -/
mutual
def uptoBulk {H : Type} : DataW H → Nat
  | .lit (.string bytes) => bytes.length + 1
  | .lit _ => 1
  | .nil => 1
  | .ptr d => uptoBulk d + 1
  | .slice elems spare => uptoBulkAll elems + uptoBulkAll spare + 1
  | .agg parts => uptoBulkAll parts + 1
  | .iface _ d => uptoBulk d + 1
  | .map entries => uptoBulkEntries entries + 1
  | .held _ => 1
def uptoBulkAll {H : Type} : List (DataW H) → Nat
  | [] => 0
  | d :: r => uptoBulk d + uptoBulkAll r
def uptoBulkEntries {H : Type} : List (Lit × DataW H) → Nat
  | [] => 0
  | x :: r => uptoBulkEntry x + uptoBulkEntries r
def uptoBulkEntry {H : Type} : Lit × DataW H → Nat
  | (.string bytes, d) => bytes.length + uptoBulk d + 1
  | (_, d) => uptoBulk d + 1
 end
def uptoSmall : (H : Type) → List (DataW H) → Bool := fun _ ds => decide (uptoBulkAll ds ≤ 1048576)
def OpenSpec.upto (s : _root_.Go.ChangeSpec) : _root_.Go.OpenSpec := { _root_.Go.OpenSpec.ofChange s with cond := some uptoSmall }

/-- 'wicketlaw2.UtfClass', WHERE WHAT IT READS IS OF BULK AT MOST 1048576: true; the input reads as it did. -/
def utfClassUptoRow : OpenClaim := { program := "ytjnpfpaigedpbaadoor", sum := "a8814d158435da745a85535cb5f4dbfcf1b3c508c60ca71016fcfef36213ca13", func := "wicket/wicketlaw2.UtfClass", spec := "utfClass", unfollowed := true, recurses := true, named := ["wicket/api.ErrEnd", "wicket/api.ErrUTF", "wicket/utf.lengths"], apart := false, laid := [("wicket/api.ErrUTF", laid_wicket_api_ErrUTF), ("wicket/api.ErrEnd", laid_wicket_api_ErrEnd), ("wicket/utf.lengths", laid_wicket_utf_lengths)], narrowed := true }
def UtfClassUptoSaid : Prop := utfClassUptoRow.holds Tryd.pinned (OpenSpec.upto utfClassSpec)

/-- 'wicketlaw2.UtfEach', WHERE WHAT IT READS IS OF BULK AT MOST 1048576: true; the input reads as it did. -/
def utfEachUptoRow : OpenClaim := { program := "ytjnpfpaigedpbaadoor", sum := "a8814d158435da745a85535cb5f4dbfcf1b3c508c60ca71016fcfef36213ca13", func := "wicket/wicketlaw2.UtfEach", spec := "utfEach", unfollowed := true, recurses := true, named := ["wicket/api.ErrEnd", "wicket/api.ErrUTF", "wicket/utf.lengths"], apart := false, laid := [("wicket/api.ErrUTF", laid_wicket_api_ErrUTF), ("wicket/api.ErrEnd", laid_wicket_api_ErrEnd), ("wicket/utf.lengths", laid_wicket_utf_lengths)], narrowed := true }
def UtfEachUptoSaid : Prop := utfEachUptoRow.holds Tryd.pinned (OpenSpec.upto utfEachSpec)

/-- 'wicketlaw2.UtfAppends', WHERE WHAT IT READS IS OF BULK AT MOST 1048576: true; the input reads as it did. -/
def utfAppendsUptoRow : OpenClaim := { program := "ytjnpfpaigedpbaadoor", sum := "a8814d158435da745a85535cb5f4dbfcf1b3c508c60ca71016fcfef36213ca13", func := "wicket/wicketlaw2.UtfAppends", spec := "utfAppends", unfollowed := true, recurses := true, named := ["wicket/api.ErrUTF", "wicket/api.ErrEnd", "wicket/utf.lengths"], apart := false, laid := [("wicket/api.ErrUTF", laid_wicket_api_ErrUTF), ("wicket/api.ErrEnd", laid_wicket_api_ErrEnd), ("wicket/utf.lengths", laid_wicket_utf_lengths)], narrowed := true }
def UtfAppendsUptoSaid : Prop := utfAppendsUptoRow.holds Tryd.pinned (OpenSpec.upto utfAppendsSpec)

/-- 'wicketlaw2.UtfBack', WHERE WHAT IT READS IS OF BULK AT MOST 1048576: true; the input reads as it did. -/
def utfBackUptoRow : OpenClaim := { program := "ytjnpfpaigedpbaadoor", sum := "a8814d158435da745a85535cb5f4dbfcf1b3c508c60ca71016fcfef36213ca13", func := "wicket/wicketlaw2.UtfBack", spec := "utfBack", unfollowed := true, recurses := true, named := ["wicket/api.ErrEnd", "wicket/api.ErrUTF", "wicket/utf.lengths"], apart := false, laid := [("wicket/api.ErrUTF", laid_wicket_api_ErrUTF), ("wicket/api.ErrEnd", laid_wicket_api_ErrEnd), ("wicket/utf.lengths", laid_wicket_utf_lengths)], narrowed := true }
def UtfBackUptoSaid : Prop := utfBackUptoRow.holds Tryd.pinned (OpenSpec.upto utfBackSpec)

/-- 'wicketlaw2.UtfParts', WHERE WHAT IT READS IS OF BULK AT MOST 1048576: true; the input reads as it did. -/
def utfPartsUptoRow : OpenClaim := { program := "ytjnpfpaigedpbaadoor", sum := "a8814d158435da745a85535cb5f4dbfcf1b3c508c60ca71016fcfef36213ca13", func := "wicket/wicketlaw2.UtfParts", spec := "utfParts", unfollowed := true, recurses := true, named := ["wicket/api.ErrEnd", "wicket/api.ErrUTF", "wicket/utf.lengths"], apart := false, laid := [("wicket/api.ErrUTF", laid_wicket_api_ErrUTF), ("wicket/api.ErrEnd", laid_wicket_api_ErrEnd), ("wicket/utf.lengths", laid_wicket_utf_lengths)], narrowed := true }
def UtfPartsUptoSaid : Prop := utfPartsUptoRow.holds Tryd.pinned (OpenSpec.upto utfPartsSpec)

/-- 'wicketlaw2.UtfOrder', WHERE WHAT IT READS IS OF BULK AT MOST 1048576: true; the input reads as it did. -/
def utfOrderUptoRow : OpenClaim := { program := "ytjnpfpaigedpbaadoor", sum := "a8814d158435da745a85535cb5f4dbfcf1b3c508c60ca71016fcfef36213ca13", func := "wicket/wicketlaw2.UtfOrder", spec := "utfOrder", unfollowed := true, recurses := true, named := ["wicket/api.ErrEnd", "wicket/api.ErrUTF", "wicket/utf.lengths"], apart := false, laid := [("wicket/api.ErrUTF", laid_wicket_api_ErrUTF), ("wicket/api.ErrEnd", laid_wicket_api_ErrEnd), ("wicket/utf.lengths", laid_wicket_utf_lengths)], narrowed := true }
def UtfOrderUptoSaid : Prop := utfOrderUptoRow.holds Tryd.pinned (OpenSpec.upto utfOrderSpec)

end Rows
end Go.Proofs.YtjnpfpaigedpbaaDoor
