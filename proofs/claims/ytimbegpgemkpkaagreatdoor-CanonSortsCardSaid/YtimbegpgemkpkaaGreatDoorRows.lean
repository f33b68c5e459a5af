/-
  NARROWER THAN 'FOR EVERY INPUT', by the rows' own cells (each row's printed sentence says how): CanonSorts: laid.
  DERIVED. THE GIVEN ROWS OF THIS SEAT. 1 by the template 'for every input the law returns true; each argument reads behind the call as it read before'; 0 by the template 'total and deterministic' (their statements: YtimbegpgemkpkaaGreatDoorTotals.lean).
  GIVEN WITH THE SEED: the statements are not yours to turn. If you find one false, say at which input.
  Laid BY PROGRAM, IN A SANDBOX (cutbox-rows.mjs): the forced cells as the released guide's own fill.sh prints them over the translation 40181684b7f330b0… (all of the seat's roots in one cut). By AI agents, Wed Nov 11 2026. No macro, syntax, notation, axiom, sorry.
-/
import Derived.Test.YtimbegpgemkpkaaGreatDoorChecked
import GoSem.PinnedTables
import GoSem.Claim
import GoSem.ClaimJoined
import GoSem.ClaimMapViews
import Derived.JoinedTies
import Derived.KernelRfl
namespace Go.Proofs.YtimbegpgemkpkaaGreatDoor
/- THE CELL 'sum', in the pinned program and in every row, IS THE sha256 OF THE DUMP (.gsa) THAT YtimbegpgemkpkaaGreatDoorProg.lean LOADS. Nothing in Lean hashes anything: it is a label: what it is worth is what the hold of that sum in a sandbox is worth. -/
noncomputable def Tryz.pinned : Pinned := { name := "ytimbegpgemkpkaagreatdoor", sum := "40181684b7f330b0bc3aa9db991e8dc7973e1fd8980d947098058341ce92ebb5", checked := Tryz.checked }
namespace Rows
def none {H : Type} : Left H := { results := [], args := [] }

/- WHAT THE LISTED PACKAGE-LEVEL VARIABLES READ AS WHEN THE CALL BEGINS. Each datum BY PROGRAM (the guide's laid-datum.mjs) off the statement by which the dump's own 'gosem.cut.vars' lays the variable. In a bare row this is a premise. The card (YtimbegpgemkpkaaGreatDoorCards.lean) ties it to the program's text. -/
def laid_math_bits_deBruijn32tab {H : Type} : DataW H := .agg [.lit (.int .u8 0), .lit (.int .u8 1), .lit (.int .u8 28), .lit (.int .u8 2), .lit (.int .u8 29), .lit (.int .u8 14), .lit (.int .u8 24), .lit (.int .u8 3), .lit (.int .u8 30), .lit (.int .u8 22), .lit (.int .u8 20), .lit (.int .u8 15), .lit (.int .u8 25), .lit (.int .u8 17), .lit (.int .u8 4), .lit (.int .u8 8), .lit (.int .u8 31), .lit (.int .u8 27), .lit (.int .u8 13), .lit (.int .u8 23), .lit (.int .u8 21), .lit (.int .u8 19), .lit (.int .u8 16), .lit (.int .u8 7), .lit (.int .u8 26), .lit (.int .u8 12), .lit (.int .u8 18), .lit (.int .u8 6), .lit (.int .u8 11), .lit (.int .u8 5), .lit (.int .u8 10), .lit (.int .u8 9)]
def laid_math_bits_deBruijn64tab {H : Type} : DataW H := .agg [.lit (.int .u8 0), .lit (.int .u8 1), .lit (.int .u8 56), .lit (.int .u8 2), .lit (.int .u8 57), .lit (.int .u8 49), .lit (.int .u8 28), .lit (.int .u8 3), .lit (.int .u8 61), .lit (.int .u8 58), .lit (.int .u8 42), .lit (.int .u8 50), .lit (.int .u8 38), .lit (.int .u8 29), .lit (.int .u8 17), .lit (.int .u8 4), .lit (.int .u8 62), .lit (.int .u8 47), .lit (.int .u8 59), .lit (.int .u8 36), .lit (.int .u8 45), .lit (.int .u8 43), .lit (.int .u8 51), .lit (.int .u8 22), .lit (.int .u8 53), .lit (.int .u8 39), .lit (.int .u8 33), .lit (.int .u8 30), .lit (.int .u8 24), .lit (.int .u8 18), .lit (.int .u8 12), .lit (.int .u8 5), .lit (.int .u8 63), .lit (.int .u8 55), .lit (.int .u8 48), .lit (.int .u8 27), .lit (.int .u8 60), .lit (.int .u8 41), .lit (.int .u8 37), .lit (.int .u8 16), .lit (.int .u8 46), .lit (.int .u8 35), .lit (.int .u8 44), .lit (.int .u8 21), .lit (.int .u8 52), .lit (.int .u8 32), .lit (.int .u8 23), .lit (.int .u8 11), .lit (.int .u8 54), .lit (.int .u8 26), .lit (.int .u8 40), .lit (.int .u8 15), .lit (.int .u8 34), .lit (.int .u8 20), .lit (.int .u8 31), .lit (.int .u8 10), .lit (.int .u8 25), .lit (.int .u8 14), .lit (.int .u8 19), .lit (.int .u8 9), .lit (.int .u8 13), .lit (.int .u8 8), .lit (.int .u8 7), .lit (.int .u8 6)]
def laid_internal_strconv_uint64pow10 {H : Type} : DataW H := .agg [.lit (.int .u64 1), .lit (.int .u64 10), .lit (.int .u64 100), .lit (.int .u64 1000), .lit (.int .u64 10000), .lit (.int .u64 100000), .lit (.int .u64 1000000), .lit (.int .u64 10000000), .lit (.int .u64 100000000), .lit (.int .u64 1000000000), .lit (.int .u64 10000000000), .lit (.int .u64 100000000000), .lit (.int .u64 1000000000000), .lit (.int .u64 10000000000000), .lit (.int .u64 100000000000000), .lit (.int .u64 1000000000000000), .lit (.int .u64 10000000000000000), .lit (.int .u64 100000000000000000), .lit (.int .u64 1000000000000000000), .lit (.int .u64 10000000000000000000)]
def laid_unicode_utf8_acceptRanges {H : Type} : DataW H := .agg [.agg [.lit (.int .u8 128), .lit (.int .u8 191)], .agg [.lit (.int .u8 160), .lit (.int .u8 191)], .agg [.lit (.int .u8 128), .lit (.int .u8 159)], .agg [.lit (.int .u8 144), .lit (.int .u8 191)], .agg [.lit (.int .u8 128), .lit (.int .u8 143)], .agg [.lit (.int .u8 0), .lit (.int .u8 0)], .agg [.lit (.int .u8 0), .lit (.int .u8 0)], .agg [.lit (.int .u8 0), .lit (.int .u8 0)], .agg [.lit (.int .u8 0), .lit (.int .u8 0)], .agg [.lit (.int .u8 0), .lit (.int .u8 0)], .agg [.lit (.int .u8 0), .lit (.int .u8 0)], .agg [.lit (.int .u8 0), .lit (.int .u8 0)], .agg [.lit (.int .u8 0), .lit (.int .u8 0)], .agg [.lit (.int .u8 0), .lit (.int .u8 0)], .agg [.lit (.int .u8 0), .lit (.int .u8 0)], .agg [.lit (.int .u8 0), .lit (.int .u8 0)]]
def laid_strconv_ErrRange {H : Type} : DataW H := .iface "*errors.errorString" (.ptr (.agg [.lit (.string [118, 97, 108, 117, 101, 32, 111, 117, 116, 32, 111, 102, 32, 114, 97, 110, 103, 101])]))
def laid_strconv_ErrSyntax {H : Type} : DataW H := .iface "*errors.errorString" (.ptr (.agg [.lit (.string [105, 110, 118, 97, 108, 105, 100, 32, 115, 121, 110, 116, 97, 120])]))
def laid_wicket_api_ErrUTF {H : Type} : DataW H := .iface "*errors.errorString" (.ptr (.agg [.lit (.string [98, 121, 116, 101, 115, 32, 116, 104, 97, 116, 32, 97, 114, 101, 32, 110, 111, 32, 85, 84, 70, 45, 56])]))
def laid_wicket_api_ErrQuote {H : Type} : DataW H := .iface "*errors.errorString" (.ptr (.agg [.lit (.string [110, 111, 32, 115, 116, 114, 105, 110, 103, 32, 98, 101, 103, 105, 110, 115, 32, 104, 101, 114, 101])]))
def laid_wicket_api_ErrEnd {H : Type} : DataW H := .iface "*errors.errorString" (.ptr (.agg [.lit (.string [116, 104, 101, 32, 116, 101, 120, 116, 32, 101, 110, 100, 115, 32, 116, 111, 111, 32, 101, 97, 114, 108, 121])]))
def laid_wicket_api_ErrControl {H : Type} : DataW H := .iface "*errors.errorString" (.ptr (.agg [.lit (.string [97, 32, 99, 111, 110, 116, 114, 111, 108, 32, 99, 104, 97, 114, 97, 99, 116, 101, 114, 32, 105, 110, 32, 97, 32, 115, 116, 114, 105, 110, 103])]))
def laid_wicket_api_ErrEscape {H : Type} : DataW H := .iface "*errors.errorString" (.ptr (.agg [.lit (.string [110, 111, 32, 115, 117, 99, 104, 32, 101, 115, 99, 97, 112, 101])]))
def laid_wicket_api_ErrSurrogate {H : Type} : DataW H := .iface "*errors.errorString" (.ptr (.agg [.lit (.string [104, 97, 108, 102, 32, 111, 102, 32, 97, 32, 115, 117, 114, 114, 111, 103, 97, 116, 101, 32, 112, 97, 105, 114])]))
def laid_wicket_api_ErrNumber {H : Type} : DataW H := .iface "*errors.errorString" (.ptr (.agg [.lit (.string [110, 111, 32, 110, 117, 109, 98, 101, 114])]))
def laid_wicket_api_ErrExponent {H : Type} : DataW H := .iface "*errors.errorString" (.ptr (.agg [.lit (.string [97, 110, 32, 101, 120, 112, 111, 110, 101, 110, 116, 32, 116, 104, 97, 116, 32, 105, 115, 32, 116, 111, 111, 32, 103, 114, 101, 97, 116])]))
def laid_wicket_api_ErrToken {H : Type} : DataW H := .iface "*errors.errorString" (.ptr (.agg [.lit (.string [110, 111, 32, 116, 111, 107, 101, 110])]))
def laid_wicket_api_ErrSyntax {H : Type} : DataW H := .iface "*errors.errorString" (.ptr (.agg [.lit (.string [97, 32, 116, 111, 107, 101, 110, 32, 116, 104, 97, 116, 32, 100, 111, 101, 115, 32, 110, 111, 116, 32, 115, 116, 97, 110, 100, 32, 104, 101, 114, 101])]))
def laid_wicket_api_ErrTwice {H : Type} : DataW H := .iface "*errors.errorString" (.ptr (.agg [.lit (.string [97, 32, 110, 97, 109, 101, 32, 116, 104, 97, 116, 32, 119, 97, 115, 32, 116, 104, 101, 114, 101, 32, 97, 108, 114, 101, 97, 100, 121])]))
def laid_wicket_api_ErrNil {H : Type} : DataW H := .iface "*errors.errorString" (.ptr (.agg [.lit (.string [110, 111, 32, 118, 97, 108, 117, 101])]))
def laid_wicket_api_ErrHidden {H : Type} : DataW H := .iface "*errors.errorString" (.ptr (.agg [.lit (.string [105, 116, 32, 105, 115, 32, 104, 105, 100, 100, 101, 110])]))
def laid_wicket_api_ErrLimits {H : Type} : DataW H := .iface "*errors.errorString" (.ptr (.agg [.lit (.string [108, 105, 109, 105, 116, 115, 32, 116, 104, 97, 116, 32, 109, 97, 121, 32, 110, 111, 116, 32, 98, 101])]))
def laid_wicket_dec_goes {H : Type} : DataW H := .agg [.agg [.lit (.int .u8 1), .lit (.int .u8 9), .lit (.int .u8 2), .lit (.int .u8 3), .lit (.int .u8 9), .lit (.int .u8 9)], .agg [.lit (.int .u8 9), .lit (.int .u8 9), .lit (.int .u8 2), .lit (.int .u8 3), .lit (.int .u8 9), .lit (.int .u8 9)], .agg [.lit (.int .u8 9), .lit (.int .u8 9), .lit (.int .u8 9), .lit (.int .u8 9), .lit (.int .u8 4), .lit (.int .u8 6)], .agg [.lit (.int .u8 9), .lit (.int .u8 9), .lit (.int .u8 3), .lit (.int .u8 3), .lit (.int .u8 4), .lit (.int .u8 6)], .agg [.lit (.int .u8 9), .lit (.int .u8 9), .lit (.int .u8 5), .lit (.int .u8 5), .lit (.int .u8 9), .lit (.int .u8 9)], .agg [.lit (.int .u8 9), .lit (.int .u8 9), .lit (.int .u8 5), .lit (.int .u8 5), .lit (.int .u8 9), .lit (.int .u8 6)], .agg [.lit (.int .u8 7), .lit (.int .u8 7), .lit (.int .u8 8), .lit (.int .u8 8), .lit (.int .u8 9), .lit (.int .u8 9)], .agg [.lit (.int .u8 9), .lit (.int .u8 9), .lit (.int .u8 8), .lit (.int .u8 8), .lit (.int .u8 9), .lit (.int .u8 9)], .agg [.lit (.int .u8 9), .lit (.int .u8 9), .lit (.int .u8 8), .lit (.int .u8 8), .lit (.int .u8 9), .lit (.int .u8 9)]]
def laid_wicket_utf_lengths {H : Type} : DataW H := .agg [.lit (.int .i8 1), .lit (.int .i8 1), .lit (.int .i8 1), .lit (.int .i8 1), .lit (.int .i8 1), .lit (.int .i8 1), .lit (.int .i8 1), .lit (.int .i8 1), .lit (.int .i8 0), .lit (.int .i8 0), .lit (.int .i8 0), .lit (.int .i8 0), .lit (.int .i8 2), .lit (.int .i8 2), .lit (.int .i8 3), .lit (.int .i8 4)]
def laid_wicket_lex_begins {H : Type} : DataW H := .agg [.lit (.string [49, 45, 53, 45, 45, 45, 45, 45, 45, 45, 45, 45, 50, 52, 45, 45]), .lit (.string [52, 52, 52, 52, 52, 52, 52, 52, 52, 52, 50, 45, 45, 45, 45, 45]), .lit (.string [45, 51, 51, 51, 51, 51, 51, 51, 51, 51, 51, 51, 51, 51, 51, 51]), .lit (.string [51, 51, 51, 51, 51, 51, 51, 51, 51, 51, 51, 50, 45, 50, 45, 45]), .lit (.string [45, 51, 51, 51, 51, 51, 51, 51, 51, 51, 51, 51, 51, 51, 51, 51]), .lit (.string [51, 51, 51, 51, 51, 51, 51, 51, 51, 51, 51, 50, 45, 50, 45, 45])]
def laid_wicket_parse_may {H : Type} : DataW H := .agg [.lit (.string [91, 123]), .lit (.string [91, 123, 93]), .lit (.string []), .lit (.string [125]), .lit (.string [58]), .lit (.string [44, 93]), .lit (.string [44, 125]), .lit (.string [])]
/-- One of Go's own tables, pinned by name: the form's constant. -/
def laid_unicode_utf8_first : DataW Unit := Go.Pinned.utf8First

/-- 'wicketlaw8.CanonSorts': WHATEVER THE INPUT: true; the input reads as it did. -/
def canonSortsSpec : ChangeSpec := { name := "canonSorts", fn := fun _ => fun
  | [d] => { results := [.lit (.bool true)], args := [d] }
  | _ => none }
def canonSortsRow : OpenClaim := { program := "ytimbegpgemkpkaagreatdoor", sum := "40181684b7f330b0bc3aa9db991e8dc7973e1fd8980d947098058341ce92ebb5", func := "wicket/wicketlaw8.CanonSorts", spec := "canonSorts", inPlace := ["internal/bytealg.IndexByteString", "internal/bytealg.IndexString"], unfollowed := true, recurses := true, named := ["wicket/api.ErrNil", "wicket/api.ErrHidden", "wicket/api.ErrTwice", "wicket/api.ErrSyntax", "wicket/api.ErrLimits", "wicket/api.ErrEnd", "wicket/lex.begins", "wicket/api.ErrToken", "wicket/api.ErrQuote", "wicket/api.ErrControl", "wicket/api.ErrEscape", "wicket/api.ErrSurrogate", "wicket/api.ErrUTF", "wicket/utf.lengths", "wicket/api.ErrNumber", "wicket/api.ErrExponent", "wicket/dec.goes", "unicode/utf8.first", "unicode/utf8.acceptRanges", "strconv.ErrSyntax", "strconv.ErrRange", "internal/strconv.uint64pow10", "math/bits.deBruijn32tab", "math/bits.deBruijn64tab", "wicket/parse.may", "internal/bytealg.MaxLen"], apart := false, laid := [("math/bits.deBruijn32tab", laid_math_bits_deBruijn32tab), ("math/bits.deBruijn64tab", laid_math_bits_deBruijn64tab), ("internal/strconv.uint64pow10", laid_internal_strconv_uint64pow10), ("unicode/utf8.acceptRanges", laid_unicode_utf8_acceptRanges), ("strconv.ErrRange", laid_strconv_ErrRange), ("strconv.ErrSyntax", laid_strconv_ErrSyntax), ("wicket/api.ErrUTF", laid_wicket_api_ErrUTF), ("wicket/api.ErrQuote", laid_wicket_api_ErrQuote), ("wicket/api.ErrEnd", laid_wicket_api_ErrEnd), ("wicket/api.ErrControl", laid_wicket_api_ErrControl), ("wicket/api.ErrEscape", laid_wicket_api_ErrEscape), ("wicket/api.ErrSurrogate", laid_wicket_api_ErrSurrogate), ("wicket/api.ErrNumber", laid_wicket_api_ErrNumber), ("wicket/api.ErrExponent", laid_wicket_api_ErrExponent), ("wicket/api.ErrToken", laid_wicket_api_ErrToken), ("wicket/api.ErrSyntax", laid_wicket_api_ErrSyntax), ("wicket/api.ErrTwice", laid_wicket_api_ErrTwice), ("wicket/api.ErrNil", laid_wicket_api_ErrNil), ("wicket/api.ErrHidden", laid_wicket_api_ErrHidden), ("wicket/api.ErrLimits", laid_wicket_api_ErrLimits), ("wicket/dec.goes", laid_wicket_dec_goes), ("wicket/utf.lengths", laid_wicket_utf_lengths), ("wicket/lex.begins", laid_wicket_lex_begins), ("wicket/parse.may", laid_wicket_parse_may), ("unicode/utf8.first", laid_unicode_utf8_first)] }
def CanonSortsSaid : Prop := canonSortsRow.holds Tryz.pinned (OpenSpec.ofChange canonSortsSpec)

/-- ITS FALSE NEIGHBOUR: 'it returns false'. Refute it at one input. -/
def canonSortsWrong : ChangeSpec := { name := "canonSorts", fn := fun _ => fun
  | [d] => { results := [.lit (.bool false)], args := [d] }
  | _ => none }
def CanonSortsWrongFalsely : Prop := canonSortsRow.holds Tryz.pinned (OpenSpec.ofChange canonSortsWrong)

/- THE SECOND FORM. 'bulk': how many values and letters a reading holds, each counted each time it is reached (what is shared counts as often as it is met; a slice's spare places count too). A statement '..UptoSaid' is the law's where the arguments, and the package variables that the reading takes, are together of bulk at most 1048576: NARROWER than '..Said'. Prove '..Said' where nothing that the law and all that it calls make is longer than what came in: it says more and counts as full. Else prove '..UptoSaid'. A law counts once. -/
mutual
def uptoBulk {H : Type} : DataW H → Nat
  | .lit (.string bytes) => bytes.length + 1
  | .lit _ => 1
  | .nil => 1
  | .ptr d => uptoBulk d + 1
  | .slice elems spare => uptoBulkAll elems + uptoBulkAll spare + 1
  | .agg parts => uptoBulkAll parts + 1
  | .iface _ d => uptoBulk d + 1
  | .map entries => uptoBulkEntries entries + 1
  | .held _ => 1
def uptoBulkAll {H : Type} : List (DataW H) → Nat
  | [] => 0
  | d :: r => uptoBulk d + uptoBulkAll r
def uptoBulkEntries {H : Type} : List (Lit × DataW H) → Nat
  | [] => 0
  | x :: r => uptoBulkEntry x + uptoBulkEntries r
def uptoBulkEntry {H : Type} : Lit × DataW H → Nat
  | (.string bytes, d) => bytes.length + uptoBulk d + 1
  | (_, d) => uptoBulk d + 1
 end
def uptoSmall : (H : Type) → List (DataW H) → Bool := fun _ ds => decide (uptoBulkAll ds ≤ 1048576)
def OpenSpec.upto (s : _root_.Go.ChangeSpec) : _root_.Go.OpenSpec := { _root_.Go.OpenSpec.ofChange s with cond := some uptoSmall }

/-- 'wicketlaw8.CanonSorts', WHERE WHAT IT READS IS OF BULK AT MOST 1048576: true; the input reads as it did. -/
def canonSortsUptoRow : OpenClaim := { program := "ytimbegpgemkpkaagreatdoor", sum := "40181684b7f330b0bc3aa9db991e8dc7973e1fd8980d947098058341ce92ebb5", func := "wicket/wicketlaw8.CanonSorts", spec := "canonSorts", inPlace := ["internal/bytealg.IndexByteString", "internal/bytealg.IndexString"], unfollowed := true, recurses := true, named := ["wicket/api.ErrNil", "wicket/api.ErrHidden", "wicket/api.ErrTwice", "wicket/api.ErrSyntax", "wicket/api.ErrLimits", "wicket/api.ErrEnd", "wicket/lex.begins", "wicket/api.ErrToken", "wicket/api.ErrQuote", "wicket/api.ErrControl", "wicket/api.ErrEscape", "wicket/api.ErrSurrogate", "wicket/api.ErrUTF", "wicket/utf.lengths", "wicket/api.ErrNumber", "wicket/api.ErrExponent", "wicket/dec.goes", "unicode/utf8.first", "unicode/utf8.acceptRanges", "strconv.ErrSyntax", "strconv.ErrRange", "internal/strconv.uint64pow10", "math/bits.deBruijn32tab", "math/bits.deBruijn64tab", "wicket/parse.may", "internal/bytealg.MaxLen"], apart := false, laid := [("math/bits.deBruijn32tab", laid_math_bits_deBruijn32tab), ("math/bits.deBruijn64tab", laid_math_bits_deBruijn64tab), ("internal/strconv.uint64pow10", laid_internal_strconv_uint64pow10), ("unicode/utf8.acceptRanges", laid_unicode_utf8_acceptRanges), ("strconv.ErrRange", laid_strconv_ErrRange), ("strconv.ErrSyntax", laid_strconv_ErrSyntax), ("wicket/api.ErrUTF", laid_wicket_api_ErrUTF), ("wicket/api.ErrQuote", laid_wicket_api_ErrQuote), ("wicket/api.ErrEnd", laid_wicket_api_ErrEnd), ("wicket/api.ErrControl", laid_wicket_api_ErrControl), ("wicket/api.ErrEscape", laid_wicket_api_ErrEscape), ("wicket/api.ErrSurrogate", laid_wicket_api_ErrSurrogate), ("wicket/api.ErrNumber", laid_wicket_api_ErrNumber), ("wicket/api.ErrExponent", laid_wicket_api_ErrExponent), ("wicket/api.ErrToken", laid_wicket_api_ErrToken), ("wicket/api.ErrSyntax", laid_wicket_api_ErrSyntax), ("wicket/api.ErrTwice", laid_wicket_api_ErrTwice), ("wicket/api.ErrNil", laid_wicket_api_ErrNil), ("wicket/api.ErrHidden", laid_wicket_api_ErrHidden), ("wicket/api.ErrLimits", laid_wicket_api_ErrLimits), ("wicket/dec.goes", laid_wicket_dec_goes), ("wicket/utf.lengths", laid_wicket_utf_lengths), ("wicket/lex.begins", laid_wicket_lex_begins), ("wicket/parse.may", laid_wicket_parse_may), ("unicode/utf8.first", laid_unicode_utf8_first)], narrowed := true }
def CanonSortsUptoSaid : Prop := canonSortsUptoRow.holds Tryz.pinned (OpenSpec.upto canonSortsSpec)

end Rows
end Go.Proofs.YtimbegpgemkpkaaGreatDoor
