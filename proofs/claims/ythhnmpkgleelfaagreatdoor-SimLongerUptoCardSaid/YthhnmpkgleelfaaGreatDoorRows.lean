/-
  NARROWER THAN 'FOR EVERY INPUT', by the rows' own cells (each row's printed sentence says how): SimEnds: laid · SimRuns: laid · SimStrings: laid · SimParts: laid · SimLonger: laid · SimOwn: laid · SimCounts: laid.
  DERIVED. THE GIVEN ROWS OF THIS SEAT. 7 by the template 'for every input the law returns true; each argument reads behind the call as it read before'; 0 by the template 'total and deterministic' (their statements: YthhnmpkgleelfaaGreatDoorTotals.lean).
  GIVEN WITH THE SEED: the statements are not yours to turn. If you find one false, say at which input.
  Laid BY PROGRAM, IN A SANDBOX (cutbox-rows.mjs): the forced cells as the released guide's own fill.sh prints them over the translation 38e3993582e7adf8… (all of the seat's roots in one cut). By AI agents, Wed Nov 11 2026. No macro, syntax, notation, axiom, sorry.
-/
import Derived.Test.YthhnmpkgleelfaaGreatDoorChecked
import GoSem.PinnedTables
import GoSem.Claim
import GoSem.ClaimJoined
import GoSem.ClaimMapViews
import Derived.JoinedTies
import Derived.KernelRfl
namespace Go.Proofs.YthhnmpkgleelfaaGreatDoor
/- THE CELL 'sum', in the pinned program and in every row, IS THE sha256 OF THE DUMP (.gsa) THAT YthhnmpkgleelfaaGreatDoorProg.lean LOADS. Nothing in Lean hashes anything: it is a label: what it is worth is what the hold of that sum in a sandbox is worth. -/
noncomputable def Tryz.pinned : Pinned := { name := "ythhnmpkgleelfaagreatdoor", sum := "38e3993582e7adf84e49c3a6ec06d0cc04cc4a33064254807087afa9394b66a9", checked := Tryz.checked }
namespace Rows
def none {H : Type} : Left H := { results := [], args := [] }

/- WHAT THE LISTED PACKAGE-LEVEL VARIABLES READ AS WHEN THE CALL BEGINS. Each datum BY PROGRAM (the guide's laid-datum.mjs) off the statement by which the dump's own 'gosem.cut.vars' lays the variable. In a bare row this is a premise. The card (YthhnmpkgleelfaaGreatDoorCards.lean) ties it to the program's text. -/
def laid_math_bits_deBruijn32tab {H : Type} : DataW H := .agg [.lit (.int .u8 0), .lit (.int .u8 1), .lit (.int .u8 28), .lit (.int .u8 2), .lit (.int .u8 29), .lit (.int .u8 14), .lit (.int .u8 24), .lit (.int .u8 3), .lit (.int .u8 30), .lit (.int .u8 22), .lit (.int .u8 20), .lit (.int .u8 15), .lit (.int .u8 25), .lit (.int .u8 17), .lit (.int .u8 4), .lit (.int .u8 8), .lit (.int .u8 31), .lit (.int .u8 27), .lit (.int .u8 13), .lit (.int .u8 23), .lit (.int .u8 21), .lit (.int .u8 19), .lit (.int .u8 16), .lit (.int .u8 7), .lit (.int .u8 26), .lit (.int .u8 12), .lit (.int .u8 18), .lit (.int .u8 6), .lit (.int .u8 11), .lit (.int .u8 5), .lit (.int .u8 10), .lit (.int .u8 9)]
def laid_math_bits_deBruijn64tab {H : Type} : DataW H := .agg [.lit (.int .u8 0), .lit (.int .u8 1), .lit (.int .u8 56), .lit (.int .u8 2), .lit (.int .u8 57), .lit (.int .u8 49), .lit (.int .u8 28), .lit (.int .u8 3), .lit (.int .u8 61), .lit (.int .u8 58), .lit (.int .u8 42), .lit (.int .u8 50), .lit (.int .u8 38), .lit (.int .u8 29), .lit (.int .u8 17), .lit (.int .u8 4), .lit (.int .u8 62), .lit (.int .u8 47), .lit (.int .u8 59), .lit (.int .u8 36), .lit (.int .u8 45), .lit (.int .u8 43), .lit (.int .u8 51), .lit (.int .u8 22), .lit (.int .u8 53), .lit (.int .u8 39), .lit (.int .u8 33), .lit (.int .u8 30), .lit (.int .u8 24), .lit (.int .u8 18), .lit (.int .u8 12), .lit (.int .u8 5), .lit (.int .u8 63), .lit (.int .u8 55), .lit (.int .u8 48), .lit (.int .u8 27), .lit (.int .u8 60), .lit (.int .u8 41), .lit (.int .u8 37), .lit (.int .u8 16), .lit (.int .u8 46), .lit (.int .u8 35), .lit (.int .u8 44), .lit (.int .u8 21), .lit (.int .u8 52), .lit (.int .u8 32), .lit (.int .u8 23), .lit (.int .u8 11), .lit (.int .u8 54), .lit (.int .u8 26), .lit (.int .u8 40), .lit (.int .u8 15), .lit (.int .u8 34), .lit (.int .u8 20), .lit (.int .u8 31), .lit (.int .u8 10), .lit (.int .u8 25), .lit (.int .u8 14), .lit (.int .u8 19), .lit (.int .u8 9), .lit (.int .u8 13), .lit (.int .u8 8), .lit (.int .u8 7), .lit (.int .u8 6)]
def laid_internal_strconv_uint64pow10 {H : Type} : DataW H := .agg [.lit (.int .u64 1), .lit (.int .u64 10), .lit (.int .u64 100), .lit (.int .u64 1000), .lit (.int .u64 10000), .lit (.int .u64 100000), .lit (.int .u64 1000000), .lit (.int .u64 10000000), .lit (.int .u64 100000000), .lit (.int .u64 1000000000), .lit (.int .u64 10000000000), .lit (.int .u64 100000000000), .lit (.int .u64 1000000000000), .lit (.int .u64 10000000000000), .lit (.int .u64 100000000000000), .lit (.int .u64 1000000000000000), .lit (.int .u64 10000000000000000), .lit (.int .u64 100000000000000000), .lit (.int .u64 1000000000000000000), .lit (.int .u64 10000000000000000000)]
def laid_unicode_utf8_acceptRanges {H : Type} : DataW H := .agg [.agg [.lit (.int .u8 128), .lit (.int .u8 191)], .agg [.lit (.int .u8 160), .lit (.int .u8 191)], .agg [.lit (.int .u8 128), .lit (.int .u8 159)], .agg [.lit (.int .u8 144), .lit (.int .u8 191)], .agg [.lit (.int .u8 128), .lit (.int .u8 143)], .agg [.lit (.int .u8 0), .lit (.int .u8 0)], .agg [.lit (.int .u8 0), .lit (.int .u8 0)], .agg [.lit (.int .u8 0), .lit (.int .u8 0)], .agg [.lit (.int .u8 0), .lit (.int .u8 0)], .agg [.lit (.int .u8 0), .lit (.int .u8 0)], .agg [.lit (.int .u8 0), .lit (.int .u8 0)], .agg [.lit (.int .u8 0), .lit (.int .u8 0)], .agg [.lit (.int .u8 0), .lit (.int .u8 0)], .agg [.lit (.int .u8 0), .lit (.int .u8 0)], .agg [.lit (.int .u8 0), .lit (.int .u8 0)], .agg [.lit (.int .u8 0), .lit (.int .u8 0)]]
def laid_wicket_api_ErrUTF {H : Type} : DataW H := .iface "*errors.errorString" (.ptr (.agg [.lit (.string [98, 121, 116, 101, 115, 32, 116, 104, 97, 116, 32, 97, 114, 101, 32, 110, 111, 32, 85, 84, 70, 45, 56])]))
def laid_wicket_api_ErrNil {H : Type} : DataW H := .iface "*errors.errorString" (.ptr (.agg [.lit (.string [110, 111, 32, 118, 97, 108, 117, 101])]))
def laid_wicket_api_ErrPattern {H : Type} : DataW H := .iface "*errors.errorString" (.ptr (.agg [.lit (.string [110, 111, 32, 114, 101, 103, 117, 108, 97, 114, 32, 101, 120, 112, 114, 101, 115, 115, 105, 111, 110])]))
def laid_wicket_api_ErrRepeat {H : Type} : DataW H := .iface "*errors.errorString" (.ptr (.agg [.lit (.string [97, 32, 114, 101, 112, 101, 97, 116, 32, 116, 104, 97, 116, 32, 109, 97, 121, 32, 110, 111, 116, 32, 98, 101])]))
def laid_wicket_api_ErrRange {H : Type} : DataW H := .iface "*errors.errorString" (.ptr (.agg [.lit (.string [97, 32, 114, 97, 110, 103, 101, 32, 116, 104, 97, 116, 32, 102, 97, 108, 108, 115])]))
/-- One of Go's own tables, pinned by name: the form's constant. -/
def laid_unicode_utf8_first : DataW Unit := Go.Pinned.utf8First

/-- 'wicketlaw12.SimEnds': WHATEVER THE INPUT: true; the input reads as it did. -/
def simEndsSpec : ChangeSpec := { name := "simEnds", fn := fun _ => fun
  | [d1, d2] => { results := [.lit (.bool true)], args := [d1, d2] }
  | _ => none }
def simEndsRow : OpenClaim := { program := "ythhnmpkgleelfaagreatdoor", sum := "38e3993582e7adf84e49c3a6ec06d0cc04cc4a33064254807087afa9394b66a9", func := "wicket/wicketlaw12.SimEnds", spec := "simEnds", inPlace := ["internal/abi.NoEscape", "internal/bytealg.IndexByteString", "internal/bytealg.IndexString"], unfollowed := true, recurses := true, named := ["wicket/api.ErrPattern", "wicket/api.ErrUTF", "unicode/utf8.first", "unicode/utf8.acceptRanges", "wicket/api.ErrRange", "wicket/api.ErrRepeat", "wicket/api.ErrNil", "internal/strconv.uint64pow10", "math/bits.deBruijn32tab", "math/bits.deBruijn64tab", "internal/bytealg.MaxLen"], apart := false, laid := [("math/bits.deBruijn32tab", laid_math_bits_deBruijn32tab), ("math/bits.deBruijn64tab", laid_math_bits_deBruijn64tab), ("internal/strconv.uint64pow10", laid_internal_strconv_uint64pow10), ("unicode/utf8.acceptRanges", laid_unicode_utf8_acceptRanges), ("wicket/api.ErrUTF", laid_wicket_api_ErrUTF), ("wicket/api.ErrNil", laid_wicket_api_ErrNil), ("wicket/api.ErrPattern", laid_wicket_api_ErrPattern), ("wicket/api.ErrRepeat", laid_wicket_api_ErrRepeat), ("wicket/api.ErrRange", laid_wicket_api_ErrRange), ("unicode/utf8.first", laid_unicode_utf8_first)] }
def SimEndsSaid : Prop := simEndsRow.holds Tryz.pinned (OpenSpec.ofChange simEndsSpec)

/-- ITS FALSE NEIGHBOUR: 'it returns false'. Refute it at one input. -/
def simEndsWrong : ChangeSpec := { name := "simEnds", fn := fun _ => fun
  | [d1, d2] => { results := [.lit (.bool false)], args := [d1, d2] }
  | _ => none }
def SimEndsWrongFalsely : Prop := simEndsRow.holds Tryz.pinned (OpenSpec.ofChange simEndsWrong)

/-- 'wicketlaw12.SimRuns': WHATEVER THE INPUT: true; the input reads as it did. -/
def simRunsSpec : ChangeSpec := { name := "simRuns", fn := fun _ => fun
  | [d1, d2, d3] => { results := [.lit (.bool true)], args := [d1, d2, d3] }
  | _ => none }
def simRunsRow : OpenClaim := { program := "ythhnmpkgleelfaagreatdoor", sum := "38e3993582e7adf84e49c3a6ec06d0cc04cc4a33064254807087afa9394b66a9", func := "wicket/wicketlaw12.SimRuns", spec := "simRuns", inPlace := ["internal/abi.NoEscape", "internal/bytealg.IndexByteString", "internal/bytealg.IndexString"], unfollowed := true, recurses := true, named := ["wicket/api.ErrPattern", "wicket/api.ErrUTF", "unicode/utf8.first", "unicode/utf8.acceptRanges", "wicket/api.ErrRange", "wicket/api.ErrRepeat", "wicket/api.ErrNil", "internal/strconv.uint64pow10", "math/bits.deBruijn32tab", "math/bits.deBruijn64tab", "internal/bytealg.MaxLen"], apart := false, laid := [("math/bits.deBruijn32tab", laid_math_bits_deBruijn32tab), ("math/bits.deBruijn64tab", laid_math_bits_deBruijn64tab), ("internal/strconv.uint64pow10", laid_internal_strconv_uint64pow10), ("unicode/utf8.acceptRanges", laid_unicode_utf8_acceptRanges), ("wicket/api.ErrUTF", laid_wicket_api_ErrUTF), ("wicket/api.ErrNil", laid_wicket_api_ErrNil), ("wicket/api.ErrPattern", laid_wicket_api_ErrPattern), ("wicket/api.ErrRepeat", laid_wicket_api_ErrRepeat), ("wicket/api.ErrRange", laid_wicket_api_ErrRange), ("unicode/utf8.first", laid_unicode_utf8_first)] }
def SimRunsSaid : Prop := simRunsRow.holds Tryz.pinned (OpenSpec.ofChange simRunsSpec)

/-- ITS FALSE NEIGHBOUR: 'it returns false'. Refute it at one input. -/
def simRunsWrong : ChangeSpec := { name := "simRuns", fn := fun _ => fun
  | [d1, d2, d3] => { results := [.lit (.bool false)], args := [d1, d2, d3] }
  | _ => none }
def SimRunsWrongFalsely : Prop := simRunsRow.holds Tryz.pinned (OpenSpec.ofChange simRunsWrong)

/-- 'wicketlaw12.SimStrings': WHATEVER THE INPUT: true; the input reads as it did. -/
def simStringsSpec : ChangeSpec := { name := "simStrings", fn := fun _ => fun
  | [d1, d2] => { results := [.lit (.bool true)], args := [d1, d2] }
  | _ => none }
def simStringsRow : OpenClaim := { program := "ythhnmpkgleelfaagreatdoor", sum := "38e3993582e7adf84e49c3a6ec06d0cc04cc4a33064254807087afa9394b66a9", func := "wicket/wicketlaw12.SimStrings", spec := "simStrings", inPlace := ["internal/abi.NoEscape", "internal/bytealg.IndexByteString", "internal/bytealg.IndexString"], unfollowed := true, recurses := true, named := ["wicket/api.ErrPattern", "wicket/api.ErrUTF", "unicode/utf8.first", "unicode/utf8.acceptRanges", "wicket/api.ErrRange", "wicket/api.ErrRepeat", "wicket/api.ErrNil", "internal/strconv.uint64pow10", "math/bits.deBruijn32tab", "math/bits.deBruijn64tab", "internal/bytealg.MaxLen"], apart := false, laid := [("math/bits.deBruijn32tab", laid_math_bits_deBruijn32tab), ("math/bits.deBruijn64tab", laid_math_bits_deBruijn64tab), ("internal/strconv.uint64pow10", laid_internal_strconv_uint64pow10), ("unicode/utf8.acceptRanges", laid_unicode_utf8_acceptRanges), ("wicket/api.ErrUTF", laid_wicket_api_ErrUTF), ("wicket/api.ErrNil", laid_wicket_api_ErrNil), ("wicket/api.ErrPattern", laid_wicket_api_ErrPattern), ("wicket/api.ErrRepeat", laid_wicket_api_ErrRepeat), ("wicket/api.ErrRange", laid_wicket_api_ErrRange), ("unicode/utf8.first", laid_unicode_utf8_first)] }
def SimStringsSaid : Prop := simStringsRow.holds Tryz.pinned (OpenSpec.ofChange simStringsSpec)

/-- ITS FALSE NEIGHBOUR: 'it returns false'. Refute it at one input. -/
def simStringsWrong : ChangeSpec := { name := "simStrings", fn := fun _ => fun
  | [d1, d2] => { results := [.lit (.bool false)], args := [d1, d2] }
  | _ => none }
def SimStringsWrongFalsely : Prop := simStringsRow.holds Tryz.pinned (OpenSpec.ofChange simStringsWrong)

/-- 'wicketlaw12.SimParts': WHATEVER THE INPUT: true; the input reads as it did. -/
def simPartsSpec : ChangeSpec := { name := "simParts", fn := fun _ => fun
  | [d1, d2, d3] => { results := [.lit (.bool true)], args := [d1, d2, d3] }
  | _ => none }
def simPartsRow : OpenClaim := { program := "ythhnmpkgleelfaagreatdoor", sum := "38e3993582e7adf84e49c3a6ec06d0cc04cc4a33064254807087afa9394b66a9", func := "wicket/wicketlaw12.SimParts", spec := "simParts", inPlace := ["internal/abi.NoEscape", "internal/bytealg.IndexByteString", "internal/bytealg.IndexString"], unfollowed := true, recurses := true, named := ["wicket/api.ErrPattern", "wicket/api.ErrUTF", "unicode/utf8.first", "unicode/utf8.acceptRanges", "wicket/api.ErrRange", "wicket/api.ErrRepeat", "wicket/api.ErrNil", "internal/strconv.uint64pow10", "math/bits.deBruijn32tab", "math/bits.deBruijn64tab", "internal/bytealg.MaxLen"], apart := false, laid := [("math/bits.deBruijn32tab", laid_math_bits_deBruijn32tab), ("math/bits.deBruijn64tab", laid_math_bits_deBruijn64tab), ("internal/strconv.uint64pow10", laid_internal_strconv_uint64pow10), ("unicode/utf8.acceptRanges", laid_unicode_utf8_acceptRanges), ("wicket/api.ErrUTF", laid_wicket_api_ErrUTF), ("wicket/api.ErrNil", laid_wicket_api_ErrNil), ("wicket/api.ErrPattern", laid_wicket_api_ErrPattern), ("wicket/api.ErrRepeat", laid_wicket_api_ErrRepeat), ("wicket/api.ErrRange", laid_wicket_api_ErrRange), ("unicode/utf8.first", laid_unicode_utf8_first)] }
def SimPartsSaid : Prop := simPartsRow.holds Tryz.pinned (OpenSpec.ofChange simPartsSpec)

/-- ITS FALSE NEIGHBOUR: 'it returns false'. Refute it at one input. -/
def simPartsWrong : ChangeSpec := { name := "simParts", fn := fun _ => fun
  | [d1, d2, d3] => { results := [.lit (.bool false)], args := [d1, d2, d3] }
  | _ => none }
def SimPartsWrongFalsely : Prop := simPartsRow.holds Tryz.pinned (OpenSpec.ofChange simPartsWrong)

/-- 'wicketlaw12.SimLonger': WHATEVER THE INPUT: true; the input reads as it did. -/
def simLongerSpec : ChangeSpec := { name := "simLonger", fn := fun _ => fun
  | [d1, d2, d3] => { results := [.lit (.bool true)], args := [d1, d2, d3] }
  | _ => none }
def simLongerRow : OpenClaim := { program := "ythhnmpkgleelfaagreatdoor", sum := "38e3993582e7adf84e49c3a6ec06d0cc04cc4a33064254807087afa9394b66a9", func := "wicket/wicketlaw12.SimLonger", spec := "simLonger", inPlace := ["internal/abi.NoEscape", "internal/bytealg.IndexByteString", "internal/bytealg.IndexString"], unfollowed := true, recurses := true, named := ["wicket/api.ErrPattern", "wicket/api.ErrUTF", "unicode/utf8.first", "unicode/utf8.acceptRanges", "wicket/api.ErrRange", "wicket/api.ErrRepeat", "wicket/api.ErrNil", "internal/strconv.uint64pow10", "math/bits.deBruijn32tab", "math/bits.deBruijn64tab", "internal/bytealg.MaxLen"], apart := false, laid := [("math/bits.deBruijn32tab", laid_math_bits_deBruijn32tab), ("math/bits.deBruijn64tab", laid_math_bits_deBruijn64tab), ("internal/strconv.uint64pow10", laid_internal_strconv_uint64pow10), ("unicode/utf8.acceptRanges", laid_unicode_utf8_acceptRanges), ("wicket/api.ErrUTF", laid_wicket_api_ErrUTF), ("wicket/api.ErrNil", laid_wicket_api_ErrNil), ("wicket/api.ErrPattern", laid_wicket_api_ErrPattern), ("wicket/api.ErrRepeat", laid_wicket_api_ErrRepeat), ("wicket/api.ErrRange", laid_wicket_api_ErrRange), ("unicode/utf8.first", laid_unicode_utf8_first)] }
def SimLongerSaid : Prop := simLongerRow.holds Tryz.pinned (OpenSpec.ofChange simLongerSpec)

/-- ITS FALSE NEIGHBOUR: 'it returns false'. Refute it at one input. -/
def simLongerWrong : ChangeSpec := { name := "simLonger", fn := fun _ => fun
  | [d1, d2, d3] => { results := [.lit (.bool false)], args := [d1, d2, d3] }
  | _ => none }
def SimLongerWrongFalsely : Prop := simLongerRow.holds Tryz.pinned (OpenSpec.ofChange simLongerWrong)

/-- 'wicketlaw12.SimOwn': WHATEVER THE INPUT: true; the input reads as it did. -/
def simOwnSpec : ChangeSpec := { name := "simOwn", fn := fun _ => fun
  | [d1, d2, d3] => { results := [.lit (.bool true)], args := [d1, d2, d3] }
  | _ => none }
def simOwnRow : OpenClaim := { program := "ythhnmpkgleelfaagreatdoor", sum := "38e3993582e7adf84e49c3a6ec06d0cc04cc4a33064254807087afa9394b66a9", func := "wicket/wicketlaw12.SimOwn", spec := "simOwn", inPlace := ["internal/abi.NoEscape", "internal/bytealg.IndexByteString", "internal/bytealg.IndexString"], unfollowed := true, recurses := true, named := ["wicket/api.ErrPattern", "wicket/api.ErrUTF", "unicode/utf8.first", "unicode/utf8.acceptRanges", "wicket/api.ErrRange", "wicket/api.ErrRepeat", "wicket/api.ErrNil", "internal/strconv.uint64pow10", "math/bits.deBruijn32tab", "math/bits.deBruijn64tab", "internal/bytealg.MaxLen"], apart := false, laid := [("math/bits.deBruijn32tab", laid_math_bits_deBruijn32tab), ("math/bits.deBruijn64tab", laid_math_bits_deBruijn64tab), ("internal/strconv.uint64pow10", laid_internal_strconv_uint64pow10), ("unicode/utf8.acceptRanges", laid_unicode_utf8_acceptRanges), ("wicket/api.ErrUTF", laid_wicket_api_ErrUTF), ("wicket/api.ErrNil", laid_wicket_api_ErrNil), ("wicket/api.ErrPattern", laid_wicket_api_ErrPattern), ("wicket/api.ErrRepeat", laid_wicket_api_ErrRepeat), ("wicket/api.ErrRange", laid_wicket_api_ErrRange), ("unicode/utf8.first", laid_unicode_utf8_first)] }
def SimOwnSaid : Prop := simOwnRow.holds Tryz.pinned (OpenSpec.ofChange simOwnSpec)

/-- ITS FALSE NEIGHBOUR: 'it returns false'. Refute it at one input. -/
def simOwnWrong : ChangeSpec := { name := "simOwn", fn := fun _ => fun
  | [d1, d2, d3] => { results := [.lit (.bool false)], args := [d1, d2, d3] }
  | _ => none }
def SimOwnWrongFalsely : Prop := simOwnRow.holds Tryz.pinned (OpenSpec.ofChange simOwnWrong)

/-- 'wicketlaw12.SimCounts': WHATEVER THE INPUT: true; the input reads as it did. -/
def simCountsSpec : ChangeSpec := { name := "simCounts", fn := fun _ => fun
  | [d1, d2] => { results := [.lit (.bool true)], args := [d1, d2] }
  | _ => none }
def simCountsRow : OpenClaim := { program := "ythhnmpkgleelfaagreatdoor", sum := "38e3993582e7adf84e49c3a6ec06d0cc04cc4a33064254807087afa9394b66a9", func := "wicket/wicketlaw12.SimCounts", spec := "simCounts", inPlace := ["internal/abi.NoEscape", "internal/bytealg.IndexByteString", "internal/bytealg.IndexString"], unfollowed := true, recurses := true, named := ["wicket/api.ErrPattern", "wicket/api.ErrUTF", "unicode/utf8.first", "unicode/utf8.acceptRanges", "wicket/api.ErrRange", "wicket/api.ErrRepeat", "wicket/api.ErrNil", "internal/strconv.uint64pow10", "math/bits.deBruijn32tab", "math/bits.deBruijn64tab", "internal/bytealg.MaxLen"], apart := false, laid := [("math/bits.deBruijn32tab", laid_math_bits_deBruijn32tab), ("math/bits.deBruijn64tab", laid_math_bits_deBruijn64tab), ("internal/strconv.uint64pow10", laid_internal_strconv_uint64pow10), ("unicode/utf8.acceptRanges", laid_unicode_utf8_acceptRanges), ("wicket/api.ErrUTF", laid_wicket_api_ErrUTF), ("wicket/api.ErrNil", laid_wicket_api_ErrNil), ("wicket/api.ErrPattern", laid_wicket_api_ErrPattern), ("wicket/api.ErrRepeat", laid_wicket_api_ErrRepeat), ("wicket/api.ErrRange", laid_wicket_api_ErrRange), ("unicode/utf8.first", laid_unicode_utf8_first)] }
def SimCountsSaid : Prop := simCountsRow.holds Tryz.pinned (OpenSpec.ofChange simCountsSpec)

/-- ITS FALSE NEIGHBOUR: 'it returns false'. Refute it at one input. -/
def simCountsWrong : ChangeSpec := { name := "simCounts", fn := fun _ => fun
  | [d1, d2] => { results := [.lit (.bool false)], args := [d1, d2] }
  | _ => none }
def SimCountsWrongFalsely : Prop := simCountsRow.holds Tryz.pinned (OpenSpec.ofChange simCountsWrong)

/- THE SECOND FORM. 'bulk': how many values and letters a reading holds, each counted each time it is reached (what is shared counts as often as it is met; a slice's spare places count too). A statement '..UptoSaid' is the law's where the arguments, and the package variables that the reading takes, are together of bulk at most 1048576: NARROWER than '..Said'. Prove '..Said' where nothing that the law and all that it calls make is longer than what came in: it says more and counts as full. Else prove '..UptoSaid'. A law counts once. -/
mutual
def uptoBulk {H : Type} : DataW H → Nat
  | .lit (.string bytes) => bytes.length + 1
  | .lit _ => 1
  | .nil => 1
  | .ptr d => uptoBulk d + 1
  | .slice elems spare => uptoBulkAll elems + uptoBulkAll spare + 1
  | .agg parts => uptoBulkAll parts + 1
  | .iface _ d => uptoBulk d + 1
  | .map entries => uptoBulkEntries entries + 1
  | .held _ => 1
def uptoBulkAll {H : Type} : List (DataW H) → Nat
  | [] => 0
  | d :: r => uptoBulk d + uptoBulkAll r
def uptoBulkEntries {H : Type} : List (Lit × DataW H) → Nat
  | [] => 0
  | x :: r => uptoBulkEntry x + uptoBulkEntries r
def uptoBulkEntry {H : Type} : Lit × DataW H → Nat
  | (.string bytes, d) => bytes.length + uptoBulk d + 1
  | (_, d) => uptoBulk d + 1
 end
def uptoSmall : (H : Type) → List (DataW H) → Bool := fun _ ds => decide (uptoBulkAll ds ≤ 1048576)
def OpenSpec.upto (s : _root_.Go.ChangeSpec) : _root_.Go.OpenSpec := { _root_.Go.OpenSpec.ofChange s with cond := some uptoSmall }

/-- 'wicketlaw12.SimEnds', WHERE WHAT IT READS IS OF BULK AT MOST 1048576: true; the input reads as it did. -/
def simEndsUptoRow : OpenClaim := { program := "ythhnmpkgleelfaagreatdoor", sum := "38e3993582e7adf84e49c3a6ec06d0cc04cc4a33064254807087afa9394b66a9", func := "wicket/wicketlaw12.SimEnds", spec := "simEnds", inPlace := ["internal/abi.NoEscape", "internal/bytealg.IndexByteString", "internal/bytealg.IndexString"], unfollowed := true, recurses := true, named := ["wicket/api.ErrPattern", "wicket/api.ErrUTF", "unicode/utf8.first", "unicode/utf8.acceptRanges", "wicket/api.ErrRange", "wicket/api.ErrRepeat", "wicket/api.ErrNil", "internal/strconv.uint64pow10", "math/bits.deBruijn32tab", "math/bits.deBruijn64tab", "internal/bytealg.MaxLen"], apart := false, laid := [("math/bits.deBruijn32tab", laid_math_bits_deBruijn32tab), ("math/bits.deBruijn64tab", laid_math_bits_deBruijn64tab), ("internal/strconv.uint64pow10", laid_internal_strconv_uint64pow10), ("unicode/utf8.acceptRanges", laid_unicode_utf8_acceptRanges), ("wicket/api.ErrUTF", laid_wicket_api_ErrUTF), ("wicket/api.ErrNil", laid_wicket_api_ErrNil), ("wicket/api.ErrPattern", laid_wicket_api_ErrPattern), ("wicket/api.ErrRepeat", laid_wicket_api_ErrRepeat), ("wicket/api.ErrRange", laid_wicket_api_ErrRange), ("unicode/utf8.first", laid_unicode_utf8_first)], narrowed := true }
def SimEndsUptoSaid : Prop := simEndsUptoRow.holds Tryz.pinned (OpenSpec.upto simEndsSpec)

/-- 'wicketlaw12.SimRuns', WHERE WHAT IT READS IS OF BULK AT MOST 1048576: true; the input reads as it did. -/
def simRunsUptoRow : OpenClaim := { program := "ythhnmpkgleelfaagreatdoor", sum := "38e3993582e7adf84e49c3a6ec06d0cc04cc4a33064254807087afa9394b66a9", func := "wicket/wicketlaw12.SimRuns", spec := "simRuns", inPlace := ["internal/abi.NoEscape", "internal/bytealg.IndexByteString", "internal/bytealg.IndexString"], unfollowed := true, recurses := true, named := ["wicket/api.ErrPattern", "wicket/api.ErrUTF", "unicode/utf8.first", "unicode/utf8.acceptRanges", "wicket/api.ErrRange", "wicket/api.ErrRepeat", "wicket/api.ErrNil", "internal/strconv.uint64pow10", "math/bits.deBruijn32tab", "math/bits.deBruijn64tab", "internal/bytealg.MaxLen"], apart := false, laid := [("math/bits.deBruijn32tab", laid_math_bits_deBruijn32tab), ("math/bits.deBruijn64tab", laid_math_bits_deBruijn64tab), ("internal/strconv.uint64pow10", laid_internal_strconv_uint64pow10), ("unicode/utf8.acceptRanges", laid_unicode_utf8_acceptRanges), ("wicket/api.ErrUTF", laid_wicket_api_ErrUTF), ("wicket/api.ErrNil", laid_wicket_api_ErrNil), ("wicket/api.ErrPattern", laid_wicket_api_ErrPattern), ("wicket/api.ErrRepeat", laid_wicket_api_ErrRepeat), ("wicket/api.ErrRange", laid_wicket_api_ErrRange), ("unicode/utf8.first", laid_unicode_utf8_first)], narrowed := true }
def SimRunsUptoSaid : Prop := simRunsUptoRow.holds Tryz.pinned (OpenSpec.upto simRunsSpec)

/-- 'wicketlaw12.SimStrings', WHERE WHAT IT READS IS OF BULK AT MOST 1048576: true; the input reads as it did. -/
def simStringsUptoRow : OpenClaim := { program := "ythhnmpkgleelfaagreatdoor", sum := "38e3993582e7adf84e49c3a6ec06d0cc04cc4a33064254807087afa9394b66a9", func := "wicket/wicketlaw12.SimStrings", spec := "simStrings", inPlace := ["internal/abi.NoEscape", "internal/bytealg.IndexByteString", "internal/bytealg.IndexString"], unfollowed := true, recurses := true, named := ["wicket/api.ErrPattern", "wicket/api.ErrUTF", "unicode/utf8.first", "unicode/utf8.acceptRanges", "wicket/api.ErrRange", "wicket/api.ErrRepeat", "wicket/api.ErrNil", "internal/strconv.uint64pow10", "math/bits.deBruijn32tab", "math/bits.deBruijn64tab", "internal/bytealg.MaxLen"], apart := false, laid := [("math/bits.deBruijn32tab", laid_math_bits_deBruijn32tab), ("math/bits.deBruijn64tab", laid_math_bits_deBruijn64tab), ("internal/strconv.uint64pow10", laid_internal_strconv_uint64pow10), ("unicode/utf8.acceptRanges", laid_unicode_utf8_acceptRanges), ("wicket/api.ErrUTF", laid_wicket_api_ErrUTF), ("wicket/api.ErrNil", laid_wicket_api_ErrNil), ("wicket/api.ErrPattern", laid_wicket_api_ErrPattern), ("wicket/api.ErrRepeat", laid_wicket_api_ErrRepeat), ("wicket/api.ErrRange", laid_wicket_api_ErrRange), ("unicode/utf8.first", laid_unicode_utf8_first)], narrowed := true }
def SimStringsUptoSaid : Prop := simStringsUptoRow.holds Tryz.pinned (OpenSpec.upto simStringsSpec)

/-- 'wicketlaw12.SimParts', WHERE WHAT IT READS IS OF BULK AT MOST 1048576: true; the input reads as it did. -/
def simPartsUptoRow : OpenClaim := { program := "ythhnmpkgleelfaagreatdoor", sum := "38e3993582e7adf84e49c3a6ec06d0cc04cc4a33064254807087afa9394b66a9", func := "wicket/wicketlaw12.SimParts", spec := "simParts", inPlace := ["internal/abi.NoEscape", "internal/bytealg.IndexByteString", "internal/bytealg.IndexString"], unfollowed := true, recurses := true, named := ["wicket/api.ErrPattern", "wicket/api.ErrUTF", "unicode/utf8.first", "unicode/utf8.acceptRanges", "wicket/api.ErrRange", "wicket/api.ErrRepeat", "wicket/api.ErrNil", "internal/strconv.uint64pow10", "math/bits.deBruijn32tab", "math/bits.deBruijn64tab", "internal/bytealg.MaxLen"], apart := false, laid := [("math/bits.deBruijn32tab", laid_math_bits_deBruijn32tab), ("math/bits.deBruijn64tab", laid_math_bits_deBruijn64tab), ("internal/strconv.uint64pow10", laid_internal_strconv_uint64pow10), ("unicode/utf8.acceptRanges", laid_unicode_utf8_acceptRanges), ("wicket/api.ErrUTF", laid_wicket_api_ErrUTF), ("wicket/api.ErrNil", laid_wicket_api_ErrNil), ("wicket/api.ErrPattern", laid_wicket_api_ErrPattern), ("wicket/api.ErrRepeat", laid_wicket_api_ErrRepeat), ("wicket/api.ErrRange", laid_wicket_api_ErrRange), ("unicode/utf8.first", laid_unicode_utf8_first)], narrowed := true }
def SimPartsUptoSaid : Prop := simPartsUptoRow.holds Tryz.pinned (OpenSpec.upto simPartsSpec)

/-- 'wicketlaw12.SimLonger', WHERE WHAT IT READS IS OF BULK AT MOST 1048576: true; the input reads as it did. -/
def simLongerUptoRow : OpenClaim := { program := "ythhnmpkgleelfaagreatdoor", sum := "38e3993582e7adf84e49c3a6ec06d0cc04cc4a33064254807087afa9394b66a9", func := "wicket/wicketlaw12.SimLonger", spec := "simLonger", inPlace := ["internal/abi.NoEscape", "internal/bytealg.IndexByteString", "internal/bytealg.IndexString"], unfollowed := true, recurses := true, named := ["wicket/api.ErrPattern", "wicket/api.ErrUTF", "unicode/utf8.first", "unicode/utf8.acceptRanges", "wicket/api.ErrRange", "wicket/api.ErrRepeat", "wicket/api.ErrNil", "internal/strconv.uint64pow10", "math/bits.deBruijn32tab", "math/bits.deBruijn64tab", "internal/bytealg.MaxLen"], apart := false, laid := [("math/bits.deBruijn32tab", laid_math_bits_deBruijn32tab), ("math/bits.deBruijn64tab", laid_math_bits_deBruijn64tab), ("internal/strconv.uint64pow10", laid_internal_strconv_uint64pow10), ("unicode/utf8.acceptRanges", laid_unicode_utf8_acceptRanges), ("wicket/api.ErrUTF", laid_wicket_api_ErrUTF), ("wicket/api.ErrNil", laid_wicket_api_ErrNil), ("wicket/api.ErrPattern", laid_wicket_api_ErrPattern), ("wicket/api.ErrRepeat", laid_wicket_api_ErrRepeat), ("wicket/api.ErrRange", laid_wicket_api_ErrRange), ("unicode/utf8.first", laid_unicode_utf8_first)], narrowed := true }
def SimLongerUptoSaid : Prop := simLongerUptoRow.holds Tryz.pinned (OpenSpec.upto simLongerSpec)

/-- 'wicketlaw12.SimOwn', WHERE WHAT IT READS IS OF BULK AT MOST 1048576: true; the input reads as it did. -/
def simOwnUptoRow : OpenClaim := { program := "ythhnmpkgleelfaagreatdoor", sum := "38e3993582e7adf84e49c3a6ec06d0cc04cc4a33064254807087afa9394b66a9", func := "wicket/wicketlaw12.SimOwn", spec := "simOwn", inPlace := ["internal/abi.NoEscape", "internal/bytealg.IndexByteString", "internal/bytealg.IndexString"], unfollowed := true, recurses := true, named := ["wicket/api.ErrPattern", "wicket/api.ErrUTF", "unicode/utf8.first", "unicode/utf8.acceptRanges", "wicket/api.ErrRange", "wicket/api.ErrRepeat", "wicket/api.ErrNil", "internal/strconv.uint64pow10", "math/bits.deBruijn32tab", "math/bits.deBruijn64tab", "internal/bytealg.MaxLen"], apart := false, laid := [("math/bits.deBruijn32tab", laid_math_bits_deBruijn32tab), ("math/bits.deBruijn64tab", laid_math_bits_deBruijn64tab), ("internal/strconv.uint64pow10", laid_internal_strconv_uint64pow10), ("unicode/utf8.acceptRanges", laid_unicode_utf8_acceptRanges), ("wicket/api.ErrUTF", laid_wicket_api_ErrUTF), ("wicket/api.ErrNil", laid_wicket_api_ErrNil), ("wicket/api.ErrPattern", laid_wicket_api_ErrPattern), ("wicket/api.ErrRepeat", laid_wicket_api_ErrRepeat), ("wicket/api.ErrRange", laid_wicket_api_ErrRange), ("unicode/utf8.first", laid_unicode_utf8_first)], narrowed := true }
def SimOwnUptoSaid : Prop := simOwnUptoRow.holds Tryz.pinned (OpenSpec.upto simOwnSpec)

/-- 'wicketlaw12.SimCounts', WHERE WHAT IT READS IS OF BULK AT MOST 1048576: true; the input reads as it did. -/
def simCountsUptoRow : OpenClaim := { program := "ythhnmpkgleelfaagreatdoor", sum := "38e3993582e7adf84e49c3a6ec06d0cc04cc4a33064254807087afa9394b66a9", func := "wicket/wicketlaw12.SimCounts", spec := "simCounts", inPlace := ["internal/abi.NoEscape", "internal/bytealg.IndexByteString", "internal/bytealg.IndexString"], unfollowed := true, recurses := true, named := ["wicket/api.ErrPattern", "wicket/api.ErrUTF", "unicode/utf8.first", "unicode/utf8.acceptRanges", "wicket/api.ErrRange", "wicket/api.ErrRepeat", "wicket/api.ErrNil", "internal/strconv.uint64pow10", "math/bits.deBruijn32tab", "math/bits.deBruijn64tab", "internal/bytealg.MaxLen"], apart := false, laid := [("math/bits.deBruijn32tab", laid_math_bits_deBruijn32tab), ("math/bits.deBruijn64tab", laid_math_bits_deBruijn64tab), ("internal/strconv.uint64pow10", laid_internal_strconv_uint64pow10), ("unicode/utf8.acceptRanges", laid_unicode_utf8_acceptRanges), ("wicket/api.ErrUTF", laid_wicket_api_ErrUTF), ("wicket/api.ErrNil", laid_wicket_api_ErrNil), ("wicket/api.ErrPattern", laid_wicket_api_ErrPattern), ("wicket/api.ErrRepeat", laid_wicket_api_ErrRepeat), ("wicket/api.ErrRange", laid_wicket_api_ErrRange), ("unicode/utf8.first", laid_unicode_utf8_first)], narrowed := true }
def SimCountsUptoSaid : Prop := simCountsUptoRow.holds Tryz.pinned (OpenSpec.upto simCountsSpec)

end Rows
end Go.Proofs.YthhnmpkgleelfaaGreatDoor
