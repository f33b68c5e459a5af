/-
  DERIVED. GIVEN WITH THE SEED: THE PROGRAM's TIES (one call each: nine closed facts by the kernel) AND EACH ROW's TIE, after the 31st guide's Derived/Test/Toyas{Tie, Card}.lean. No idea stands in it: it is a product of the set-up. Laid BY PROGRAM, IN A SANDBOX (cutbox-door.mjs). By AI agents, Wed Nov 11 2026. No macro, syntax, notation, axiom, sorry.
-/
import Derived.Test.YtimbegpgemkpkaaGreatDoorRows
import Derived.LaidByTextLater
import Derived.SevenTiedAt
import Derived.LaidSub
import Derived.LaidOnce
namespace Go.Proofs.YtimbegpgemkpkaaGreatDoor
open Go
set_option maxRecDepth 100000
theorem seatTie1 : Tryz.prog.laidByTextLater [("math/bits.deBruijn32tab", Rows.laid_math_bits_deBruijn32tab), ("math/bits.deBruijn64tab", Rows.laid_math_bits_deBruijn64tab), ("internal/strconv.uint64pow10", Rows.laid_internal_strconv_uint64pow10), ("unicode/utf8.acceptRanges", Rows.laid_unicode_utf8_acceptRanges), ("strconv.ErrRange", Rows.laid_strconv_ErrRange), ("strconv.ErrSyntax", Rows.laid_strconv_ErrSyntax), ("wicket/api.ErrUTF", Rows.laid_wicket_api_ErrUTF), ("wicket/api.ErrQuote", Rows.laid_wicket_api_ErrQuote), ("wicket/api.ErrEnd", Rows.laid_wicket_api_ErrEnd), ("wicket/api.ErrControl", Rows.laid_wicket_api_ErrControl), ("wicket/api.ErrEscape", Rows.laid_wicket_api_ErrEscape), ("wicket/api.ErrSurrogate", Rows.laid_wicket_api_ErrSurrogate), ("wicket/api.ErrNumber", Rows.laid_wicket_api_ErrNumber), ("wicket/api.ErrExponent", Rows.laid_wicket_api_ErrExponent), ("wicket/api.ErrToken", Rows.laid_wicket_api_ErrToken), ("wicket/api.ErrSyntax", Rows.laid_wicket_api_ErrSyntax), ("wicket/api.ErrTwice", Rows.laid_wicket_api_ErrTwice), ("wicket/api.ErrNil", Rows.laid_wicket_api_ErrNil), ("wicket/api.ErrHidden", Rows.laid_wicket_api_ErrHidden), ("wicket/api.ErrLimits", Rows.laid_wicket_api_ErrLimits), ("wicket/dec.goes", Rows.laid_wicket_dec_goes), ("wicket/utf.lengths", Rows.laid_wicket_utf_lengths), ("wicket/lex.begins", Rows.laid_wicket_lex_begins), ("wicket/parse.may", Rows.laid_wicket_parse_may)] [.data, .data, .data, .data, .sentinel, .sentinel, .sentinel, .sentinel, .sentinel, .sentinel, .sentinel, .sentinel, .sentinel, .sentinel, .sentinel, .sentinel, .sentinel, .sentinel, .sentinel, .sentinel, .data, .data, .data, .data] true :=
  Program.laidByTextLater_by_one 367 8 65 (by kernel_rfl) (by kernel_rfl) (by kernel_rfl) (by kernel_rfl) (by kernel_rfl) (by kernel_rfl) (fun _ _ => by kernel_rfl)
theorem pin_laid_unicode_utf8_first : Tryz.pinned.checked.prog.pinnedFits "unicode/utf8.first" = true := by kernel_rfl
theorem noOwnUnsafe : Tryz.pinned.checked.prog.headLifts.contains "ownunsafe" = false := by kernel_rfl
theorem fits1 : Tryz.pinned.checked.prog.listedFits [("math/bits.deBruijn32tab", Rows.laid_math_bits_deBruijn32tab), ("math/bits.deBruijn64tab", Rows.laid_math_bits_deBruijn64tab), ("internal/strconv.uint64pow10", Rows.laid_internal_strconv_uint64pow10), ("unicode/utf8.acceptRanges", Rows.laid_unicode_utf8_acceptRanges), ("strconv.ErrRange", Rows.laid_strconv_ErrRange), ("strconv.ErrSyntax", Rows.laid_strconv_ErrSyntax), ("wicket/api.ErrUTF", Rows.laid_wicket_api_ErrUTF), ("wicket/api.ErrQuote", Rows.laid_wicket_api_ErrQuote), ("wicket/api.ErrEnd", Rows.laid_wicket_api_ErrEnd), ("wicket/api.ErrControl", Rows.laid_wicket_api_ErrControl), ("wicket/api.ErrEscape", Rows.laid_wicket_api_ErrEscape), ("wicket/api.ErrSurrogate", Rows.laid_wicket_api_ErrSurrogate), ("wicket/api.ErrNumber", Rows.laid_wicket_api_ErrNumber), ("wicket/api.ErrExponent", Rows.laid_wicket_api_ErrExponent), ("wicket/api.ErrToken", Rows.laid_wicket_api_ErrToken), ("wicket/api.ErrSyntax", Rows.laid_wicket_api_ErrSyntax), ("wicket/api.ErrTwice", Rows.laid_wicket_api_ErrTwice), ("wicket/api.ErrNil", Rows.laid_wicket_api_ErrNil), ("wicket/api.ErrHidden", Rows.laid_wicket_api_ErrHidden), ("wicket/api.ErrLimits", Rows.laid_wicket_api_ErrLimits), ("wicket/dec.goes", Rows.laid_wicket_dec_goes), ("wicket/utf.lengths", Rows.laid_wicket_utf_lengths), ("wicket/lex.begins", Rows.laid_wicket_lex_begins), ("wicket/parse.may", Rows.laid_wicket_parse_may), ("unicode/utf8.first", Rows.laid_unicode_utf8_first)] = true := by
  unfold Program.listedFits
  rw [noOwnUnsafe]
  kernel_rfl
theorem tie : Tryz.prog.laidByTextLater [("math/bits.deBruijn32tab", Rows.laid_math_bits_deBruijn32tab), ("math/bits.deBruijn64tab", Rows.laid_math_bits_deBruijn64tab), ("internal/strconv.uint64pow10", Rows.laid_internal_strconv_uint64pow10), ("unicode/utf8.acceptRanges", Rows.laid_unicode_utf8_acceptRanges), ("strconv.ErrRange", Rows.laid_strconv_ErrRange), ("strconv.ErrSyntax", Rows.laid_strconv_ErrSyntax), ("wicket/api.ErrUTF", Rows.laid_wicket_api_ErrUTF), ("wicket/api.ErrQuote", Rows.laid_wicket_api_ErrQuote), ("wicket/api.ErrEnd", Rows.laid_wicket_api_ErrEnd), ("wicket/api.ErrControl", Rows.laid_wicket_api_ErrControl), ("wicket/api.ErrEscape", Rows.laid_wicket_api_ErrEscape), ("wicket/api.ErrSurrogate", Rows.laid_wicket_api_ErrSurrogate), ("wicket/api.ErrNumber", Rows.laid_wicket_api_ErrNumber), ("wicket/api.ErrExponent", Rows.laid_wicket_api_ErrExponent), ("wicket/api.ErrToken", Rows.laid_wicket_api_ErrToken), ("wicket/api.ErrSyntax", Rows.laid_wicket_api_ErrSyntax), ("wicket/api.ErrTwice", Rows.laid_wicket_api_ErrTwice), ("wicket/api.ErrNil", Rows.laid_wicket_api_ErrNil), ("wicket/api.ErrHidden", Rows.laid_wicket_api_ErrHidden), ("wicket/api.ErrLimits", Rows.laid_wicket_api_ErrLimits), ("wicket/dec.goes", Rows.laid_wicket_dec_goes), ("wicket/utf.lengths", Rows.laid_wicket_utf_lengths), ("wicket/lex.begins", Rows.laid_wicket_lex_begins), ("wicket/parse.may", Rows.laid_wicket_parse_may)] [.data, .data, .data, .data, .sentinel, .sentinel, .sentinel, .sentinel, .sentinel, .sentinel, .sentinel, .sentinel, .sentinel, .sentinel, .sentinel, .sentinel, .sentinel, .sentinel, .sentinel, .sentinel, .data, .data, .data, .data] true :=
  Program.laidByTextLater.sub seatTie1 ["math/bits.deBruijn32tab", "math/bits.deBruijn64tab", "internal/strconv.uint64pow10", "unicode/utf8.acceptRanges", "strconv.ErrRange", "strconv.ErrSyntax", "wicket/api.ErrUTF", "wicket/api.ErrQuote", "wicket/api.ErrEnd", "wicket/api.ErrControl", "wicket/api.ErrEscape", "wicket/api.ErrSurrogate", "wicket/api.ErrNumber", "wicket/api.ErrExponent", "wicket/api.ErrToken", "wicket/api.ErrSyntax", "wicket/api.ErrTwice", "wicket/api.ErrNil", "wicket/api.ErrHidden", "wicket/api.ErrLimits", "wicket/dec.goes", "wicket/utf.lengths", "wicket/lex.begins", "wicket/parse.may"] (by kernel_rfl) (by kernel_rfl)
theorem canonSorts_row_tie : Rows.canonSortsRow.laidByTextAt .later Tryz.pinned [.data, .data, .data, .data, .sentinel, .sentinel, .sentinel, .sentinel, .sentinel, .sentinel, .sentinel, .sentinel, .sentinel, .sentinel, .sentinel, .sentinel, .sentinel, .sentinel, .sentinel, .sentinel, .data, .data, .data, .data, .pinned] true :=
  OpenClaim.laidByTextAt_pinned rfl rfl tie rfl rfl rfl rfl (fun y hy _e => by
    simp only [Rows.canonSortsRow, List.zip_cons_cons, List.zip_nil_right, List.mem_cons, List.mem_nil_iff, or_false] at hy
    rcases hy with rfl | rfl | rfl | rfl | rfl | rfl | rfl | rfl | rfl | rfl | rfl | rfl | rfl | rfl | rfl | rfl | rfl | rfl | rfl | rfl | rfl | rfl | rfl | rfl | rfl
    · cases _e
    · cases _e
    · cases _e
    · cases _e
    · cases _e
    · cases _e
    · cases _e
    · cases _e
    · cases _e
    · cases _e
    · cases _e
    · cases _e
    · cases _e
    · cases _e
    · cases _e
    · cases _e
    · cases _e
    · cases _e
    · cases _e
    · cases _e
    · cases _e
    · cases _e
    · cases _e
    · cases _e
    · exact ⟨pin_laid_unicode_utf8_first, by kernel_rfl⟩) fits1
theorem canonSortsUpto_row_tie : Rows.canonSortsUptoRow.laidByTextAt .later Tryz.pinned [.data, .data, .data, .data, .sentinel, .sentinel, .sentinel, .sentinel, .sentinel, .sentinel, .sentinel, .sentinel, .sentinel, .sentinel, .sentinel, .sentinel, .sentinel, .sentinel, .sentinel, .sentinel, .data, .data, .data, .data, .pinned] true :=
  OpenClaim.laidByTextAt_pinned rfl rfl tie rfl rfl rfl rfl (fun y hy _e => by
    simp only [Rows.canonSortsUptoRow, List.zip_cons_cons, List.zip_nil_right, List.mem_cons, List.mem_nil_iff, or_false] at hy
    rcases hy with rfl | rfl | rfl | rfl | rfl | rfl | rfl | rfl | rfl | rfl | rfl | rfl | rfl | rfl | rfl | rfl | rfl | rfl | rfl | rfl | rfl | rfl | rfl | rfl | rfl
    · cases _e
    · cases _e
    · cases _e
    · cases _e
    · cases _e
    · cases _e
    · cases _e
    · cases _e
    · cases _e
    · cases _e
    · cases _e
    · cases _e
    · cases _e
    · cases _e
    · cases _e
    · cases _e
    · cases _e
    · cases _e
    · cases _e
    · cases _e
    · cases _e
    · cases _e
    · cases _e
    · cases _e
    · exact ⟨pin_laid_unicode_utf8_first, by kernel_rfl⟩) fits1
end Go.Proofs.YtimbegpgemkpkaaGreatDoor
