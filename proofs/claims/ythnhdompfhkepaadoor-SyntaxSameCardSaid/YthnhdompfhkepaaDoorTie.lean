/-
  DERIVED. GIVEN WITH THE SEED: THE PROGRAM's TIES (one call each: nine closed facts by the kernel) AND EACH ROW's TIE, after the 31st guide's Derived/Test/Toyas{Tie, Card}.lean. No idea stands in it: it is a product of the set-up. Laid BY PROGRAM, IN A SANDBOX (cutbox-door.mjs). By AI agents, Wed Nov 11 2026. No macro, syntax, notation, axiom, sorry.
-/
import Derived.Test.YthnhdompfhkepaaDoorRows
import Derived.LaidByTextLater
import Derived.SevenTiedAt
import Derived.LaidSub
import Derived.LaidOnce
namespace Go.Proofs.YthnhdompfhkepaaDoor
open Go
set_option maxRecDepth 100000
theorem seatTie1 : Tryd.prog.laidByTextLater [("math/bits.deBruijn32tab", Rows.laid_math_bits_deBruijn32tab), ("math/bits.deBruijn64tab", Rows.laid_math_bits_deBruijn64tab), ("internal/strconv.uint64pow10", Rows.laid_internal_strconv_uint64pow10), ("seedcorn/token.words", Rows.laid_seedcorn_token_words), ("seedcorn/syntax.signs", Rows.laid_seedcorn_syntax_signs)] [.data, .data, .data, .widerDeep, .data] true :=
  Program.laidByTextLater_by_one 34 8 65 (by kernel_rfl) (by kernel_rfl) (by kernel_rfl) (by kernel_rfl) (by kernel_rfl) (by kernel_rfl) (fun _ _ => by kernel_rfl)
theorem noOwnUnsafe : Tryd.pinned.checked.prog.headLifts.contains "ownunsafe" = false := by kernel_rfl
theorem tie : Tryd.prog.laidByTextLater [("math/bits.deBruijn32tab", Rows.laid_math_bits_deBruijn32tab), ("math/bits.deBruijn64tab", Rows.laid_math_bits_deBruijn64tab), ("internal/strconv.uint64pow10", Rows.laid_internal_strconv_uint64pow10), ("seedcorn/syntax.signs", Rows.laid_seedcorn_syntax_signs)] [.data, .data, .data, .data] true :=
  Program.laidByTextLater.sub seatTie1 ["math/bits.deBruijn32tab", "math/bits.deBruijn64tab", "internal/strconv.uint64pow10", "seedcorn/syntax.signs"] (by kernel_rfl) (by kernel_rfl)
theorem systemPrinted_row_tie : Rows.systemPrintedRow.laidByTextAt .later Tryd.pinned [.data, .data, .data, .data] true :=
  OpenClaim.laidByTextAt_later rfl rfl tie noOwnUnsafe
theorem tie2 : Tryd.prog.laidByTextLater [("math/bits.deBruijn32tab", Rows.laid_math_bits_deBruijn32tab), ("math/bits.deBruijn64tab", Rows.laid_math_bits_deBruijn64tab), ("internal/strconv.uint64pow10", Rows.laid_internal_strconv_uint64pow10), ("seedcorn/token.words", Rows.laid_seedcorn_token_words), ("seedcorn/syntax.signs", Rows.laid_seedcorn_syntax_signs)] [.data, .data, .data, .widerDeep, .data] true :=
  Program.laidByTextLater.sub seatTie1 ["math/bits.deBruijn32tab", "math/bits.deBruijn64tab", "internal/strconv.uint64pow10", "seedcorn/token.words", "seedcorn/syntax.signs"] (by kernel_rfl) (by kernel_rfl)
theorem syntaxRight_row_tie : Rows.syntaxRightRow.laidByTextAt .later Tryd.pinned [.data, .data, .data, .widerDeep, .data] true :=
  OpenClaim.laidByTextAt_later rfl rfl tie2 noOwnUnsafe
theorem syntaxSame_row_tie : Rows.syntaxSameRow.laidByTextAt .later Tryd.pinned [.data, .data, .data, .widerDeep, .data] true :=
  OpenClaim.laidByTextAt_later rfl rfl tie2 noOwnUnsafe
theorem syntaxPrints_row_tie : Rows.syntaxPrintsRow.laidByTextAt .later Tryd.pinned [.data, .data, .data, .widerDeep, .data] true :=
  OpenClaim.laidByTextAt_later rfl rfl tie2 noOwnUnsafe
theorem syntaxExpr_row_tie : Rows.syntaxExprRow.laidByTextAt .later Tryd.pinned [.data, .data, .data, .widerDeep, .data] true :=
  OpenClaim.laidByTextAt_later rfl rfl tie2 noOwnUnsafe
theorem syntaxApart_row_tie : Rows.syntaxApartRow.laidByTextAt .later Tryd.pinned [.data, .data, .data, .widerDeep, .data] true :=
  OpenClaim.laidByTextAt_later rfl rfl tie2 noOwnUnsafe
theorem syntaxLevels_row_tie : Rows.syntaxLevelsRow.laidByTextAt .later Tryd.pinned [.data, .data, .data, .widerDeep, .data] true :=
  OpenClaim.laidByTextAt_later rfl rfl tie2 noOwnUnsafe
theorem syntaxGrows_row_tie : Rows.syntaxGrowsRow.laidByTextAt .later Tryd.pinned [.data, .data, .data, .widerDeep, .data] true :=
  OpenClaim.laidByTextAt_later rfl rfl tie2 noOwnUnsafe
theorem systemPrintedUpto_row_tie : Rows.systemPrintedUptoRow.laidByTextAt .later Tryd.pinned [.data, .data, .data, .data] true :=
  OpenClaim.laidByTextAt_later rfl rfl tie noOwnUnsafe
theorem syntaxRightUpto_row_tie : Rows.syntaxRightUptoRow.laidByTextAt .later Tryd.pinned [.data, .data, .data, .widerDeep, .data] true :=
  OpenClaim.laidByTextAt_later rfl rfl tie2 noOwnUnsafe
theorem syntaxSameUpto_row_tie : Rows.syntaxSameUptoRow.laidByTextAt .later Tryd.pinned [.data, .data, .data, .widerDeep, .data] true :=
  OpenClaim.laidByTextAt_later rfl rfl tie2 noOwnUnsafe
theorem syntaxPrintsUpto_row_tie : Rows.syntaxPrintsUptoRow.laidByTextAt .later Tryd.pinned [.data, .data, .data, .widerDeep, .data] true :=
  OpenClaim.laidByTextAt_later rfl rfl tie2 noOwnUnsafe
theorem syntaxExprUpto_row_tie : Rows.syntaxExprUptoRow.laidByTextAt .later Tryd.pinned [.data, .data, .data, .widerDeep, .data] true :=
  OpenClaim.laidByTextAt_later rfl rfl tie2 noOwnUnsafe
theorem syntaxApartUpto_row_tie : Rows.syntaxApartUptoRow.laidByTextAt .later Tryd.pinned [.data, .data, .data, .widerDeep, .data] true :=
  OpenClaim.laidByTextAt_later rfl rfl tie2 noOwnUnsafe
theorem syntaxLevelsUpto_row_tie : Rows.syntaxLevelsUptoRow.laidByTextAt .later Tryd.pinned [.data, .data, .data, .widerDeep, .data] true :=
  OpenClaim.laidByTextAt_later rfl rfl tie2 noOwnUnsafe
theorem syntaxGrowsUpto_row_tie : Rows.syntaxGrowsUptoRow.laidByTextAt .later Tryd.pinned [.data, .data, .data, .widerDeep, .data] true :=
  OpenClaim.laidByTextAt_later rfl rfl tie2 noOwnUnsafe
end Go.Proofs.YthnhdompfhkepaaDoor
