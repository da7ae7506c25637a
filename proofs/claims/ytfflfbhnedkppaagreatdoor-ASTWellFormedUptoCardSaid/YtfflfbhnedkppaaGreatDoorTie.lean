/-
  DERIVED. GIVEN WITH THE SEED: THE PROGRAM's TIES (one call each: nine closed facts by the kernel) AND EACH ROW's TIE, after the 31st guide's Derived/Test/Toyas{Tie, Card}.lean. No idea stands in it: it is a product of the set-up. Laid BY PROGRAM, IN A SANDBOX (cutbox-door.mjs). By AI agents, Wed Nov 11 2026. No macro, syntax, notation, axiom, sorry.
-/
import Derived.Test.YtfflfbhnedkppaaGreatDoorRows
import Derived.LaidByTextLater
import Derived.SevenTiedAt
import Derived.LaidSub
import Derived.LaidOnce
namespace Go.Proofs.YtfflfbhnedkppaaGreatDoor
open Go
set_option maxRecDepth 100000
theorem seatTie1 : Tryz.prog.laidByTextLater [("math/bits.deBruijn32tab", Rows.laid_math_bits_deBruijn32tab), ("math/bits.deBruijn64tab", Rows.laid_math_bits_deBruijn64tab), ("internal/strconv.uint64pow10", Rows.laid_internal_strconv_uint64pow10), ("unicode.White_Space", Rows.laid_unicode_White_Space), ("strings.asciiSpace", Rows.laid_strings_asciiSpace), ("trickle/ast.symbols", Rows.laid_trickle_ast_symbols), ("trickle/ast.levels", Rows.laid_trickle_ast_levels), ("trickle/ast.statements", Rows.laid_trickle_ast_statements)] [.data, .data, .data, .listed, .data, .data, .data, .data] true :=
  Program.laidByTextLater_by_one 76 8 257 (by kernel_rfl) (by kernel_rfl) (by kernel_rfl) (by kernel_rfl) (by kernel_rfl) (by kernel_rfl) (fun _ _ => by kernel_rfl)
theorem noOwnUnsafe : Tryz.pinned.checked.prog.headLifts.contains "ownunsafe" = false := by kernel_rfl
theorem tie : Tryz.prog.laidByTextLater [("math/bits.deBruijn32tab", Rows.laid_math_bits_deBruijn32tab), ("math/bits.deBruijn64tab", Rows.laid_math_bits_deBruijn64tab), ("internal/strconv.uint64pow10", Rows.laid_internal_strconv_uint64pow10), ("unicode.White_Space", Rows.laid_unicode_White_Space), ("strings.asciiSpace", Rows.laid_strings_asciiSpace), ("trickle/ast.symbols", Rows.laid_trickle_ast_symbols), ("trickle/ast.levels", Rows.laid_trickle_ast_levels), ("trickle/ast.statements", Rows.laid_trickle_ast_statements)] [.data, .data, .data, .listed, .data, .data, .data, .data] true :=
  Program.laidByTextLater.sub seatTie1 ["math/bits.deBruijn32tab", "math/bits.deBruijn64tab", "internal/strconv.uint64pow10", "unicode.White_Space", "strings.asciiSpace", "trickle/ast.symbols", "trickle/ast.levels", "trickle/ast.statements"] (by kernel_rfl) (by kernel_rfl)
theorem simplifyExpr_row_tie : Rows.simplifyExprRow.laidByTextAt .later Tryz.pinned [.data, .data, .data, .listed, .data, .data, .data, .data] true :=
  OpenClaim.laidByTextAt_later rfl rfl tie noOwnUnsafe
theorem simplifyStmts_row_tie : Rows.simplifyStmtsRow.laidByTextAt .later Tryz.pinned [.data, .data, .data, .listed, .data, .data, .data, .data] true :=
  OpenClaim.laidByTextAt_later rfl rfl tie noOwnUnsafe
theorem simplifyConstant_row_tie : Rows.simplifyConstantRow.laidByTextAt .later Tryz.pinned [.data, .data, .data, .listed, .data, .data, .data, .data] true :=
  OpenClaim.laidByTextAt_later rfl rfl tie noOwnUnsafe
theorem aSTFormats_row_tie : Rows.aSTFormatsRow.laidByTextAt .later Tryz.pinned [.data, .data, .data, .listed, .data, .data, .data, .data] true :=
  OpenClaim.laidByTextAt_later rfl rfl tie noOwnUnsafe
theorem aSTFormatsExpr_row_tie : Rows.aSTFormatsExprRow.laidByTextAt .later Tryz.pinned [.data, .data, .data, .listed, .data, .data, .data, .data] true :=
  OpenClaim.laidByTextAt_later rfl rfl tie noOwnUnsafe
theorem aSTWellFormed_row_tie : Rows.aSTWellFormedRow.laidByTextAt .later Tryz.pinned [.data, .data, .data, .listed, .data, .data, .data, .data] true :=
  OpenClaim.laidByTextAt_later rfl rfl tie noOwnUnsafe
theorem aSTEquality_row_tie : Rows.aSTEqualityRow.laidByTextAt .later Tryz.pinned [.data, .data, .data, .listed, .data, .data, .data, .data] true :=
  OpenClaim.laidByTextAt_later rfl rfl tie noOwnUnsafe
theorem aSTTraverses_row_tie : Rows.aSTTraversesRow.laidByTextAt .later Tryz.pinned [.data, .data, .data, .listed, .data, .data, .data, .data] true :=
  OpenClaim.laidByTextAt_later rfl rfl tie noOwnUnsafe
theorem aSTTextDetermines_row_tie : Rows.aSTTextDeterminesRow.laidByTextAt .later Tryz.pinned [.data, .data, .data, .listed, .data, .data, .data, .data] true :=
  OpenClaim.laidByTextAt_later rfl rfl tie noOwnUnsafe
theorem simplifyProgram_row_tie : Rows.simplifyProgramRow.laidByTextAt .later Tryz.pinned [.data, .data, .data, .listed, .data, .data, .data, .data] true :=
  OpenClaim.laidByTextAt_later rfl rfl tie noOwnUnsafe
theorem simplifyIsIdempotent_row_tie : Rows.simplifyIsIdempotentRow.laidByTextAt .later Tryz.pinned [.data, .data, .data, .listed, .data, .data, .data, .data] true :=
  OpenClaim.laidByTextAt_later rfl rfl tie noOwnUnsafe
theorem aSTStrips_row_tie : Rows.aSTStripsRow.laidByTextAt .later Tryz.pinned [.data, .data, .data, .listed, .data, .data, .data, .data] true :=
  OpenClaim.laidByTextAt_later rfl rfl tie noOwnUnsafe
theorem simplifyPreservesValues_row_tie : Rows.simplifyPreservesValuesRow.laidByTextAt .later Tryz.pinned [.data, .data, .data, .listed, .data, .data, .data, .data] true :=
  OpenClaim.laidByTextAt_later rfl rfl tie noOwnUnsafe
theorem simplifyPreservesRuns_row_tie : Rows.simplifyPreservesRunsRow.laidByTextAt .later Tryz.pinned [.data, .data, .data, .listed, .data, .data, .data, .data] true :=
  OpenClaim.laidByTextAt_later rfl rfl tie noOwnUnsafe
theorem simplifyExprUpto_row_tie : Rows.simplifyExprUptoRow.laidByTextAt .later Tryz.pinned [.data, .data, .data, .listed, .data, .data, .data, .data] true :=
  OpenClaim.laidByTextAt_later rfl rfl tie noOwnUnsafe
theorem simplifyStmtsUpto_row_tie : Rows.simplifyStmtsUptoRow.laidByTextAt .later Tryz.pinned [.data, .data, .data, .listed, .data, .data, .data, .data] true :=
  OpenClaim.laidByTextAt_later rfl rfl tie noOwnUnsafe
theorem simplifyConstantUpto_row_tie : Rows.simplifyConstantUptoRow.laidByTextAt .later Tryz.pinned [.data, .data, .data, .listed, .data, .data, .data, .data] true :=
  OpenClaim.laidByTextAt_later rfl rfl tie noOwnUnsafe
theorem aSTFormatsUpto_row_tie : Rows.aSTFormatsUptoRow.laidByTextAt .later Tryz.pinned [.data, .data, .data, .listed, .data, .data, .data, .data] true :=
  OpenClaim.laidByTextAt_later rfl rfl tie noOwnUnsafe
theorem aSTFormatsExprUpto_row_tie : Rows.aSTFormatsExprUptoRow.laidByTextAt .later Tryz.pinned [.data, .data, .data, .listed, .data, .data, .data, .data] true :=
  OpenClaim.laidByTextAt_later rfl rfl tie noOwnUnsafe
theorem aSTWellFormedUpto_row_tie : Rows.aSTWellFormedUptoRow.laidByTextAt .later Tryz.pinned [.data, .data, .data, .listed, .data, .data, .data, .data] true :=
  OpenClaim.laidByTextAt_later rfl rfl tie noOwnUnsafe
theorem aSTEqualityUpto_row_tie : Rows.aSTEqualityUptoRow.laidByTextAt .later Tryz.pinned [.data, .data, .data, .listed, .data, .data, .data, .data] true :=
  OpenClaim.laidByTextAt_later rfl rfl tie noOwnUnsafe
theorem aSTTraversesUpto_row_tie : Rows.aSTTraversesUptoRow.laidByTextAt .later Tryz.pinned [.data, .data, .data, .listed, .data, .data, .data, .data] true :=
  OpenClaim.laidByTextAt_later rfl rfl tie noOwnUnsafe
theorem aSTTextDeterminesUpto_row_tie : Rows.aSTTextDeterminesUptoRow.laidByTextAt .later Tryz.pinned [.data, .data, .data, .listed, .data, .data, .data, .data] true :=
  OpenClaim.laidByTextAt_later rfl rfl tie noOwnUnsafe
theorem simplifyProgramUpto_row_tie : Rows.simplifyProgramUptoRow.laidByTextAt .later Tryz.pinned [.data, .data, .data, .listed, .data, .data, .data, .data] true :=
  OpenClaim.laidByTextAt_later rfl rfl tie noOwnUnsafe
theorem simplifyIsIdempotentUpto_row_tie : Rows.simplifyIsIdempotentUptoRow.laidByTextAt .later Tryz.pinned [.data, .data, .data, .listed, .data, .data, .data, .data] true :=
  OpenClaim.laidByTextAt_later rfl rfl tie noOwnUnsafe
theorem aSTStripsUpto_row_tie : Rows.aSTStripsUptoRow.laidByTextAt .later Tryz.pinned [.data, .data, .data, .listed, .data, .data, .data, .data] true :=
  OpenClaim.laidByTextAt_later rfl rfl tie noOwnUnsafe
theorem simplifyPreservesValuesUpto_row_tie : Rows.simplifyPreservesValuesUptoRow.laidByTextAt .later Tryz.pinned [.data, .data, .data, .listed, .data, .data, .data, .data] true :=
  OpenClaim.laidByTextAt_later rfl rfl tie noOwnUnsafe
theorem simplifyPreservesRunsUpto_row_tie : Rows.simplifyPreservesRunsUptoRow.laidByTextAt .later Tryz.pinned [.data, .data, .data, .listed, .data, .data, .data, .data] true :=
  OpenClaim.laidByTextAt_later rfl rfl tie noOwnUnsafe
end Go.Proofs.YtfflfbhnedkppaaGreatDoor
