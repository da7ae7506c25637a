/-
  NARROWER THAN 'FOR EVERY INPUT', by the rows' own cells (each row's printed sentence says how): SimplifyExpr: loops, laid · SimplifyStmts: loops, laid · SimplifyConstant: loops, laid · ASTFormats: loops, laid · ASTFormatsExpr: loops, laid · ASTWellFormed: loops, laid · ASTEquality: loops, laid · ASTTraverses: loops, laid · ASTTextDetermines: loops, laid · SimplifyProgram: loops, laid · SimplifyIsIdempotent: loops, laid · ASTStrips: loops, laid · SimplifyPreservesValues: loops, laid · SimplifyPreservesRuns: loops, laid.
  DERIVED. THE GIVEN ROWS OF THIS SEAT. 14 by the template 'for every input the law returns true; each argument reads behind the call as it read before'; 0 by the template 'total and deterministic' (their statements: YtfflfbhnedkppaaGreatDoorTotals.lean).
  GIVEN WITH THE SEED: the statements are not yours to turn. If you find one false, say at which input.
  Laid BY PROGRAM, IN A SANDBOX (cutbox-rows.mjs): the forced cells as the released guide's own fill.sh prints them over the translation 59ba9a57c0befdcd… (all of the seat's roots in one cut). By AI agents, Wed Nov 11 2026. No macro, syntax, notation, axiom, sorry.
-/
import Derived.Test.YtfflfbhnedkppaaGreatDoorChecked
import GoSem.Claim
import GoSem.ClaimJoined
import GoSem.ClaimMapViews
import Derived.JoinedTies
import Derived.KernelRfl
namespace Go.Proofs.YtfflfbhnedkppaaGreatDoor
/- THE CELL 'sum', in the pinned program and in every row, IS THE sha256 OF THE DUMP (.gsa) THAT YtfflfbhnedkppaaGreatDoorProg.lean LOADS. Nothing in Lean hashes anything: it is a label: what it is worth is what the hold of that sum in a sandbox is worth. -/
noncomputable def Tryz.pinned : Pinned := { name := "ytfflfbhnedkppaagreatdoor", sum := "59ba9a57c0befdcd62b57700cd1155efb8761670495b80ff3b921df92f9c8c59", checked := Tryz.checked }
namespace Rows
def none {H : Type} : Left H := { results := [], args := [] }

/- WHAT THE LISTED PACKAGE-LEVEL VARIABLES READ AS WHEN THE CALL BEGINS. Each datum BY PROGRAM (the guide's laid-datum.mjs) off the statement by which the dump's own 'gosem.cut.vars' lays the variable. In a bare row this is a premise. The card (YtfflfbhnedkppaaGreatDoorCards.lean) ties it to the program's text. -/
def laid_math_bits_deBruijn32tab {H : Type} : DataW H := .agg [.lit (.int .u8 0), .lit (.int .u8 1), .lit (.int .u8 28), .lit (.int .u8 2), .lit (.int .u8 29), .lit (.int .u8 14), .lit (.int .u8 24), .lit (.int .u8 3), .lit (.int .u8 30), .lit (.int .u8 22), .lit (.int .u8 20), .lit (.int .u8 15), .lit (.int .u8 25), .lit (.int .u8 17), .lit (.int .u8 4), .lit (.int .u8 8), .lit (.int .u8 31), .lit (.int .u8 27), .lit (.int .u8 13), .lit (.int .u8 23), .lit (.int .u8 21), .lit (.int .u8 19), .lit (.int .u8 16), .lit (.int .u8 7), .lit (.int .u8 26), .lit (.int .u8 12), .lit (.int .u8 18), .lit (.int .u8 6), .lit (.int .u8 11), .lit (.int .u8 5), .lit (.int .u8 10), .lit (.int .u8 9)]
def laid_math_bits_deBruijn64tab {H : Type} : DataW H := .agg [.lit (.int .u8 0), .lit (.int .u8 1), .lit (.int .u8 56), .lit (.int .u8 2), .lit (.int .u8 57), .lit (.int .u8 49), .lit (.int .u8 28), .lit (.int .u8 3), .lit (.int .u8 61), .lit (.int .u8 58), .lit (.int .u8 42), .lit (.int .u8 50), .lit (.int .u8 38), .lit (.int .u8 29), .lit (.int .u8 17), .lit (.int .u8 4), .lit (.int .u8 62), .lit (.int .u8 47), .lit (.int .u8 59), .lit (.int .u8 36), .lit (.int .u8 45), .lit (.int .u8 43), .lit (.int .u8 51), .lit (.int .u8 22), .lit (.int .u8 53), .lit (.int .u8 39), .lit (.int .u8 33), .lit (.int .u8 30), .lit (.int .u8 24), .lit (.int .u8 18), .lit (.int .u8 12), .lit (.int .u8 5), .lit (.int .u8 63), .lit (.int .u8 55), .lit (.int .u8 48), .lit (.int .u8 27), .lit (.int .u8 60), .lit (.int .u8 41), .lit (.int .u8 37), .lit (.int .u8 16), .lit (.int .u8 46), .lit (.int .u8 35), .lit (.int .u8 44), .lit (.int .u8 21), .lit (.int .u8 52), .lit (.int .u8 32), .lit (.int .u8 23), .lit (.int .u8 11), .lit (.int .u8 54), .lit (.int .u8 26), .lit (.int .u8 40), .lit (.int .u8 15), .lit (.int .u8 34), .lit (.int .u8 20), .lit (.int .u8 31), .lit (.int .u8 10), .lit (.int .u8 25), .lit (.int .u8 14), .lit (.int .u8 19), .lit (.int .u8 9), .lit (.int .u8 13), .lit (.int .u8 8), .lit (.int .u8 7), .lit (.int .u8 6)]
def laid_internal_strconv_uint64pow10 {H : Type} : DataW H := .agg [.lit (.int .u64 1), .lit (.int .u64 10), .lit (.int .u64 100), .lit (.int .u64 1000), .lit (.int .u64 10000), .lit (.int .u64 100000), .lit (.int .u64 1000000), .lit (.int .u64 10000000), .lit (.int .u64 100000000), .lit (.int .u64 1000000000), .lit (.int .u64 10000000000), .lit (.int .u64 100000000000), .lit (.int .u64 1000000000000), .lit (.int .u64 10000000000000), .lit (.int .u64 100000000000000), .lit (.int .u64 1000000000000000), .lit (.int .u64 10000000000000000), .lit (.int .u64 100000000000000000), .lit (.int .u64 1000000000000000000), .lit (.int .u64 10000000000000000000)]
def laid_unicode_White_Space {H : Type} : DataW H := .ptr (.agg [.slice [.agg [.lit (.int .u16 9), .lit (.int .u16 13), .lit (.int .u16 1)], .agg [.lit (.int .u16 32), .lit (.int .u16 133), .lit (.int .u16 101)], .agg [.lit (.int .u16 160), .lit (.int .u16 5760), .lit (.int .u16 5600)], .agg [.lit (.int .u16 8192), .lit (.int .u16 8202), .lit (.int .u16 1)], .agg [.lit (.int .u16 8232), .lit (.int .u16 8233), .lit (.int .u16 1)], .agg [.lit (.int .u16 8239), .lit (.int .u16 8287), .lit (.int .u16 48)], .agg [.lit (.int .u16 12288), .lit (.int .u16 12288), .lit (.int .u16 1)]] [], .nil, .lit (.int .i64 2)])
def laid_strings_asciiSpace {H : Type} : DataW H := .agg [.lit (.int .u8 0), .lit (.int .u8 0), .lit (.int .u8 0), .lit (.int .u8 0), .lit (.int .u8 0), .lit (.int .u8 0), .lit (.int .u8 0), .lit (.int .u8 0), .lit (.int .u8 0), .lit (.int .u8 1), .lit (.int .u8 1), .lit (.int .u8 1), .lit (.int .u8 1), .lit (.int .u8 1), .lit (.int .u8 0), .lit (.int .u8 0), .lit (.int .u8 0), .lit (.int .u8 0), .lit (.int .u8 0), .lit (.int .u8 0), .lit (.int .u8 0), .lit (.int .u8 0), .lit (.int .u8 0), .lit (.int .u8 0), .lit (.int .u8 0), .lit (.int .u8 0), .lit (.int .u8 0), .lit (.int .u8 0), .lit (.int .u8 0), .lit (.int .u8 0), .lit (.int .u8 0), .lit (.int .u8 0), .lit (.int .u8 1), .lit (.int .u8 0), .lit (.int .u8 0), .lit (.int .u8 0), .lit (.int .u8 0), .lit (.int .u8 0), .lit (.int .u8 0), .lit (.int .u8 0), .lit (.int .u8 0), .lit (.int .u8 0), .lit (.int .u8 0), .lit (.int .u8 0), .lit (.int .u8 0), .lit (.int .u8 0), .lit (.int .u8 0), .lit (.int .u8 0), .lit (.int .u8 0), .lit (.int .u8 0), .lit (.int .u8 0), .lit (.int .u8 0), .lit (.int .u8 0), .lit (.int .u8 0), .lit (.int .u8 0), .lit (.int .u8 0), .lit (.int .u8 0), .lit (.int .u8 0), .lit (.int .u8 0), .lit (.int .u8 0), .lit (.int .u8 0), .lit (.int .u8 0), .lit (.int .u8 0), .lit (.int .u8 0), .lit (.int .u8 0), .lit (.int .u8 0), .lit (.int .u8 0), .lit (.int .u8 0), .lit (.int .u8 0), .lit (.int .u8 0), .lit (.int .u8 0), .lit (.int .u8 0), .lit (.int .u8 0), .lit (.int .u8 0), .lit (.int .u8 0), .lit (.int .u8 0), .lit (.int .u8 0), .lit (.int .u8 0), .lit (.int .u8 0), .lit (.int .u8 0), .lit (.int .u8 0), .lit (.int .u8 0), .lit (.int .u8 0), .lit (.int .u8 0), .lit (.int .u8 0), .lit (.int .u8 0), .lit (.int .u8 0), .lit (.int .u8 0), .lit (.int .u8 0), .lit (.int .u8 0), .lit (.int .u8 0), .lit (.int .u8 0), .lit (.int .u8 0), .lit (.int .u8 0), .lit (.int .u8 0), .lit (.int .u8 0), .lit (.int .u8 0), .lit (.int .u8 0), .lit (.int .u8 0), .lit (.int .u8 0), .lit (.int .u8 0), .lit (.int .u8 0), .lit (.int .u8 0), .lit (.int .u8 0), .lit (.int .u8 0), .lit (.int .u8 0), .lit (.int .u8 0), .lit (.int .u8 0), .lit (.int .u8 0), .lit (.int .u8 0), .lit (.int .u8 0), .lit (.int .u8 0), .lit (.int .u8 0), .lit (.int .u8 0), .lit (.int .u8 0), .lit (.int .u8 0), .lit (.int .u8 0), .lit (.int .u8 0), .lit (.int .u8 0), .lit (.int .u8 0), .lit (.int .u8 0), .lit (.int .u8 0), .lit (.int .u8 0), .lit (.int .u8 0), .lit (.int .u8 0), .lit (.int .u8 0), .lit (.int .u8 0), .lit (.int .u8 0), .lit (.int .u8 0), .lit (.int .u8 0), .lit (.int .u8 0), .lit (.int .u8 0), .lit (.int .u8 0), .lit (.int .u8 0), .lit (.int .u8 0), .lit (.int .u8 0), .lit (.int .u8 0), .lit (.int .u8 0), .lit (.int .u8 0), .lit (.int .u8 0), .lit (.int .u8 0), .lit (.int .u8 0), .lit (.int .u8 0), .lit (.int .u8 0), .lit (.int .u8 0), .lit (.int .u8 0), .lit (.int .u8 0), .lit (.int .u8 0), .lit (.int .u8 0), .lit (.int .u8 0), .lit (.int .u8 0), .lit (.int .u8 0), .lit (.int .u8 0), .lit (.int .u8 0), .lit (.int .u8 0), .lit (.int .u8 0), .lit (.int .u8 0), .lit (.int .u8 0), .lit (.int .u8 0), .lit (.int .u8 0), .lit (.int .u8 0), .lit (.int .u8 0), .lit (.int .u8 0), .lit (.int .u8 0), .lit (.int .u8 0), .lit (.int .u8 0), .lit (.int .u8 0), .lit (.int .u8 0), .lit (.int .u8 0), .lit (.int .u8 0), .lit (.int .u8 0), .lit (.int .u8 0), .lit (.int .u8 0), .lit (.int .u8 0), .lit (.int .u8 0), .lit (.int .u8 0), .lit (.int .u8 0), .lit (.int .u8 0), .lit (.int .u8 0), .lit (.int .u8 0), .lit (.int .u8 0), .lit (.int .u8 0), .lit (.int .u8 0), .lit (.int .u8 0), .lit (.int .u8 0), .lit (.int .u8 0), .lit (.int .u8 0), .lit (.int .u8 0), .lit (.int .u8 0), .lit (.int .u8 0), .lit (.int .u8 0), .lit (.int .u8 0), .lit (.int .u8 0), .lit (.int .u8 0), .lit (.int .u8 0), .lit (.int .u8 0), .lit (.int .u8 0), .lit (.int .u8 0), .lit (.int .u8 0), .lit (.int .u8 0), .lit (.int .u8 0), .lit (.int .u8 0), .lit (.int .u8 0), .lit (.int .u8 0), .lit (.int .u8 0), .lit (.int .u8 0), .lit (.int .u8 0), .lit (.int .u8 0), .lit (.int .u8 0), .lit (.int .u8 0), .lit (.int .u8 0), .lit (.int .u8 0), .lit (.int .u8 0), .lit (.int .u8 0), .lit (.int .u8 0), .lit (.int .u8 0), .lit (.int .u8 0), .lit (.int .u8 0), .lit (.int .u8 0), .lit (.int .u8 0), .lit (.int .u8 0), .lit (.int .u8 0), .lit (.int .u8 0), .lit (.int .u8 0), .lit (.int .u8 0), .lit (.int .u8 0), .lit (.int .u8 0), .lit (.int .u8 0), .lit (.int .u8 0), .lit (.int .u8 0), .lit (.int .u8 0), .lit (.int .u8 0), .lit (.int .u8 0), .lit (.int .u8 0), .lit (.int .u8 0), .lit (.int .u8 0), .lit (.int .u8 0), .lit (.int .u8 0), .lit (.int .u8 0), .lit (.int .u8 0), .lit (.int .u8 0), .lit (.int .u8 0), .lit (.int .u8 0), .lit (.int .u8 0), .lit (.int .u8 0), .lit (.int .u8 0), .lit (.int .u8 0), .lit (.int .u8 0), .lit (.int .u8 0), .lit (.int .u8 0), .lit (.int .u8 0), .lit (.int .u8 0), .lit (.int .u8 0), .lit (.int .u8 0), .lit (.int .u8 0), .lit (.int .u8 0)]
def laid_trickle_ast_symbols {H : Type} : DataW H := .agg [.lit (.string []), .lit (.string [45]), .lit (.string [33]), .lit (.string [43]), .lit (.string [45]), .lit (.string [42]), .lit (.string [47]), .lit (.string [37]), .lit (.string [61, 61]), .lit (.string [33, 61]), .lit (.string [60]), .lit (.string [60, 61]), .lit (.string [62]), .lit (.string [62, 61]), .lit (.string [38, 38]), .lit (.string [124, 124])]
def laid_trickle_ast_levels {H : Type} : DataW H := .agg [.lit (.int .i64 0), .lit (.int .i64 0), .lit (.int .i64 0), .lit (.int .i64 4), .lit (.int .i64 4), .lit (.int .i64 5), .lit (.int .i64 5), .lit (.int .i64 5), .lit (.int .i64 3), .lit (.int .i64 3), .lit (.int .i64 3), .lit (.int .i64 3), .lit (.int .i64 3), .lit (.int .i64 3), .lit (.int .i64 2), .lit (.int .i64 1)]
def laid_trickle_ast_statements {H : Type} : DataW H := .agg [.agg [.lit (.bool false), .lit (.bool false), .lit (.bool false), .lit (.bool false), .lit (.int .i64 0)], .agg [.lit (.bool true), .lit (.bool false), .lit (.bool false), .lit (.bool false), .lit (.int .i64 1)], .agg [.lit (.bool true), .lit (.bool false), .lit (.bool false), .lit (.bool false), .lit (.int .i64 1)], .agg [.lit (.bool true), .lit (.bool false), .lit (.bool false), .lit (.bool false), .lit (.int .i64 2)], .agg [.lit (.bool false), .lit (.bool false), .lit (.bool true), .lit (.bool true), .lit (.int .i64 1)], .agg [.lit (.bool false), .lit (.bool true), .lit (.bool true), .lit (.bool false), .lit (.int .i64 0)], .agg [.lit (.bool false), .lit (.bool false), .lit (.bool true), .lit (.bool false), .lit (.int .i64 1)], .agg [.lit (.bool true), .lit (.bool false), .lit (.bool false), .lit (.bool false), .lit (.int .i64 1)], .agg [.lit (.bool false), .lit (.bool false), .lit (.bool false), .lit (.bool false), .lit (.int .i64 1)], .agg [.lit (.bool true), .lit (.bool false), .lit (.bool false), .lit (.bool false), .lit (.int .i64 1)], .agg [.lit (.bool false), .lit (.bool true), .lit (.bool true), .lit (.bool false), .lit (.int .i64 0)], .agg [.lit (.bool false), .lit (.bool true), .lit (.bool true), .lit (.bool false), .lit (.int .i64 0)], .agg [.lit (.bool false), .lit (.bool false), .lit (.bool false), .lit (.bool false), .lit (.int .i64 0)], .agg [.lit (.bool false), .lit (.bool false), .lit (.bool false), .lit (.bool false), .lit (.int .i64 0)]]

/-- 'tricklelaw20.SimplifyExpr': WHATEVER THE INPUT: true; the input reads as it did. -/
def simplifyExprSpec : ChangeSpec := { name := "simplifyExpr", fn := fun _ => fun
  | [d1, d2] => { results := [.lit (.bool true)], args := [d1, d2] }
  | _ => none }
def simplifyExprRow : OpenClaim := { program := "ytfflfbhnedkppaagreatdoor", sum := "59ba9a57c0befdcd62b57700cd1155efb8761670495b80ff3b921df92f9c8c59", func := "trickle/tricklelaw20.SimplifyExpr", spec := "simplifyExpr", unfollowed := true, recurses := true, named := ["strings.asciiSpace", "unicode.White_Space", "trickle/ast.statements", "trickle/ast.symbols", "trickle/ast.levels", "internal/strconv.uint64pow10", "math/bits.deBruijn32tab", "math/bits.deBruijn64tab"], loops := true, apart := false, laid := [("math/bits.deBruijn32tab", laid_math_bits_deBruijn32tab), ("math/bits.deBruijn64tab", laid_math_bits_deBruijn64tab), ("internal/strconv.uint64pow10", laid_internal_strconv_uint64pow10), ("unicode.White_Space", laid_unicode_White_Space), ("strings.asciiSpace", laid_strings_asciiSpace), ("trickle/ast.symbols", laid_trickle_ast_symbols), ("trickle/ast.levels", laid_trickle_ast_levels), ("trickle/ast.statements", laid_trickle_ast_statements)] }
def SimplifyExprSaid : Prop := simplifyExprRow.holds Tryz.pinned (OpenSpec.ofChange simplifyExprSpec)

/-- ITS FALSE NEIGHBOUR: 'it returns false'. Refute it at one input. -/
def simplifyExprWrong : ChangeSpec := { name := "simplifyExpr", fn := fun _ => fun
  | [d1, d2] => { results := [.lit (.bool false)], args := [d1, d2] }
  | _ => none }
def SimplifyExprWrongFalsely : Prop := simplifyExprRow.holds Tryz.pinned (OpenSpec.ofChange simplifyExprWrong)

/-- 'tricklelaw20.SimplifyStmts': WHATEVER THE INPUT: true; the input reads as it did. -/
def simplifyStmtsSpec : ChangeSpec := { name := "simplifyStmts", fn := fun _ => fun
  | [d1, d2] => { results := [.lit (.bool true)], args := [d1, d2] }
  | _ => none }
def simplifyStmtsRow : OpenClaim := { program := "ytfflfbhnedkppaagreatdoor", sum := "59ba9a57c0befdcd62b57700cd1155efb8761670495b80ff3b921df92f9c8c59", func := "trickle/tricklelaw20.SimplifyStmts", spec := "simplifyStmts", unfollowed := true, recurses := true, named := ["strings.asciiSpace", "unicode.White_Space", "trickle/ast.statements", "trickle/ast.symbols", "trickle/ast.levels", "internal/strconv.uint64pow10", "math/bits.deBruijn32tab", "math/bits.deBruijn64tab"], loops := true, apart := false, laid := [("math/bits.deBruijn32tab", laid_math_bits_deBruijn32tab), ("math/bits.deBruijn64tab", laid_math_bits_deBruijn64tab), ("internal/strconv.uint64pow10", laid_internal_strconv_uint64pow10), ("unicode.White_Space", laid_unicode_White_Space), ("strings.asciiSpace", laid_strings_asciiSpace), ("trickle/ast.symbols", laid_trickle_ast_symbols), ("trickle/ast.levels", laid_trickle_ast_levels), ("trickle/ast.statements", laid_trickle_ast_statements)] }
def SimplifyStmtsSaid : Prop := simplifyStmtsRow.holds Tryz.pinned (OpenSpec.ofChange simplifyStmtsSpec)

/-- ITS FALSE NEIGHBOUR: 'it returns false'. Refute it at one input. -/
def simplifyStmtsWrong : ChangeSpec := { name := "simplifyStmts", fn := fun _ => fun
  | [d1, d2] => { results := [.lit (.bool false)], args := [d1, d2] }
  | _ => none }
def SimplifyStmtsWrongFalsely : Prop := simplifyStmtsRow.holds Tryz.pinned (OpenSpec.ofChange simplifyStmtsWrong)

/-- 'tricklelaw20.SimplifyConstant': WHATEVER THE INPUT: true; the input reads as it did. -/
def simplifyConstantSpec : ChangeSpec := { name := "simplifyConstant", fn := fun _ => fun
  | [d1, d2] => { results := [.lit (.bool true)], args := [d1, d2] }
  | _ => none }
def simplifyConstantRow : OpenClaim := { program := "ytfflfbhnedkppaagreatdoor", sum := "59ba9a57c0befdcd62b57700cd1155efb8761670495b80ff3b921df92f9c8c59", func := "trickle/tricklelaw20.SimplifyConstant", spec := "simplifyConstant", unfollowed := true, recurses := true, named := ["strings.asciiSpace", "unicode.White_Space", "trickle/ast.statements", "trickle/ast.symbols", "trickle/ast.levels", "internal/strconv.uint64pow10", "math/bits.deBruijn32tab", "math/bits.deBruijn64tab"], loops := true, apart := false, laid := [("math/bits.deBruijn32tab", laid_math_bits_deBruijn32tab), ("math/bits.deBruijn64tab", laid_math_bits_deBruijn64tab), ("internal/strconv.uint64pow10", laid_internal_strconv_uint64pow10), ("unicode.White_Space", laid_unicode_White_Space), ("strings.asciiSpace", laid_strings_asciiSpace), ("trickle/ast.symbols", laid_trickle_ast_symbols), ("trickle/ast.levels", laid_trickle_ast_levels), ("trickle/ast.statements", laid_trickle_ast_statements)] }
def SimplifyConstantSaid : Prop := simplifyConstantRow.holds Tryz.pinned (OpenSpec.ofChange simplifyConstantSpec)

/-- ITS FALSE NEIGHBOUR: 'it returns false'. Refute it at one input. -/
def simplifyConstantWrong : ChangeSpec := { name := "simplifyConstant", fn := fun _ => fun
  | [d1, d2] => { results := [.lit (.bool false)], args := [d1, d2] }
  | _ => none }
def SimplifyConstantWrongFalsely : Prop := simplifyConstantRow.holds Tryz.pinned (OpenSpec.ofChange simplifyConstantWrong)

/-- 'tricklelaw16.ASTFormats': WHATEVER THE INPUT: true; the input reads as it did. -/
def aSTFormatsSpec : ChangeSpec := { name := "aSTFormats", fn := fun _ => fun
  | [d] => { results := [.lit (.bool true)], args := [d] }
  | _ => none }
def aSTFormatsRow : OpenClaim := { program := "ytfflfbhnedkppaagreatdoor", sum := "59ba9a57c0befdcd62b57700cd1155efb8761670495b80ff3b921df92f9c8c59", func := "trickle/tricklelaw16.ASTFormats", spec := "aSTFormats", inPlace := ["internal/abi.NoEscape"], unfollowed := true, recurses := true, named := ["strings.asciiSpace", "unicode.White_Space", "trickle/ast.symbols", "trickle/ast.levels", "internal/strconv.uint64pow10", "math/bits.deBruijn32tab", "math/bits.deBruijn64tab", "trickle/ast.statements"], loops := true, apart := false, laid := [("math/bits.deBruijn32tab", laid_math_bits_deBruijn32tab), ("math/bits.deBruijn64tab", laid_math_bits_deBruijn64tab), ("internal/strconv.uint64pow10", laid_internal_strconv_uint64pow10), ("unicode.White_Space", laid_unicode_White_Space), ("strings.asciiSpace", laid_strings_asciiSpace), ("trickle/ast.symbols", laid_trickle_ast_symbols), ("trickle/ast.levels", laid_trickle_ast_levels), ("trickle/ast.statements", laid_trickle_ast_statements)] }
def ASTFormatsSaid : Prop := aSTFormatsRow.holds Tryz.pinned (OpenSpec.ofChange aSTFormatsSpec)

/-- ITS FALSE NEIGHBOUR: 'it returns false'. Refute it at one input. -/
def aSTFormatsWrong : ChangeSpec := { name := "aSTFormats", fn := fun _ => fun
  | [d] => { results := [.lit (.bool false)], args := [d] }
  | _ => none }
def ASTFormatsWrongFalsely : Prop := aSTFormatsRow.holds Tryz.pinned (OpenSpec.ofChange aSTFormatsWrong)

/-- 'tricklelaw16.ASTFormatsExpr': WHATEVER THE INPUT: true; the input reads as it did. -/
def aSTFormatsExprSpec : ChangeSpec := { name := "aSTFormatsExpr", fn := fun _ => fun
  | [d] => { results := [.lit (.bool true)], args := [d] }
  | _ => none }
def aSTFormatsExprRow : OpenClaim := { program := "ytfflfbhnedkppaagreatdoor", sum := "59ba9a57c0befdcd62b57700cd1155efb8761670495b80ff3b921df92f9c8c59", func := "trickle/tricklelaw16.ASTFormatsExpr", spec := "aSTFormatsExpr", inPlace := ["internal/abi.NoEscape"], unfollowed := true, recurses := true, named := ["strings.asciiSpace", "unicode.White_Space", "trickle/ast.symbols", "trickle/ast.levels", "internal/strconv.uint64pow10", "math/bits.deBruijn32tab", "math/bits.deBruijn64tab", "trickle/ast.statements"], loops := true, apart := false, laid := [("math/bits.deBruijn32tab", laid_math_bits_deBruijn32tab), ("math/bits.deBruijn64tab", laid_math_bits_deBruijn64tab), ("internal/strconv.uint64pow10", laid_internal_strconv_uint64pow10), ("unicode.White_Space", laid_unicode_White_Space), ("strings.asciiSpace", laid_strings_asciiSpace), ("trickle/ast.symbols", laid_trickle_ast_symbols), ("trickle/ast.levels", laid_trickle_ast_levels), ("trickle/ast.statements", laid_trickle_ast_statements)] }
def ASTFormatsExprSaid : Prop := aSTFormatsExprRow.holds Tryz.pinned (OpenSpec.ofChange aSTFormatsExprSpec)

/-- ITS FALSE NEIGHBOUR: 'it returns false'. Refute it at one input. -/
def aSTFormatsExprWrong : ChangeSpec := { name := "aSTFormatsExpr", fn := fun _ => fun
  | [d] => { results := [.lit (.bool false)], args := [d] }
  | _ => none }
def ASTFormatsExprWrongFalsely : Prop := aSTFormatsExprRow.holds Tryz.pinned (OpenSpec.ofChange aSTFormatsExprWrong)

/-- 'tricklelaw16.ASTWellFormed': WHATEVER THE INPUT: true; the input reads as it did. -/
def aSTWellFormedSpec : ChangeSpec := { name := "aSTWellFormed", fn := fun _ => fun
  | [d] => { results := [.lit (.bool true)], args := [d] }
  | _ => none }
def aSTWellFormedRow : OpenClaim := { program := "ytfflfbhnedkppaagreatdoor", sum := "59ba9a57c0befdcd62b57700cd1155efb8761670495b80ff3b921df92f9c8c59", func := "trickle/tricklelaw16.ASTWellFormed", spec := "aSTWellFormed", inPlace := ["internal/abi.NoEscape"], unfollowed := true, recurses := true, named := ["strings.asciiSpace", "unicode.White_Space", "trickle/ast.symbols", "trickle/ast.levels", "internal/strconv.uint64pow10", "math/bits.deBruijn32tab", "math/bits.deBruijn64tab", "trickle/ast.statements"], loops := true, apart := false, laid := [("math/bits.deBruijn32tab", laid_math_bits_deBruijn32tab), ("math/bits.deBruijn64tab", laid_math_bits_deBruijn64tab), ("internal/strconv.uint64pow10", laid_internal_strconv_uint64pow10), ("unicode.White_Space", laid_unicode_White_Space), ("strings.asciiSpace", laid_strings_asciiSpace), ("trickle/ast.symbols", laid_trickle_ast_symbols), ("trickle/ast.levels", laid_trickle_ast_levels), ("trickle/ast.statements", laid_trickle_ast_statements)] }
def ASTWellFormedSaid : Prop := aSTWellFormedRow.holds Tryz.pinned (OpenSpec.ofChange aSTWellFormedSpec)

/-- ITS FALSE NEIGHBOUR: 'it returns false'. Refute it at one input. -/
def aSTWellFormedWrong : ChangeSpec := { name := "aSTWellFormed", fn := fun _ => fun
  | [d] => { results := [.lit (.bool false)], args := [d] }
  | _ => none }
def ASTWellFormedWrongFalsely : Prop := aSTWellFormedRow.holds Tryz.pinned (OpenSpec.ofChange aSTWellFormedWrong)

/-- 'tricklelaw16.ASTEquality': WHATEVER THE INPUT: true; the input reads as it did. -/
def aSTEqualitySpec : ChangeSpec := { name := "aSTEquality", fn := fun _ => fun
  | [d1, d2] => { results := [.lit (.bool true)], args := [d1, d2] }
  | _ => none }
def aSTEqualityRow : OpenClaim := { program := "ytfflfbhnedkppaagreatdoor", sum := "59ba9a57c0befdcd62b57700cd1155efb8761670495b80ff3b921df92f9c8c59", func := "trickle/tricklelaw16.ASTEquality", spec := "aSTEquality", inPlace := ["internal/abi.NoEscape"], unfollowed := true, recurses := true, named := ["strings.asciiSpace", "unicode.White_Space", "trickle/ast.symbols", "trickle/ast.levels", "internal/strconv.uint64pow10", "math/bits.deBruijn32tab", "math/bits.deBruijn64tab", "trickle/ast.statements"], loops := true, apart := false, laid := [("math/bits.deBruijn32tab", laid_math_bits_deBruijn32tab), ("math/bits.deBruijn64tab", laid_math_bits_deBruijn64tab), ("internal/strconv.uint64pow10", laid_internal_strconv_uint64pow10), ("unicode.White_Space", laid_unicode_White_Space), ("strings.asciiSpace", laid_strings_asciiSpace), ("trickle/ast.symbols", laid_trickle_ast_symbols), ("trickle/ast.levels", laid_trickle_ast_levels), ("trickle/ast.statements", laid_trickle_ast_statements)] }
def ASTEqualitySaid : Prop := aSTEqualityRow.holds Tryz.pinned (OpenSpec.ofChange aSTEqualitySpec)

/-- ITS FALSE NEIGHBOUR: 'it returns false'. Refute it at one input. -/
def aSTEqualityWrong : ChangeSpec := { name := "aSTEquality", fn := fun _ => fun
  | [d1, d2] => { results := [.lit (.bool false)], args := [d1, d2] }
  | _ => none }
def ASTEqualityWrongFalsely : Prop := aSTEqualityRow.holds Tryz.pinned (OpenSpec.ofChange aSTEqualityWrong)

/-- 'tricklelaw16.ASTTraverses': WHATEVER THE INPUT: true; the input reads as it did. -/
def aSTTraversesSpec : ChangeSpec := { name := "aSTTraverses", fn := fun _ => fun
  | [d1, d2] => { results := [.lit (.bool true)], args := [d1, d2] }
  | _ => none }
def aSTTraversesRow : OpenClaim := { program := "ytfflfbhnedkppaagreatdoor", sum := "59ba9a57c0befdcd62b57700cd1155efb8761670495b80ff3b921df92f9c8c59", func := "trickle/tricklelaw16.ASTTraverses", spec := "aSTTraverses", inPlace := ["internal/abi.NoEscape"], unfollowed := true, recurses := true, named := ["strings.asciiSpace", "unicode.White_Space", "trickle/ast.symbols", "trickle/ast.levels", "internal/strconv.uint64pow10", "math/bits.deBruijn32tab", "math/bits.deBruijn64tab", "trickle/ast.statements"], loops := true, apart := false, laid := [("math/bits.deBruijn32tab", laid_math_bits_deBruijn32tab), ("math/bits.deBruijn64tab", laid_math_bits_deBruijn64tab), ("internal/strconv.uint64pow10", laid_internal_strconv_uint64pow10), ("unicode.White_Space", laid_unicode_White_Space), ("strings.asciiSpace", laid_strings_asciiSpace), ("trickle/ast.symbols", laid_trickle_ast_symbols), ("trickle/ast.levels", laid_trickle_ast_levels), ("trickle/ast.statements", laid_trickle_ast_statements)] }
def ASTTraversesSaid : Prop := aSTTraversesRow.holds Tryz.pinned (OpenSpec.ofChange aSTTraversesSpec)

/-- ITS FALSE NEIGHBOUR: 'it returns false'. Refute it at one input. -/
def aSTTraversesWrong : ChangeSpec := { name := "aSTTraverses", fn := fun _ => fun
  | [d1, d2] => { results := [.lit (.bool false)], args := [d1, d2] }
  | _ => none }
def ASTTraversesWrongFalsely : Prop := aSTTraversesRow.holds Tryz.pinned (OpenSpec.ofChange aSTTraversesWrong)

/-- 'tricklelaw16.ASTTextDetermines': WHATEVER THE INPUT: true; the input reads as it did. -/
def aSTTextDeterminesSpec : ChangeSpec := { name := "aSTTextDetermines", fn := fun _ => fun
  | [d1, d2] => { results := [.lit (.bool true)], args := [d1, d2] }
  | _ => none }
def aSTTextDeterminesRow : OpenClaim := { program := "ytfflfbhnedkppaagreatdoor", sum := "59ba9a57c0befdcd62b57700cd1155efb8761670495b80ff3b921df92f9c8c59", func := "trickle/tricklelaw16.ASTTextDetermines", spec := "aSTTextDetermines", inPlace := ["internal/abi.NoEscape"], unfollowed := true, recurses := true, named := ["strings.asciiSpace", "unicode.White_Space", "trickle/ast.symbols", "trickle/ast.levels", "internal/strconv.uint64pow10", "math/bits.deBruijn32tab", "math/bits.deBruijn64tab", "trickle/ast.statements"], loops := true, apart := false, laid := [("math/bits.deBruijn32tab", laid_math_bits_deBruijn32tab), ("math/bits.deBruijn64tab", laid_math_bits_deBruijn64tab), ("internal/strconv.uint64pow10", laid_internal_strconv_uint64pow10), ("unicode.White_Space", laid_unicode_White_Space), ("strings.asciiSpace", laid_strings_asciiSpace), ("trickle/ast.symbols", laid_trickle_ast_symbols), ("trickle/ast.levels", laid_trickle_ast_levels), ("trickle/ast.statements", laid_trickle_ast_statements)] }
def ASTTextDeterminesSaid : Prop := aSTTextDeterminesRow.holds Tryz.pinned (OpenSpec.ofChange aSTTextDeterminesSpec)

/-- ITS FALSE NEIGHBOUR: 'it returns false'. Refute it at one input. -/
def aSTTextDeterminesWrong : ChangeSpec := { name := "aSTTextDetermines", fn := fun _ => fun
  | [d1, d2] => { results := [.lit (.bool false)], args := [d1, d2] }
  | _ => none }
def ASTTextDeterminesWrongFalsely : Prop := aSTTextDeterminesRow.holds Tryz.pinned (OpenSpec.ofChange aSTTextDeterminesWrong)

/-- 'tricklelaw20.SimplifyProgram': WHATEVER THE INPUT: true; the input reads as it did. -/
def simplifyProgramSpec : ChangeSpec := { name := "simplifyProgram", fn := fun _ => fun
  | [d] => { results := [.lit (.bool true)], args := [d] }
  | _ => none }
def simplifyProgramRow : OpenClaim := { program := "ytfflfbhnedkppaagreatdoor", sum := "59ba9a57c0befdcd62b57700cd1155efb8761670495b80ff3b921df92f9c8c59", func := "trickle/tricklelaw20.SimplifyProgram", spec := "simplifyProgram", unfollowed := true, recurses := true, named := ["strings.asciiSpace", "unicode.White_Space", "trickle/ast.statements", "trickle/ast.symbols", "trickle/ast.levels", "internal/strconv.uint64pow10", "math/bits.deBruijn32tab", "math/bits.deBruijn64tab"], loops := true, apart := false, laid := [("math/bits.deBruijn32tab", laid_math_bits_deBruijn32tab), ("math/bits.deBruijn64tab", laid_math_bits_deBruijn64tab), ("internal/strconv.uint64pow10", laid_internal_strconv_uint64pow10), ("unicode.White_Space", laid_unicode_White_Space), ("strings.asciiSpace", laid_strings_asciiSpace), ("trickle/ast.symbols", laid_trickle_ast_symbols), ("trickle/ast.levels", laid_trickle_ast_levels), ("trickle/ast.statements", laid_trickle_ast_statements)] }
def SimplifyProgramSaid : Prop := simplifyProgramRow.holds Tryz.pinned (OpenSpec.ofChange simplifyProgramSpec)

/-- ITS FALSE NEIGHBOUR: 'it returns false'. Refute it at one input. -/
def simplifyProgramWrong : ChangeSpec := { name := "simplifyProgram", fn := fun _ => fun
  | [d] => { results := [.lit (.bool false)], args := [d] }
  | _ => none }
def SimplifyProgramWrongFalsely : Prop := simplifyProgramRow.holds Tryz.pinned (OpenSpec.ofChange simplifyProgramWrong)

/-- 'tricklelaw20.SimplifyIsIdempotent': WHATEVER THE INPUT: true; the input reads as it did. -/
def simplifyIsIdempotentSpec : ChangeSpec := { name := "simplifyIsIdempotent", fn := fun _ => fun
  | [d] => { results := [.lit (.bool true)], args := [d] }
  | _ => none }
def simplifyIsIdempotentRow : OpenClaim := { program := "ytfflfbhnedkppaagreatdoor", sum := "59ba9a57c0befdcd62b57700cd1155efb8761670495b80ff3b921df92f9c8c59", func := "trickle/tricklelaw20.SimplifyIsIdempotent", spec := "simplifyIsIdempotent", unfollowed := true, recurses := true, named := ["strings.asciiSpace", "unicode.White_Space", "trickle/ast.statements", "trickle/ast.symbols", "trickle/ast.levels", "internal/strconv.uint64pow10", "math/bits.deBruijn32tab", "math/bits.deBruijn64tab"], loops := true, apart := false, laid := [("math/bits.deBruijn32tab", laid_math_bits_deBruijn32tab), ("math/bits.deBruijn64tab", laid_math_bits_deBruijn64tab), ("internal/strconv.uint64pow10", laid_internal_strconv_uint64pow10), ("unicode.White_Space", laid_unicode_White_Space), ("strings.asciiSpace", laid_strings_asciiSpace), ("trickle/ast.symbols", laid_trickle_ast_symbols), ("trickle/ast.levels", laid_trickle_ast_levels), ("trickle/ast.statements", laid_trickle_ast_statements)] }
def SimplifyIsIdempotentSaid : Prop := simplifyIsIdempotentRow.holds Tryz.pinned (OpenSpec.ofChange simplifyIsIdempotentSpec)

/-- ITS FALSE NEIGHBOUR: 'it returns false'. Refute it at one input. -/
def simplifyIsIdempotentWrong : ChangeSpec := { name := "simplifyIsIdempotent", fn := fun _ => fun
  | [d] => { results := [.lit (.bool false)], args := [d] }
  | _ => none }
def SimplifyIsIdempotentWrongFalsely : Prop := simplifyIsIdempotentRow.holds Tryz.pinned (OpenSpec.ofChange simplifyIsIdempotentWrong)

/-- 'tricklelaw16.ASTStrips': WHATEVER THE INPUT: true; the input reads as it did. -/
def aSTStripsSpec : ChangeSpec := { name := "aSTStrips", fn := fun _ => fun
  | [d] => { results := [.lit (.bool true)], args := [d] }
  | _ => none }
def aSTStripsRow : OpenClaim := { program := "ytfflfbhnedkppaagreatdoor", sum := "59ba9a57c0befdcd62b57700cd1155efb8761670495b80ff3b921df92f9c8c59", func := "trickle/tricklelaw16.ASTStrips", spec := "aSTStrips", inPlace := ["internal/abi.NoEscape"], unfollowed := true, recurses := true, named := ["strings.asciiSpace", "unicode.White_Space", "trickle/ast.symbols", "trickle/ast.levels", "internal/strconv.uint64pow10", "math/bits.deBruijn32tab", "math/bits.deBruijn64tab", "trickle/ast.statements"], loops := true, apart := false, laid := [("math/bits.deBruijn32tab", laid_math_bits_deBruijn32tab), ("math/bits.deBruijn64tab", laid_math_bits_deBruijn64tab), ("internal/strconv.uint64pow10", laid_internal_strconv_uint64pow10), ("unicode.White_Space", laid_unicode_White_Space), ("strings.asciiSpace", laid_strings_asciiSpace), ("trickle/ast.symbols", laid_trickle_ast_symbols), ("trickle/ast.levels", laid_trickle_ast_levels), ("trickle/ast.statements", laid_trickle_ast_statements)] }
def ASTStripsSaid : Prop := aSTStripsRow.holds Tryz.pinned (OpenSpec.ofChange aSTStripsSpec)

/-- ITS FALSE NEIGHBOUR: 'it returns false'. Refute it at one input. -/
def aSTStripsWrong : ChangeSpec := { name := "aSTStrips", fn := fun _ => fun
  | [d] => { results := [.lit (.bool false)], args := [d] }
  | _ => none }
def ASTStripsWrongFalsely : Prop := aSTStripsRow.holds Tryz.pinned (OpenSpec.ofChange aSTStripsWrong)

/-- 'tricklelaw20.SimplifyPreservesValues': WHATEVER THE INPUT: true; the input reads as it did. -/
def simplifyPreservesValuesSpec : ChangeSpec := { name := "simplifyPreservesValues", fn := fun _ => fun
  | [d1, d2, d3] => { results := [.lit (.bool true)], args := [d1, d2, d3] }
  | _ => none }
def simplifyPreservesValuesRow : OpenClaim := { program := "ytfflfbhnedkppaagreatdoor", sum := "59ba9a57c0befdcd62b57700cd1155efb8761670495b80ff3b921df92f9c8c59", func := "trickle/tricklelaw20.SimplifyPreservesValues", spec := "simplifyPreservesValues", unfollowed := true, recurses := true, named := ["strings.asciiSpace", "unicode.White_Space", "trickle/ast.statements", "trickle/ast.symbols", "trickle/ast.levels", "internal/strconv.uint64pow10", "math/bits.deBruijn32tab", "math/bits.deBruijn64tab"], loops := true, apart := false, laid := [("math/bits.deBruijn32tab", laid_math_bits_deBruijn32tab), ("math/bits.deBruijn64tab", laid_math_bits_deBruijn64tab), ("internal/strconv.uint64pow10", laid_internal_strconv_uint64pow10), ("unicode.White_Space", laid_unicode_White_Space), ("strings.asciiSpace", laid_strings_asciiSpace), ("trickle/ast.symbols", laid_trickle_ast_symbols), ("trickle/ast.levels", laid_trickle_ast_levels), ("trickle/ast.statements", laid_trickle_ast_statements)] }
def SimplifyPreservesValuesSaid : Prop := simplifyPreservesValuesRow.holds Tryz.pinned (OpenSpec.ofChange simplifyPreservesValuesSpec)

/-- ITS FALSE NEIGHBOUR: 'it returns false'. Refute it at one input. -/
def simplifyPreservesValuesWrong : ChangeSpec := { name := "simplifyPreservesValues", fn := fun _ => fun
  | [d1, d2, d3] => { results := [.lit (.bool false)], args := [d1, d2, d3] }
  | _ => none }
def SimplifyPreservesValuesWrongFalsely : Prop := simplifyPreservesValuesRow.holds Tryz.pinned (OpenSpec.ofChange simplifyPreservesValuesWrong)

/-- 'tricklelaw20.SimplifyPreservesRuns': WHATEVER THE INPUT: true; the input reads as it did. -/
def simplifyPreservesRunsSpec : ChangeSpec := { name := "simplifyPreservesRuns", fn := fun _ => fun
  | [d1, d2] => { results := [.lit (.bool true)], args := [d1, d2] }
  | _ => none }
def simplifyPreservesRunsRow : OpenClaim := { program := "ytfflfbhnedkppaagreatdoor", sum := "59ba9a57c0befdcd62b57700cd1155efb8761670495b80ff3b921df92f9c8c59", func := "trickle/tricklelaw20.SimplifyPreservesRuns", spec := "simplifyPreservesRuns", unfollowed := true, recurses := true, named := ["strings.asciiSpace", "unicode.White_Space", "trickle/ast.statements", "trickle/ast.symbols", "trickle/ast.levels", "internal/strconv.uint64pow10", "math/bits.deBruijn32tab", "math/bits.deBruijn64tab"], loops := true, apart := false, laid := [("math/bits.deBruijn32tab", laid_math_bits_deBruijn32tab), ("math/bits.deBruijn64tab", laid_math_bits_deBruijn64tab), ("internal/strconv.uint64pow10", laid_internal_strconv_uint64pow10), ("unicode.White_Space", laid_unicode_White_Space), ("strings.asciiSpace", laid_strings_asciiSpace), ("trickle/ast.symbols", laid_trickle_ast_symbols), ("trickle/ast.levels", laid_trickle_ast_levels), ("trickle/ast.statements", laid_trickle_ast_statements)] }
def SimplifyPreservesRunsSaid : Prop := simplifyPreservesRunsRow.holds Tryz.pinned (OpenSpec.ofChange simplifyPreservesRunsSpec)

/-- ITS FALSE NEIGHBOUR: 'it returns false'. Refute it at one input. -/
def simplifyPreservesRunsWrong : ChangeSpec := { name := "simplifyPreservesRuns", fn := fun _ => fun
  | [d1, d2] => { results := [.lit (.bool false)], args := [d1, d2] }
  | _ => none }
def SimplifyPreservesRunsWrongFalsely : Prop := simplifyPreservesRunsRow.holds Tryz.pinned (OpenSpec.ofChange simplifyPreservesRunsWrong)

/- THE SECOND FORM. 'bulk': how many values and letters a reading holds, each counted each time it is reached (what is shared counts as often as it is met; a slice's spare places count too). A statement '..UptoSaid' is the law's where the arguments, and the package variables that the reading takes, are together of bulk at most 1048576: NARROWER than '..Said'. Prove '..Said' where nothing that the law and all that it calls make is longer than what came in: it says more and counts as full. Else prove '..UptoSaid'. A law counts once. -/
mutual
def uptoBulk {H : Type} : DataW H → Nat
  | .lit (.string bytes) => bytes.length + 1
  | .lit _ => 1
  | .nil => 1
  | .ptr d => uptoBulk d + 1
  | .slice elems spare => uptoBulkAll elems + uptoBulkAll spare + 1
  | .agg parts => uptoBulkAll parts + 1
  | .iface _ d => uptoBulk d + 1
  | .map entries => uptoBulkEntries entries + 1
  | .held _ => 1
def uptoBulkAll {H : Type} : List (DataW H) → Nat
  | [] => 0
  | d :: r => uptoBulk d + uptoBulkAll r
def uptoBulkEntries {H : Type} : List (Lit × DataW H) → Nat
  | [] => 0
  | x :: r => uptoBulkEntry x + uptoBulkEntries r
def uptoBulkEntry {H : Type} : Lit × DataW H → Nat
  | (.string bytes, d) => bytes.length + uptoBulk d + 1
  | (_, d) => uptoBulk d + 1
 end
def uptoSmall : (H : Type) → List (DataW H) → Bool := fun _ ds => decide (uptoBulkAll ds ≤ 1048576)
def OpenSpec.upto (s : _root_.Go.ChangeSpec) : _root_.Go.OpenSpec := { _root_.Go.OpenSpec.ofChange s with cond := some uptoSmall }

/-- 'tricklelaw20.SimplifyExpr', WHERE WHAT IT READS IS OF BULK AT MOST 1048576: true; the input reads as it did. -/
def simplifyExprUptoRow : OpenClaim := { program := "ytfflfbhnedkppaagreatdoor", sum := "59ba9a57c0befdcd62b57700cd1155efb8761670495b80ff3b921df92f9c8c59", func := "trickle/tricklelaw20.SimplifyExpr", spec := "simplifyExpr", unfollowed := true, recurses := true, named := ["strings.asciiSpace", "unicode.White_Space", "trickle/ast.statements", "trickle/ast.symbols", "trickle/ast.levels", "internal/strconv.uint64pow10", "math/bits.deBruijn32tab", "math/bits.deBruijn64tab"], loops := true, apart := false, laid := [("math/bits.deBruijn32tab", laid_math_bits_deBruijn32tab), ("math/bits.deBruijn64tab", laid_math_bits_deBruijn64tab), ("internal/strconv.uint64pow10", laid_internal_strconv_uint64pow10), ("unicode.White_Space", laid_unicode_White_Space), ("strings.asciiSpace", laid_strings_asciiSpace), ("trickle/ast.symbols", laid_trickle_ast_symbols), ("trickle/ast.levels", laid_trickle_ast_levels), ("trickle/ast.statements", laid_trickle_ast_statements)], narrowed := true }
def SimplifyExprUptoSaid : Prop := simplifyExprUptoRow.holds Tryz.pinned (OpenSpec.upto simplifyExprSpec)

/-- 'tricklelaw20.SimplifyStmts', WHERE WHAT IT READS IS OF BULK AT MOST 1048576: true; the input reads as it did. -/
def simplifyStmtsUptoRow : OpenClaim := { program := "ytfflfbhnedkppaagreatdoor", sum := "59ba9a57c0befdcd62b57700cd1155efb8761670495b80ff3b921df92f9c8c59", func := "trickle/tricklelaw20.SimplifyStmts", spec := "simplifyStmts", unfollowed := true, recurses := true, named := ["strings.asciiSpace", "unicode.White_Space", "trickle/ast.statements", "trickle/ast.symbols", "trickle/ast.levels", "internal/strconv.uint64pow10", "math/bits.deBruijn32tab", "math/bits.deBruijn64tab"], loops := true, apart := false, laid := [("math/bits.deBruijn32tab", laid_math_bits_deBruijn32tab), ("math/bits.deBruijn64tab", laid_math_bits_deBruijn64tab), ("internal/strconv.uint64pow10", laid_internal_strconv_uint64pow10), ("unicode.White_Space", laid_unicode_White_Space), ("strings.asciiSpace", laid_strings_asciiSpace), ("trickle/ast.symbols", laid_trickle_ast_symbols), ("trickle/ast.levels", laid_trickle_ast_levels), ("trickle/ast.statements", laid_trickle_ast_statements)], narrowed := true }
def SimplifyStmtsUptoSaid : Prop := simplifyStmtsUptoRow.holds Tryz.pinned (OpenSpec.upto simplifyStmtsSpec)

/-- 'tricklelaw20.SimplifyConstant', WHERE WHAT IT READS IS OF BULK AT MOST 1048576: true; the input reads as it did. -/
def simplifyConstantUptoRow : OpenClaim := { program := "ytfflfbhnedkppaagreatdoor", sum := "59ba9a57c0befdcd62b57700cd1155efb8761670495b80ff3b921df92f9c8c59", func := "trickle/tricklelaw20.SimplifyConstant", spec := "simplifyConstant", unfollowed := true, recurses := true, named := ["strings.asciiSpace", "unicode.White_Space", "trickle/ast.statements", "trickle/ast.symbols", "trickle/ast.levels", "internal/strconv.uint64pow10", "math/bits.deBruijn32tab", "math/bits.deBruijn64tab"], loops := true, apart := false, laid := [("math/bits.deBruijn32tab", laid_math_bits_deBruijn32tab), ("math/bits.deBruijn64tab", laid_math_bits_deBruijn64tab), ("internal/strconv.uint64pow10", laid_internal_strconv_uint64pow10), ("unicode.White_Space", laid_unicode_White_Space), ("strings.asciiSpace", laid_strings_asciiSpace), ("trickle/ast.symbols", laid_trickle_ast_symbols), ("trickle/ast.levels", laid_trickle_ast_levels), ("trickle/ast.statements", laid_trickle_ast_statements)], narrowed := true }
def SimplifyConstantUptoSaid : Prop := simplifyConstantUptoRow.holds Tryz.pinned (OpenSpec.upto simplifyConstantSpec)

/-- 'tricklelaw16.ASTFormats', WHERE WHAT IT READS IS OF BULK AT MOST 1048576: true; the input reads as it did. -/
def aSTFormatsUptoRow : OpenClaim := { program := "ytfflfbhnedkppaagreatdoor", sum := "59ba9a57c0befdcd62b57700cd1155efb8761670495b80ff3b921df92f9c8c59", func := "trickle/tricklelaw16.ASTFormats", spec := "aSTFormats", inPlace := ["internal/abi.NoEscape"], unfollowed := true, recurses := true, named := ["strings.asciiSpace", "unicode.White_Space", "trickle/ast.symbols", "trickle/ast.levels", "internal/strconv.uint64pow10", "math/bits.deBruijn32tab", "math/bits.deBruijn64tab", "trickle/ast.statements"], loops := true, apart := false, laid := [("math/bits.deBruijn32tab", laid_math_bits_deBruijn32tab), ("math/bits.deBruijn64tab", laid_math_bits_deBruijn64tab), ("internal/strconv.uint64pow10", laid_internal_strconv_uint64pow10), ("unicode.White_Space", laid_unicode_White_Space), ("strings.asciiSpace", laid_strings_asciiSpace), ("trickle/ast.symbols", laid_trickle_ast_symbols), ("trickle/ast.levels", laid_trickle_ast_levels), ("trickle/ast.statements", laid_trickle_ast_statements)], narrowed := true }
def ASTFormatsUptoSaid : Prop := aSTFormatsUptoRow.holds Tryz.pinned (OpenSpec.upto aSTFormatsSpec)

/-- 'tricklelaw16.ASTFormatsExpr', WHERE WHAT IT READS IS OF BULK AT MOST 1048576: true; the input reads as it did. -/
def aSTFormatsExprUptoRow : OpenClaim := { program := "ytfflfbhnedkppaagreatdoor", sum := "59ba9a57c0befdcd62b57700cd1155efb8761670495b80ff3b921df92f9c8c59", func := "trickle/tricklelaw16.ASTFormatsExpr", spec := "aSTFormatsExpr", inPlace := ["internal/abi.NoEscape"], unfollowed := true, recurses := true, named := ["strings.asciiSpace", "unicode.White_Space", "trickle/ast.symbols", "trickle/ast.levels", "internal/strconv.uint64pow10", "math/bits.deBruijn32tab", "math/bits.deBruijn64tab", "trickle/ast.statements"], loops := true, apart := false, laid := [("math/bits.deBruijn32tab", laid_math_bits_deBruijn32tab), ("math/bits.deBruijn64tab", laid_math_bits_deBruijn64tab), ("internal/strconv.uint64pow10", laid_internal_strconv_uint64pow10), ("unicode.White_Space", laid_unicode_White_Space), ("strings.asciiSpace", laid_strings_asciiSpace), ("trickle/ast.symbols", laid_trickle_ast_symbols), ("trickle/ast.levels", laid_trickle_ast_levels), ("trickle/ast.statements", laid_trickle_ast_statements)], narrowed := true }
def ASTFormatsExprUptoSaid : Prop := aSTFormatsExprUptoRow.holds Tryz.pinned (OpenSpec.upto aSTFormatsExprSpec)

/-- 'tricklelaw16.ASTWellFormed', WHERE WHAT IT READS IS OF BULK AT MOST 1048576: true; the input reads as it did. -/
def aSTWellFormedUptoRow : OpenClaim := { program := "ytfflfbhnedkppaagreatdoor", sum := "59ba9a57c0befdcd62b57700cd1155efb8761670495b80ff3b921df92f9c8c59", func := "trickle/tricklelaw16.ASTWellFormed", spec := "aSTWellFormed", inPlace := ["internal/abi.NoEscape"], unfollowed := true, recurses := true, named := ["strings.asciiSpace", "unicode.White_Space", "trickle/ast.symbols", "trickle/ast.levels", "internal/strconv.uint64pow10", "math/bits.deBruijn32tab", "math/bits.deBruijn64tab", "trickle/ast.statements"], loops := true, apart := false, laid := [("math/bits.deBruijn32tab", laid_math_bits_deBruijn32tab), ("math/bits.deBruijn64tab", laid_math_bits_deBruijn64tab), ("internal/strconv.uint64pow10", laid_internal_strconv_uint64pow10), ("unicode.White_Space", laid_unicode_White_Space), ("strings.asciiSpace", laid_strings_asciiSpace), ("trickle/ast.symbols", laid_trickle_ast_symbols), ("trickle/ast.levels", laid_trickle_ast_levels), ("trickle/ast.statements", laid_trickle_ast_statements)], narrowed := true }
def ASTWellFormedUptoSaid : Prop := aSTWellFormedUptoRow.holds Tryz.pinned (OpenSpec.upto aSTWellFormedSpec)

/-- 'tricklelaw16.ASTEquality', WHERE WHAT IT READS IS OF BULK AT MOST 1048576: true; the input reads as it did. -/
def aSTEqualityUptoRow : OpenClaim := { program := "ytfflfbhnedkppaagreatdoor", sum := "59ba9a57c0befdcd62b57700cd1155efb8761670495b80ff3b921df92f9c8c59", func := "trickle/tricklelaw16.ASTEquality", spec := "aSTEquality", inPlace := ["internal/abi.NoEscape"], unfollowed := true, recurses := true, named := ["strings.asciiSpace", "unicode.White_Space", "trickle/ast.symbols", "trickle/ast.levels", "internal/strconv.uint64pow10", "math/bits.deBruijn32tab", "math/bits.deBruijn64tab", "trickle/ast.statements"], loops := true, apart := false, laid := [("math/bits.deBruijn32tab", laid_math_bits_deBruijn32tab), ("math/bits.deBruijn64tab", laid_math_bits_deBruijn64tab), ("internal/strconv.uint64pow10", laid_internal_strconv_uint64pow10), ("unicode.White_Space", laid_unicode_White_Space), ("strings.asciiSpace", laid_strings_asciiSpace), ("trickle/ast.symbols", laid_trickle_ast_symbols), ("trickle/ast.levels", laid_trickle_ast_levels), ("trickle/ast.statements", laid_trickle_ast_statements)], narrowed := true }
def ASTEqualityUptoSaid : Prop := aSTEqualityUptoRow.holds Tryz.pinned (OpenSpec.upto aSTEqualitySpec)

/-- 'tricklelaw16.ASTTraverses', WHERE WHAT IT READS IS OF BULK AT MOST 1048576: true; the input reads as it did. -/
def aSTTraversesUptoRow : OpenClaim := { program := "ytfflfbhnedkppaagreatdoor", sum := "59ba9a57c0befdcd62b57700cd1155efb8761670495b80ff3b921df92f9c8c59", func := "trickle/tricklelaw16.ASTTraverses", spec := "aSTTraverses", inPlace := ["internal/abi.NoEscape"], unfollowed := true, recurses := true, named := ["strings.asciiSpace", "unicode.White_Space", "trickle/ast.symbols", "trickle/ast.levels", "internal/strconv.uint64pow10", "math/bits.deBruijn32tab", "math/bits.deBruijn64tab", "trickle/ast.statements"], loops := true, apart := false, laid := [("math/bits.deBruijn32tab", laid_math_bits_deBruijn32tab), ("math/bits.deBruijn64tab", laid_math_bits_deBruijn64tab), ("internal/strconv.uint64pow10", laid_internal_strconv_uint64pow10), ("unicode.White_Space", laid_unicode_White_Space), ("strings.asciiSpace", laid_strings_asciiSpace), ("trickle/ast.symbols", laid_trickle_ast_symbols), ("trickle/ast.levels", laid_trickle_ast_levels), ("trickle/ast.statements", laid_trickle_ast_statements)], narrowed := true }
def ASTTraversesUptoSaid : Prop := aSTTraversesUptoRow.holds Tryz.pinned (OpenSpec.upto aSTTraversesSpec)

/-- 'tricklelaw16.ASTTextDetermines', WHERE WHAT IT READS IS OF BULK AT MOST 1048576: true; the input reads as it did. -/
def aSTTextDeterminesUptoRow : OpenClaim := { program := "ytfflfbhnedkppaagreatdoor", sum := "59ba9a57c0befdcd62b57700cd1155efb8761670495b80ff3b921df92f9c8c59", func := "trickle/tricklelaw16.ASTTextDetermines", spec := "aSTTextDetermines", inPlace := ["internal/abi.NoEscape"], unfollowed := true, recurses := true, named := ["strings.asciiSpace", "unicode.White_Space", "trickle/ast.symbols", "trickle/ast.levels", "internal/strconv.uint64pow10", "math/bits.deBruijn32tab", "math/bits.deBruijn64tab", "trickle/ast.statements"], loops := true, apart := false, laid := [("math/bits.deBruijn32tab", laid_math_bits_deBruijn32tab), ("math/bits.deBruijn64tab", laid_math_bits_deBruijn64tab), ("internal/strconv.uint64pow10", laid_internal_strconv_uint64pow10), ("unicode.White_Space", laid_unicode_White_Space), ("strings.asciiSpace", laid_strings_asciiSpace), ("trickle/ast.symbols", laid_trickle_ast_symbols), ("trickle/ast.levels", laid_trickle_ast_levels), ("trickle/ast.statements", laid_trickle_ast_statements)], narrowed := true }
def ASTTextDeterminesUptoSaid : Prop := aSTTextDeterminesUptoRow.holds Tryz.pinned (OpenSpec.upto aSTTextDeterminesSpec)

/-- 'tricklelaw20.SimplifyProgram', WHERE WHAT IT READS IS OF BULK AT MOST 1048576: true; the input reads as it did. -/
def simplifyProgramUptoRow : OpenClaim := { program := "ytfflfbhnedkppaagreatdoor", sum := "59ba9a57c0befdcd62b57700cd1155efb8761670495b80ff3b921df92f9c8c59", func := "trickle/tricklelaw20.SimplifyProgram", spec := "simplifyProgram", unfollowed := true, recurses := true, named := ["strings.asciiSpace", "unicode.White_Space", "trickle/ast.statements", "trickle/ast.symbols", "trickle/ast.levels", "internal/strconv.uint64pow10", "math/bits.deBruijn32tab", "math/bits.deBruijn64tab"], loops := true, apart := false, laid := [("math/bits.deBruijn32tab", laid_math_bits_deBruijn32tab), ("math/bits.deBruijn64tab", laid_math_bits_deBruijn64tab), ("internal/strconv.uint64pow10", laid_internal_strconv_uint64pow10), ("unicode.White_Space", laid_unicode_White_Space), ("strings.asciiSpace", laid_strings_asciiSpace), ("trickle/ast.symbols", laid_trickle_ast_symbols), ("trickle/ast.levels", laid_trickle_ast_levels), ("trickle/ast.statements", laid_trickle_ast_statements)], narrowed := true }
def SimplifyProgramUptoSaid : Prop := simplifyProgramUptoRow.holds Tryz.pinned (OpenSpec.upto simplifyProgramSpec)

/-- 'tricklelaw20.SimplifyIsIdempotent', WHERE WHAT IT READS IS OF BULK AT MOST 1048576: true; the input reads as it did. -/
def simplifyIsIdempotentUptoRow : OpenClaim := { program := "ytfflfbhnedkppaagreatdoor", sum := "59ba9a57c0befdcd62b57700cd1155efb8761670495b80ff3b921df92f9c8c59", func := "trickle/tricklelaw20.SimplifyIsIdempotent", spec := "simplifyIsIdempotent", unfollowed := true, recurses := true, named := ["strings.asciiSpace", "unicode.White_Space", "trickle/ast.statements", "trickle/ast.symbols", "trickle/ast.levels", "internal/strconv.uint64pow10", "math/bits.deBruijn32tab", "math/bits.deBruijn64tab"], loops := true, apart := false, laid := [("math/bits.deBruijn32tab", laid_math_bits_deBruijn32tab), ("math/bits.deBruijn64tab", laid_math_bits_deBruijn64tab), ("internal/strconv.uint64pow10", laid_internal_strconv_uint64pow10), ("unicode.White_Space", laid_unicode_White_Space), ("strings.asciiSpace", laid_strings_asciiSpace), ("trickle/ast.symbols", laid_trickle_ast_symbols), ("trickle/ast.levels", laid_trickle_ast_levels), ("trickle/ast.statements", laid_trickle_ast_statements)], narrowed := true }
def SimplifyIsIdempotentUptoSaid : Prop := simplifyIsIdempotentUptoRow.holds Tryz.pinned (OpenSpec.upto simplifyIsIdempotentSpec)

/-- 'tricklelaw16.ASTStrips', WHERE WHAT IT READS IS OF BULK AT MOST 1048576: true; the input reads as it did. -/
def aSTStripsUptoRow : OpenClaim := { program := "ytfflfbhnedkppaagreatdoor", sum := "59ba9a57c0befdcd62b57700cd1155efb8761670495b80ff3b921df92f9c8c59", func := "trickle/tricklelaw16.ASTStrips", spec := "aSTStrips", inPlace := ["internal/abi.NoEscape"], unfollowed := true, recurses := true, named := ["strings.asciiSpace", "unicode.White_Space", "trickle/ast.symbols", "trickle/ast.levels", "internal/strconv.uint64pow10", "math/bits.deBruijn32tab", "math/bits.deBruijn64tab", "trickle/ast.statements"], loops := true, apart := false, laid := [("math/bits.deBruijn32tab", laid_math_bits_deBruijn32tab), ("math/bits.deBruijn64tab", laid_math_bits_deBruijn64tab), ("internal/strconv.uint64pow10", laid_internal_strconv_uint64pow10), ("unicode.White_Space", laid_unicode_White_Space), ("strings.asciiSpace", laid_strings_asciiSpace), ("trickle/ast.symbols", laid_trickle_ast_symbols), ("trickle/ast.levels", laid_trickle_ast_levels), ("trickle/ast.statements", laid_trickle_ast_statements)], narrowed := true }
def ASTStripsUptoSaid : Prop := aSTStripsUptoRow.holds Tryz.pinned (OpenSpec.upto aSTStripsSpec)

/-- 'tricklelaw20.SimplifyPreservesValues', WHERE WHAT IT READS IS OF BULK AT MOST 1048576: true; the input reads as it did. -/
def simplifyPreservesValuesUptoRow : OpenClaim := { program := "ytfflfbhnedkppaagreatdoor", sum := "59ba9a57c0befdcd62b57700cd1155efb8761670495b80ff3b921df92f9c8c59", func := "trickle/tricklelaw20.SimplifyPreservesValues", spec := "simplifyPreservesValues", unfollowed := true, recurses := true, named := ["strings.asciiSpace", "unicode.White_Space", "trickle/ast.statements", "trickle/ast.symbols", "trickle/ast.levels", "internal/strconv.uint64pow10", "math/bits.deBruijn32tab", "math/bits.deBruijn64tab"], loops := true, apart := false, laid := [("math/bits.deBruijn32tab", laid_math_bits_deBruijn32tab), ("math/bits.deBruijn64tab", laid_math_bits_deBruijn64tab), ("internal/strconv.uint64pow10", laid_internal_strconv_uint64pow10), ("unicode.White_Space", laid_unicode_White_Space), ("strings.asciiSpace", laid_strings_asciiSpace), ("trickle/ast.symbols", laid_trickle_ast_symbols), ("trickle/ast.levels", laid_trickle_ast_levels), ("trickle/ast.statements", laid_trickle_ast_statements)], narrowed := true }
def SimplifyPreservesValuesUptoSaid : Prop := simplifyPreservesValuesUptoRow.holds Tryz.pinned (OpenSpec.upto simplifyPreservesValuesSpec)

/-- 'tricklelaw20.SimplifyPreservesRuns', WHERE WHAT IT READS IS OF BULK AT MOST 1048576: true; the input reads as it did. -/
def simplifyPreservesRunsUptoRow : OpenClaim := { program := "ytfflfbhnedkppaagreatdoor", sum := "59ba9a57c0befdcd62b57700cd1155efb8761670495b80ff3b921df92f9c8c59", func := "trickle/tricklelaw20.SimplifyPreservesRuns", spec := "simplifyPreservesRuns", unfollowed := true, recurses := true, named := ["strings.asciiSpace", "unicode.White_Space", "trickle/ast.statements", "trickle/ast.symbols", "trickle/ast.levels", "internal/strconv.uint64pow10", "math/bits.deBruijn32tab", "math/bits.deBruijn64tab"], loops := true, apart := false, laid := [("math/bits.deBruijn32tab", laid_math_bits_deBruijn32tab), ("math/bits.deBruijn64tab", laid_math_bits_deBruijn64tab), ("internal/strconv.uint64pow10", laid_internal_strconv_uint64pow10), ("unicode.White_Space", laid_unicode_White_Space), ("strings.asciiSpace", laid_strings_asciiSpace), ("trickle/ast.symbols", laid_trickle_ast_symbols), ("trickle/ast.levels", laid_trickle_ast_levels), ("trickle/ast.statements", laid_trickle_ast_statements)], narrowed := true }
def SimplifyPreservesRunsUptoSaid : Prop := simplifyPreservesRunsUptoRow.holds Tryz.pinned (OpenSpec.upto simplifyPreservesRunsSpec)

end Rows
end Go.Proofs.YtfflfbhnedkppaaGreatDoor
