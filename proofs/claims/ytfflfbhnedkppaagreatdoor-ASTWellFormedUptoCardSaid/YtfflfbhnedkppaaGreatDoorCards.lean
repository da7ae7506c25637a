/-
  DERIVED. GIVEN WITH THE SEED: THE CARDS: each row of YtfflfbhnedkppaaGreatDoorRows.lean that lists a variable, with what it lists TIED to the program's text (the seventh form; the later family's looks); each row that meets fmt, with fmt's text TOLD by the authors' own Lean function (tested against real Go, not proved from fmt's source: count such statements apart). THE CARD IS WHAT COUNTS. Prove the row's statement (the work); the ties are given (YtfflfbhnedkppaaGreatDoorTie.lean); close each card by the builder's one call (the guide's Derived/Test/ToyasCard.lean, 'card_holds'). Laid BY PROGRAM, IN A SANDBOX (cutbox-door.mjs). By AI agents, Wed Nov 11 2026. No macro, syntax, notation, axiom, sorry.
-/
import Derived.Test.YtfflfbhnedkppaaGreatDoorRows
import GoSem.ClaimSeven
namespace Go.Proofs.YtfflfbhnedkppaaGreatDoor
namespace Rows

/-- THE TIED CARD OF 'tricklelaw20.SimplifyExpr'. -/
def simplifyExprCard : Claim7 := { stood := { row := simplifyExprRow, standIns := [], harness := (true, "1184cbc6cb24491c436a81285fd5de47f072f6651ef1c675230f16b7032f65e8"), looks := false }, kinds := [], alts := [], laidByText := true, laidKinds := [.data, .data, .data, .listed, .data, .data, .data, .data], laidTests := true, laidLooks := .later }
def SimplifyExprCardSaid : Prop := Claim7.holds Tryz.pinned (.plain (OpenSpec.ofChange simplifyExprSpec)) simplifyExprCard

/-- THE TIED CARD OF 'tricklelaw20.SimplifyStmts'. -/
def simplifyStmtsCard : Claim7 := { stood := { row := simplifyStmtsRow, standIns := [], harness := (true, "1184cbc6cb24491c436a81285fd5de47f072f6651ef1c675230f16b7032f65e8"), looks := false }, kinds := [], alts := [], laidByText := true, laidKinds := [.data, .data, .data, .listed, .data, .data, .data, .data], laidTests := true, laidLooks := .later }
def SimplifyStmtsCardSaid : Prop := Claim7.holds Tryz.pinned (.plain (OpenSpec.ofChange simplifyStmtsSpec)) simplifyStmtsCard

/-- THE TIED CARD OF 'tricklelaw20.SimplifyConstant'. -/
def simplifyConstantCard : Claim7 := { stood := { row := simplifyConstantRow, standIns := [], harness := (true, "1184cbc6cb24491c436a81285fd5de47f072f6651ef1c675230f16b7032f65e8"), looks := false }, kinds := [], alts := [], laidByText := true, laidKinds := [.data, .data, .data, .listed, .data, .data, .data, .data], laidTests := true, laidLooks := .later }
def SimplifyConstantCardSaid : Prop := Claim7.holds Tryz.pinned (.plain (OpenSpec.ofChange simplifyConstantSpec)) simplifyConstantCard

/-- THE TIED CARD OF 'tricklelaw16.ASTFormats'. -/
def aSTFormatsCard : Claim7 := { stood := { row := aSTFormatsRow, standIns := [], harness := (true, "1184cbc6cb24491c436a81285fd5de47f072f6651ef1c675230f16b7032f65e8"), looks := false }, kinds := [], alts := [], laidByText := true, laidKinds := [.data, .data, .data, .listed, .data, .data, .data, .data], laidTests := true, laidLooks := .later }
def ASTFormatsCardSaid : Prop := Claim7.holds Tryz.pinned (.plain (OpenSpec.ofChange aSTFormatsSpec)) aSTFormatsCard

/-- THE TIED CARD OF 'tricklelaw16.ASTFormatsExpr'. -/
def aSTFormatsExprCard : Claim7 := { stood := { row := aSTFormatsExprRow, standIns := [], harness := (true, "1184cbc6cb24491c436a81285fd5de47f072f6651ef1c675230f16b7032f65e8"), looks := false }, kinds := [], alts := [], laidByText := true, laidKinds := [.data, .data, .data, .listed, .data, .data, .data, .data], laidTests := true, laidLooks := .later }
def ASTFormatsExprCardSaid : Prop := Claim7.holds Tryz.pinned (.plain (OpenSpec.ofChange aSTFormatsExprSpec)) aSTFormatsExprCard

/-- THE TIED CARD OF 'tricklelaw16.ASTWellFormed'. -/
def aSTWellFormedCard : Claim7 := { stood := { row := aSTWellFormedRow, standIns := [], harness := (true, "1184cbc6cb24491c436a81285fd5de47f072f6651ef1c675230f16b7032f65e8"), looks := false }, kinds := [], alts := [], laidByText := true, laidKinds := [.data, .data, .data, .listed, .data, .data, .data, .data], laidTests := true, laidLooks := .later }
def ASTWellFormedCardSaid : Prop := Claim7.holds Tryz.pinned (.plain (OpenSpec.ofChange aSTWellFormedSpec)) aSTWellFormedCard

/-- THE TIED CARD OF 'tricklelaw16.ASTEquality'. -/
def aSTEqualityCard : Claim7 := { stood := { row := aSTEqualityRow, standIns := [], harness := (true, "1184cbc6cb24491c436a81285fd5de47f072f6651ef1c675230f16b7032f65e8"), looks := false }, kinds := [], alts := [], laidByText := true, laidKinds := [.data, .data, .data, .listed, .data, .data, .data, .data], laidTests := true, laidLooks := .later }
def ASTEqualityCardSaid : Prop := Claim7.holds Tryz.pinned (.plain (OpenSpec.ofChange aSTEqualitySpec)) aSTEqualityCard

/-- THE TIED CARD OF 'tricklelaw16.ASTTraverses'. -/
def aSTTraversesCard : Claim7 := { stood := { row := aSTTraversesRow, standIns := [], harness := (true, "1184cbc6cb24491c436a81285fd5de47f072f6651ef1c675230f16b7032f65e8"), looks := false }, kinds := [], alts := [], laidByText := true, laidKinds := [.data, .data, .data, .listed, .data, .data, .data, .data], laidTests := true, laidLooks := .later }
def ASTTraversesCardSaid : Prop := Claim7.holds Tryz.pinned (.plain (OpenSpec.ofChange aSTTraversesSpec)) aSTTraversesCard

/-- THE TIED CARD OF 'tricklelaw16.ASTTextDetermines'. -/
def aSTTextDeterminesCard : Claim7 := { stood := { row := aSTTextDeterminesRow, standIns := [], harness := (true, "1184cbc6cb24491c436a81285fd5de47f072f6651ef1c675230f16b7032f65e8"), looks := false }, kinds := [], alts := [], laidByText := true, laidKinds := [.data, .data, .data, .listed, .data, .data, .data, .data], laidTests := true, laidLooks := .later }
def ASTTextDeterminesCardSaid : Prop := Claim7.holds Tryz.pinned (.plain (OpenSpec.ofChange aSTTextDeterminesSpec)) aSTTextDeterminesCard

/-- THE TIED CARD OF 'tricklelaw20.SimplifyProgram'. -/
def simplifyProgramCard : Claim7 := { stood := { row := simplifyProgramRow, standIns := [], harness := (true, "1184cbc6cb24491c436a81285fd5de47f072f6651ef1c675230f16b7032f65e8"), looks := false }, kinds := [], alts := [], laidByText := true, laidKinds := [.data, .data, .data, .listed, .data, .data, .data, .data], laidTests := true, laidLooks := .later }
def SimplifyProgramCardSaid : Prop := Claim7.holds Tryz.pinned (.plain (OpenSpec.ofChange simplifyProgramSpec)) simplifyProgramCard

/-- THE TIED CARD OF 'tricklelaw20.SimplifyIsIdempotent'. -/
def simplifyIsIdempotentCard : Claim7 := { stood := { row := simplifyIsIdempotentRow, standIns := [], harness := (true, "1184cbc6cb24491c436a81285fd5de47f072f6651ef1c675230f16b7032f65e8"), looks := false }, kinds := [], alts := [], laidByText := true, laidKinds := [.data, .data, .data, .listed, .data, .data, .data, .data], laidTests := true, laidLooks := .later }
def SimplifyIsIdempotentCardSaid : Prop := Claim7.holds Tryz.pinned (.plain (OpenSpec.ofChange simplifyIsIdempotentSpec)) simplifyIsIdempotentCard

/-- THE TIED CARD OF 'tricklelaw16.ASTStrips'. -/
def aSTStripsCard : Claim7 := { stood := { row := aSTStripsRow, standIns := [], harness := (true, "1184cbc6cb24491c436a81285fd5de47f072f6651ef1c675230f16b7032f65e8"), looks := false }, kinds := [], alts := [], laidByText := true, laidKinds := [.data, .data, .data, .listed, .data, .data, .data, .data], laidTests := true, laidLooks := .later }
def ASTStripsCardSaid : Prop := Claim7.holds Tryz.pinned (.plain (OpenSpec.ofChange aSTStripsSpec)) aSTStripsCard

/-- THE TIED CARD OF 'tricklelaw20.SimplifyPreservesValues'. -/
def simplifyPreservesValuesCard : Claim7 := { stood := { row := simplifyPreservesValuesRow, standIns := [], harness := (true, "1184cbc6cb24491c436a81285fd5de47f072f6651ef1c675230f16b7032f65e8"), looks := false }, kinds := [], alts := [], laidByText := true, laidKinds := [.data, .data, .data, .listed, .data, .data, .data, .data], laidTests := true, laidLooks := .later }
def SimplifyPreservesValuesCardSaid : Prop := Claim7.holds Tryz.pinned (.plain (OpenSpec.ofChange simplifyPreservesValuesSpec)) simplifyPreservesValuesCard

/-- THE TIED CARD OF 'tricklelaw20.SimplifyPreservesRuns'. -/
def simplifyPreservesRunsCard : Claim7 := { stood := { row := simplifyPreservesRunsRow, standIns := [], harness := (true, "1184cbc6cb24491c436a81285fd5de47f072f6651ef1c675230f16b7032f65e8"), looks := false }, kinds := [], alts := [], laidByText := true, laidKinds := [.data, .data, .data, .listed, .data, .data, .data, .data], laidTests := true, laidLooks := .later }
def SimplifyPreservesRunsCardSaid : Prop := Claim7.holds Tryz.pinned (.plain (OpenSpec.ofChange simplifyPreservesRunsSpec)) simplifyPreservesRunsCard

/-- THE SECOND FORM's CARD OF 'tricklelaw20.SimplifyExpr'. -/
def simplifyExprUptoCard : Claim7 := { stood := { row := simplifyExprUptoRow, standIns := [], harness := (true, "1184cbc6cb24491c436a81285fd5de47f072f6651ef1c675230f16b7032f65e8"), looks := false }, kinds := [], alts := [], laidByText := true, laidKinds := [.data, .data, .data, .listed, .data, .data, .data, .data], laidTests := true, laidLooks := .later }
def SimplifyExprUptoCardSaid : Prop := Claim7.holds Tryz.pinned (.plain (OpenSpec.upto simplifyExprSpec)) simplifyExprUptoCard

/-- THE SECOND FORM's CARD OF 'tricklelaw20.SimplifyStmts'. -/
def simplifyStmtsUptoCard : Claim7 := { stood := { row := simplifyStmtsUptoRow, standIns := [], harness := (true, "1184cbc6cb24491c436a81285fd5de47f072f6651ef1c675230f16b7032f65e8"), looks := false }, kinds := [], alts := [], laidByText := true, laidKinds := [.data, .data, .data, .listed, .data, .data, .data, .data], laidTests := true, laidLooks := .later }
def SimplifyStmtsUptoCardSaid : Prop := Claim7.holds Tryz.pinned (.plain (OpenSpec.upto simplifyStmtsSpec)) simplifyStmtsUptoCard

/-- THE SECOND FORM's CARD OF 'tricklelaw20.SimplifyConstant'. -/
def simplifyConstantUptoCard : Claim7 := { stood := { row := simplifyConstantUptoRow, standIns := [], harness := (true, "1184cbc6cb24491c436a81285fd5de47f072f6651ef1c675230f16b7032f65e8"), looks := false }, kinds := [], alts := [], laidByText := true, laidKinds := [.data, .data, .data, .listed, .data, .data, .data, .data], laidTests := true, laidLooks := .later }
def SimplifyConstantUptoCardSaid : Prop := Claim7.holds Tryz.pinned (.plain (OpenSpec.upto simplifyConstantSpec)) simplifyConstantUptoCard

/-- THE SECOND FORM's CARD OF 'tricklelaw16.ASTFormats'. -/
def aSTFormatsUptoCard : Claim7 := { stood := { row := aSTFormatsUptoRow, standIns := [], harness := (true, "1184cbc6cb24491c436a81285fd5de47f072f6651ef1c675230f16b7032f65e8"), looks := false }, kinds := [], alts := [], laidByText := true, laidKinds := [.data, .data, .data, .listed, .data, .data, .data, .data], laidTests := true, laidLooks := .later }
def ASTFormatsUptoCardSaid : Prop := Claim7.holds Tryz.pinned (.plain (OpenSpec.upto aSTFormatsSpec)) aSTFormatsUptoCard

/-- THE SECOND FORM's CARD OF 'tricklelaw16.ASTFormatsExpr'. -/
def aSTFormatsExprUptoCard : Claim7 := { stood := { row := aSTFormatsExprUptoRow, standIns := [], harness := (true, "1184cbc6cb24491c436a81285fd5de47f072f6651ef1c675230f16b7032f65e8"), looks := false }, kinds := [], alts := [], laidByText := true, laidKinds := [.data, .data, .data, .listed, .data, .data, .data, .data], laidTests := true, laidLooks := .later }
def ASTFormatsExprUptoCardSaid : Prop := Claim7.holds Tryz.pinned (.plain (OpenSpec.upto aSTFormatsExprSpec)) aSTFormatsExprUptoCard

/-- THE SECOND FORM's CARD OF 'tricklelaw16.ASTWellFormed'. -/
def aSTWellFormedUptoCard : Claim7 := { stood := { row := aSTWellFormedUptoRow, standIns := [], harness := (true, "1184cbc6cb24491c436a81285fd5de47f072f6651ef1c675230f16b7032f65e8"), looks := false }, kinds := [], alts := [], laidByText := true, laidKinds := [.data, .data, .data, .listed, .data, .data, .data, .data], laidTests := true, laidLooks := .later }
def ASTWellFormedUptoCardSaid : Prop := Claim7.holds Tryz.pinned (.plain (OpenSpec.upto aSTWellFormedSpec)) aSTWellFormedUptoCard

/-- THE SECOND FORM's CARD OF 'tricklelaw16.ASTEquality'. -/
def aSTEqualityUptoCard : Claim7 := { stood := { row := aSTEqualityUptoRow, standIns := [], harness := (true, "1184cbc6cb24491c436a81285fd5de47f072f6651ef1c675230f16b7032f65e8"), looks := false }, kinds := [], alts := [], laidByText := true, laidKinds := [.data, .data, .data, .listed, .data, .data, .data, .data], laidTests := true, laidLooks := .later }
def ASTEqualityUptoCardSaid : Prop := Claim7.holds Tryz.pinned (.plain (OpenSpec.upto aSTEqualitySpec)) aSTEqualityUptoCard

/-- THE SECOND FORM's CARD OF 'tricklelaw16.ASTTraverses'. -/
def aSTTraversesUptoCard : Claim7 := { stood := { row := aSTTraversesUptoRow, standIns := [], harness := (true, "1184cbc6cb24491c436a81285fd5de47f072f6651ef1c675230f16b7032f65e8"), looks := false }, kinds := [], alts := [], laidByText := true, laidKinds := [.data, .data, .data, .listed, .data, .data, .data, .data], laidTests := true, laidLooks := .later }
def ASTTraversesUptoCardSaid : Prop := Claim7.holds Tryz.pinned (.plain (OpenSpec.upto aSTTraversesSpec)) aSTTraversesUptoCard

/-- THE SECOND FORM's CARD OF 'tricklelaw16.ASTTextDetermines'. -/
def aSTTextDeterminesUptoCard : Claim7 := { stood := { row := aSTTextDeterminesUptoRow, standIns := [], harness := (true, "1184cbc6cb24491c436a81285fd5de47f072f6651ef1c675230f16b7032f65e8"), looks := false }, kinds := [], alts := [], laidByText := true, laidKinds := [.data, .data, .data, .listed, .data, .data, .data, .data], laidTests := true, laidLooks := .later }
def ASTTextDeterminesUptoCardSaid : Prop := Claim7.holds Tryz.pinned (.plain (OpenSpec.upto aSTTextDeterminesSpec)) aSTTextDeterminesUptoCard

/-- THE SECOND FORM's CARD OF 'tricklelaw20.SimplifyProgram'. -/
def simplifyProgramUptoCard : Claim7 := { stood := { row := simplifyProgramUptoRow, standIns := [], harness := (true, "1184cbc6cb24491c436a81285fd5de47f072f6651ef1c675230f16b7032f65e8"), looks := false }, kinds := [], alts := [], laidByText := true, laidKinds := [.data, .data, .data, .listed, .data, .data, .data, .data], laidTests := true, laidLooks := .later }
def SimplifyProgramUptoCardSaid : Prop := Claim7.holds Tryz.pinned (.plain (OpenSpec.upto simplifyProgramSpec)) simplifyProgramUptoCard

/-- THE SECOND FORM's CARD OF 'tricklelaw20.SimplifyIsIdempotent'. -/
def simplifyIsIdempotentUptoCard : Claim7 := { stood := { row := simplifyIsIdempotentUptoRow, standIns := [], harness := (true, "1184cbc6cb24491c436a81285fd5de47f072f6651ef1c675230f16b7032f65e8"), looks := false }, kinds := [], alts := [], laidByText := true, laidKinds := [.data, .data, .data, .listed, .data, .data, .data, .data], laidTests := true, laidLooks := .later }
def SimplifyIsIdempotentUptoCardSaid : Prop := Claim7.holds Tryz.pinned (.plain (OpenSpec.upto simplifyIsIdempotentSpec)) simplifyIsIdempotentUptoCard

/-- THE SECOND FORM's CARD OF 'tricklelaw16.ASTStrips'. -/
def aSTStripsUptoCard : Claim7 := { stood := { row := aSTStripsUptoRow, standIns := [], harness := (true, "1184cbc6cb24491c436a81285fd5de47f072f6651ef1c675230f16b7032f65e8"), looks := false }, kinds := [], alts := [], laidByText := true, laidKinds := [.data, .data, .data, .listed, .data, .data, .data, .data], laidTests := true, laidLooks := .later }
def ASTStripsUptoCardSaid : Prop := Claim7.holds Tryz.pinned (.plain (OpenSpec.upto aSTStripsSpec)) aSTStripsUptoCard

/-- THE SECOND FORM's CARD OF 'tricklelaw20.SimplifyPreservesValues'. -/
def simplifyPreservesValuesUptoCard : Claim7 := { stood := { row := simplifyPreservesValuesUptoRow, standIns := [], harness := (true, "1184cbc6cb24491c436a81285fd5de47f072f6651ef1c675230f16b7032f65e8"), looks := false }, kinds := [], alts := [], laidByText := true, laidKinds := [.data, .data, .data, .listed, .data, .data, .data, .data], laidTests := true, laidLooks := .later }
def SimplifyPreservesValuesUptoCardSaid : Prop := Claim7.holds Tryz.pinned (.plain (OpenSpec.upto simplifyPreservesValuesSpec)) simplifyPreservesValuesUptoCard

/-- THE SECOND FORM's CARD OF 'tricklelaw20.SimplifyPreservesRuns'. -/
def simplifyPreservesRunsUptoCard : Claim7 := { stood := { row := simplifyPreservesRunsUptoRow, standIns := [], harness := (true, "1184cbc6cb24491c436a81285fd5de47f072f6651ef1c675230f16b7032f65e8"), looks := false }, kinds := [], alts := [], laidByText := true, laidKinds := [.data, .data, .data, .listed, .data, .data, .data, .data], laidTests := true, laidLooks := .later }
def SimplifyPreservesRunsUptoCardSaid : Prop := Claim7.holds Tryz.pinned (.plain (OpenSpec.upto simplifyPreservesRunsSpec)) simplifyPreservesRunsUptoCard
end Rows
end Go.Proofs.YtfflfbhnedkppaaGreatDoor
