/- Part 10 of a proof that the law holds of every input of the given bulk. -/
import Derived.Test.YtfflfbhnedkppaaGreatDoorProg
import Derived.WalkKit
import Derived.ProofKit
import Derived.JoinedOf
set_option autoImplicit false
set_option linter.unusedSimpArgs false
set_option linter.unusedVariables false
set_option linter.unusedSectionVars false
set_option maxRecDepth 100000
set_option maxHeartbeats 4000000
namespace Go.Proofs.Am
open Go.ChangeShapes Go.WideShapes Go.ChangeAt Go.RowKit
theorem pg_enter : Tryz.prog.mayEnter = true := by kernel_rfl
end Go.Proofs.Am
