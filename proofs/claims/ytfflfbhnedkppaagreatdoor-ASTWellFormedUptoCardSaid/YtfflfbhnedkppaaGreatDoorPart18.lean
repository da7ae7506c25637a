/- Part 18 of a proof that the law holds of every input of the given bulk. -/
import Derived.Test.YtfflfbhnedkppaaGreatDoorPart17
import Derived.Test.YtfflfbhnedkppaaGreatDoorPart14
import Derived.Test.YtfflfbhnedkppaaGreatDoorCards
import Derived.Test.YtfflfbhnedkppaaGreatDoorTie
import Derived.WalkKit
import Derived.ProofKit
import Derived.OpenShut
import Derived.Deep.DeepHandedRow
import Derived.Deep.DeepWitnessRowRef
import Derived.Lib.LaidTab
import Derived.Lay
set_option autoImplicit false
set_option linter.unusedSimpArgs false
set_option linter.unusedVariables false
set_option linter.unusedSectionVars false
set_option maxRecDepth 100000
set_option maxHeartbeats 4000000
namespace Go.Proofs.YtfflfbhnedkppaaGreatDoor.aSTWellFormed
open Go.ChangeShapes Go.WideShapes Go.ChangeAt Go.RowKit Go.Proofs.Am
theorem goes : false = Rows.aSTWellFormedUptoRow.goesBy Tryz.pinned.checked.prog := by kernel_rfl
theorem plain (f : FuncId) (fn : Func) (hf : Tryz.pinned.checked.prog.funcNamed "trickle/tricklelaw16.ASTWellFormed" = some f) (hfn : Tryz.pinned.checked.prog.funcs[f]? = some fn) :
    false = Tryz.pinned.checked.prog.looks [] ∧ ∀ (j : Nat) t, fn.params[j]? = some t → Tryz.pinned.checked.prog.wantsStandIn t = false := by
  obtain rfl : f = 8 := Option.some.inj ((show Tryz.prog.funcNamed "trickle/tricklelaw16.ASTWellFormed" = some 8 by kernel_rfl).symm.trans hf) |>.symm
  obtain rfl : fn = Tryz.f8 := (Option.some.inj (Tryz.func8.symm.trans hfn)).symm
  refine ⟨by kernel_rfl, fun j t ht => ?_⟩
  have h : Tryz.f8.params.toList.all (fun t => !Tryz.prog.wantsStandIn t) = true := by kernel_rfl
  have h2 := List.all_eq_true.1 h t (Array.mem_toList_iff.2 (Array.mem_of_getElem? ht))
  have h3 : Tryz.prog.wantsStandIn t = false := by simpa using h2
  exact h3
theorem cardUpto : Rows.ASTWellFormedUptoCardSaid :=
  Claim7.holds_tied_plain_at .later [] _ _ _ _ saidUpto (fun _ h => by cases h) (by kernel_rfl) (fun _ h => by cases h) aSTWellFormedUpto_row_tie rfl ⟨rfl, rfl⟩ pg_main rfl plain goes
#print axioms cardUpto
end Go.Proofs.YtfflfbhnedkppaaGreatDoor.aSTWellFormed
