/- Part 17 of a proof that the law holds of every input of the given bulk. -/
import Derived.Test.YtfflfbhnedkppaaGreatDoorPart16
import Derived.Test.YtfflfbhnedkppaaGreatDoorPart10
import Derived.Test.YtfflfbhnedkppaaGreatDoorPart11
import Derived.Test.YtfflfbhnedkppaaGreatDoorPart12
import Derived.Test.YtfflfbhnedkppaaGreatDoorCards
import Derived.Test.YtfflfbhnedkppaaGreatDoorTie
import Derived.WalkKit
import Derived.ProofKit
import Derived.OpenShut
import Derived.Deep.DeepHandedRow
import Derived.Deep.DeepWitnessRowRef
import Derived.Lib.LaidTab
import Derived.Lay
set_option autoImplicit false
set_option linter.unusedSimpArgs false
set_option linter.unusedVariables false
set_option linter.unusedSectionVars false
set_option maxRecDepth 100000
set_option maxHeartbeats 4000000
namespace Go.Proofs.YtfflfbhnedkppaaGreatDoor.aSTWellFormed
open Go.ChangeShapes Go.WideShapes Go.ChangeAt Go.RowKit Go.Proofs.Am
theorem c0 : (Rows.aSTWellFormedUptoRow.wf (OpenSpec.ofChange (Rows.OpenSpec.upto Rows.aSTWellFormedSpec).bare)) = true := by kernel_rfl
theorem c1 : (laidOutB Tryz.prog) = true := by kernel_rfl
theorem c2 : (mapsRowed Tryz.prog) = true := by kernel_rfl
theorem c3 : (Tryz.f8.params.all (Tryz.prog.readableRec ·)) = true := by kernel_rfl
theorem c4 : (namedTie Tryz.prog Rows.aSTWellFormedUptoRow.named (Rows.OpenSpec.upto Rows.aSTWellFormedSpec).bare.vars) = true := by kernel_rfl
theorem c5 : ((Rows.aSTWellFormedUptoRow.stops == [])) = true := by kernel_rfl
theorem c6 : ((Tryz.prog.stops == [])) = true := by kernel_rfl
theorem c7 : ((Rows.aSTWellFormedUptoRow.knobs == [])) = true := by kernel_rfl
theorem c8 : ((Tryz.prog.stopKnobs == [])) = true := by kernel_rfl
theorem c9 : ((Rows.aSTWellFormedUptoRow.inPlace == Tryz.prog.inPlace 8)) = true := by kernel_rfl
theorem c10 : ((Rows.aSTWellFormedUptoRow.unfollowed == Tryz.prog.unfollowed 8)) = true := by kernel_rfl
theorem c11 : ((Rows.aSTWellFormedUptoRow.recurses == Tryz.prog.recurses 8)) = true := by kernel_rfl
theorem c12 : ((Rows.aSTWellFormedUptoRow.named == Tryz.prog.varsNamed 8)) = true := by kernel_rfl
theorem c13 : ((Rows.aSTWellFormedUptoRow.maps == (Tryz.f8.params.toList ++ (Rows.OpenSpec.upto Rows.aSTWellFormedSpec).bare.plain.varTypes Tryz.prog).any (Tryz.prog.mapsRec ·))) = true := by kernel_rfl
theorem c14 : ((Rows.aSTWellFormedUptoRow.ifaces == (Tryz.f8.params.toList ++ (Rows.OpenSpec.upto Rows.aSTWellFormedSpec).bare.plain.varTypes Tryz.prog).any (Tryz.prog.ifacesRec ·))) = true := by kernel_rfl
theorem c15 : ((Rows.aSTWellFormedUptoRow.mapsOut == Tryz.prog.mapsAmong Tryz.f8.resultTypes.toList)) = true := by kernel_rfl
theorem c16 : ((Rows.aSTWellFormedUptoRow.loops == (Tryz.f8.params.toList ++ (Rows.OpenSpec.upto Rows.aSTWellFormedSpec).bare.plain.varTypes Tryz.prog).any (Tryz.prog.loopsFrom ·))) = true := by kernel_rfl
theorem c17 : ((Rows.aSTWellFormedUptoRow.wideKeys == (Tryz.f8.params.toList ++ (Rows.OpenSpec.upto Rows.aSTWellFormedSpec).bare.plain.varTypes Tryz.prog ++ Tryz.f8.resultTypes.toList).any (Tryz.prog.wideKeysFrom ·))) = true := by kernel_rfl
theorem c18 : ((Rows.OpenSpec.upto Rows.aSTWellFormedSpec).bare.vars.all (Tryz.prog.varReadable ·)) = true := by kernel_rfl
theorem c19 : (Tryz.f8.resultTypes.all (fun t => Tryz.prog.readableRec t && decide (t < Tryz.prog.types.size))) = true := by kernel_rfl
theorem c20 : ((Rows.aSTWellFormedUptoRow.ifacesOut == Tryz.f8.resultTypes.toList.any (Tryz.prog.ifacesRec ·))) = true := by kernel_rfl
theorem c21 : ((Rows.aSTWellFormedUptoRow.loopsOut == Tryz.f8.resultTypes.toList.any (Tryz.prog.loopsFrom ·))) = true := by kernel_rfl
theorem c22 : ((Rows.aSTWellFormedUptoRow.plainKeys == Tryz.prog.plainKeys)) = true := by kernel_rfl
theorem c23 : (Rows.aSTWellFormedUptoRow.shortTexts.isNone) = true := by kernel_rfl
theorem c24 : (Tryz.prog.stopsHeard) = true := by kernel_rfl
theorem c28 : ((Rows.aSTWellFormedUptoRow.kinds == (if Rows.aSTWellFormedUptoRow.domain.isEmpty then [] else Tryz.f8.params.toList.map fun t => match Tryz.prog.underlying t with | some (.int k) => some k | _ => none))) = true := by kernel_rfl
theorem c29 : ((Rows.aSTWellFormedUptoRow.pinned == Rows.aSTWellFormedUptoRow.pinnedBy)) = true := by kernel_rfl
theorem c30 : ((Rows.aSTWellFormedUptoRow.veiled == (Tryz.f8.params.toList ++ (Rows.OpenSpec.upto Rows.aSTWellFormedSpec).bare.plain.varTypes Tryz.prog ++ Tryz.f8.resultTypes.toList).any (Tryz.prog.veiledRec ·))) = true := by kernel_rfl
theorem c31 : (Rows.aSTWellFormedUptoRow.veiledFits Tryz.prog Tryz.f8.params.toList (Tryz.f8.params.toList ++ (Rows.OpenSpec.upto Rows.aSTWellFormedSpec).bare.plain.varTypes Tryz.prog ++ Tryz.f8.resultTypes.toList)) = true := by kernel_rfl
theorem and_t {a b : Bool} (ha : a = true) (hb : b = true) : (a && b) = true := by rw [ha, hb]; rfl
theorem joined : joinedFacts Tryz.checked.prog 8 Tryz.f8 (Rows.OpenSpec.upto Rows.aSTWellFormedSpec).bare Rows.aSTWellFormedUptoRow = true := by
  unfold joinedFacts
  exact and_t (and_t (and_t (and_t (and_t (and_t (and_t (and_t (and_t (and_t (and_t (and_t (and_t (and_t (and_t (and_t (and_t (and_t (and_t (and_t (and_t (and_t (and_t (and_t (and_t (and_t (and_t (and_t (and_t (and_t (and_t (c0) c1) c2) c3) c4) c5) c6) c7) c8) c9) c10) c11) c12) c13) c14) c15) c16) c17) c18) c19) c20) c21) c22) c23) c24) pg_enter) pg_lifted) pg_make) c28) c29) c30) c31
theorem fnamed : Tryz.checked.prog.funcNamed "trickle/tricklelaw16.ASTWellFormed" = some 8 := by kernel_rfl
theorem saidUpto : Rows.ASTWellFormedUptoSaid :=
  OpenClaim.holds_of_cond 8 Tryz.f8 rfl rfl rfl rfl rfl rfl rfl ⟨rfl, rfl, rfl, rfl, rfl⟩ rfl rfl rfl rfl rfl fnamed Tryz.func8 joined
    (of_decide_eq_true (by kernel_rfl)) (by unfold Func.isWrapper; first | (rw [if_pos (by decide +kernel)]; kernel_rfl) | (rw [if_neg (by decide +kernel)]; exact ⟨rfl, rfl⟩))
    (fun os started H enc _ F => by rw [OpenClaim.pre_eq_preRow]; exact liftedUpto os started H enc F)
end Go.Proofs.YtfflfbhnedkppaaGreatDoor.aSTWellFormed
