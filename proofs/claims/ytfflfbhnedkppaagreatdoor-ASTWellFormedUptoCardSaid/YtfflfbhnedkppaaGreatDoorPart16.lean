/- Part 16 of a proof that the law holds of every input of the given bulk. -/
import Derived.Test.YtfflfbhnedkppaaGreatDoorPart05
import Derived.Test.YtfflfbhnedkppaaGreatDoorPart08
import Derived.Test.YtfflfbhnedkppaaGreatDoorCards
import Derived.Test.YtfflfbhnedkppaaGreatDoorTie
import Derived.WalkKit
import Derived.ProofKit
import Derived.OpenShut
import Derived.Deep.DeepHandedRow
import Derived.Deep.DeepWitnessRowRef
import Derived.Lib.LaidTab
import Derived.Lay
set_option autoImplicit false
set_option linter.unusedSimpArgs false
set_option linter.unusedVariables false
set_option linter.unusedSectionVars false
set_option maxRecDepth 100000
set_option maxHeartbeats 4000000
namespace Go.Proofs.YtfflfbhnedkppaaGreatDoor.aSTWellFormed
open Go.ChangeShapes Go.WideShapes Go.ChangeAt Go.RowKit Go.Proofs.Am
theorem own : ownKnob Tryz.prog.godebug = none := by kernel_rfl
theorem laid_out : laidOutB Tryz.prog = true := by kernel_rfl
theorem sizes (t : TypeId) (ht : t ∈ Tryz.f8.params.toList) : t < Tryz.prog.types.size ∧ Tryz.prog.readableRec t = true := by
  have h : Tryz.f8.params.toList.all (fun t => decide (t < Tryz.prog.types.size) && Tryz.prog.readableRec t) = true := by kernel_rfl
  have := List.all_eq_true.1 h t ht
  simpa using this
theorem heap8 {W : World} (h : laidMetH Tryz.prog laidL W) : 8 ≤ W.heap.size := by
  have h : laidMet Tryz.prog laidL W := h
  obtain ⟨ps, hL, _⟩ := h
  obtain ⟨_, _, _, _, _, _, _, _, _, _, hL, _⟩ := hL
  obtain ⟨g, _, _, _, _, _, n, _, v, _, _, _⟩ := hL
  have e : g = 7 := Option.some.inj (n.symm.trans (by kernel_rfl))
  subst e
  exact (var_block n v).1
/-- What the call answers, for every argument of that bulk. -/
theorem contract (H : Type) (enc : TypeId × Value → H) (W : World) (base : Nat) (args : Array Value) (ds gs : List (DataW H)) (before : List MemPlace)
    (hval : ∀ (j : Nat) t v, Tryz.f8.params[j]? = some t → args[j]? = some v → Value.okWide Tryz.prog W .any base t v)
    (hW : DataW.Whole enc Tryz.prog Tryz.f8.params.toList Rows.aSTWellFormedSpec.vars false W args.toList ds gs before) (hk : Rows.uptoSmall H (ds ++ gs) = true) (hL : laidMetH Tryz.prog laidL W) :
    Calls Tryz.prog 8 args W fun e W' => ∃ v, e = .returned v ∧ Rows.aSTWellFormedSpec.post enc Tryz.prog Tryz.f8 false true false false W args v W' := by
  have hW' := hW
  obtain ⟨p, q, hA0, hV, rfl, hfz, hnd⟩ := hW
  have hA : DataW.TrodAll enc Tryz.prog W 0 (fun _ => true) true Tryz.f8.params.toList args.toList ds p := hA0
  rw [Tryz.params8] at hA hval
  obtain ⟨v0, vs0, d0, ds0, p0, q0, hargs0, rfl, rfl, h0, r0⟩ := trodAll_cons hA
  obtain ⟨rfl, rfl, rfl⟩ := trodAll_nil r0
  obtain rfl : args = #[v0] := by cases args; simp_all
  obtain ⟨rfl, rfl⟩ := trodVars_none hV
  clear hA0
  simp only [List.append_nil] at hW' hk
  have hb : Rows.uptoBulkAll [d0] ≤ 1048576 := by simpa [Rows.uptoSmall] using hk
  simp only [Rows.uptoBulkAll] at hb
  obtain ⟨p, hp1, hp2, hp3, hp4, hp5⟩ := arg_P (hval 0 28 v0 rfl rfl) h0
  have hs := szT_cnt p.tasks
  have hd := depT_le p.tasks
  have hh := holds8 p (by omega) (by omega) (fun t ht => sized_of (hp4 t ht) (by have := cntT_mem ht; omega)) hp2 hp3
  have hreps : RepAs W anyB [.agg (encP p)] [v0] := .cons hp1 .nil
  refine Calls.mono (hh.2 anyB W [v0] (heap8 hL) (glob_ok hL) hreps) fun e W' he => ?_
  obtain ⟨rs, rfl, hrs, hbel⟩ := he
  cases hrs with
  | cons hr hn =>
    cases hn
    obtain rfl : _ = Value.bool true := hr
    exact ⟨_, rfl, post_true laid_out rfl rfl hW' rfl sizes hbel⟩
noncomputable def wArgs : Array Value := #[.agg #[.slice none 0 0, .slice none 0 0, .slice none 0 0, .slice none 0 0, .slice none 0 0, .slice none 0 0]]
theorem laid_met (os : Os) : laidMet Tryz.prog laidL ((World.laidAll Tryz.prog os laidL).forCall (fun _ _ => 0) ⟨#[], wArgs, []⟩).memory := laidMet_laidAll _ (by kernel_rfl) (by kernel_rfl)
theorem reads (os : Os) {H : Type} (enc : TypeId × Value → H) : ∃ places, DataW.whole enc Tryz.prog ((World.laidAll Tryz.prog os laidL).forCall (fun _ _ => 0) ⟨#[], wArgs, []⟩).memory Tryz.f8.params.toList Rows.aSTWellFormedSpec.vars false wArgs.toList 8 = some ([.agg [.nil, .nil, .nil, .nil, .nil, .nil]], [], places) :=
  ⟨[], by kernel_rfl⟩
theorem liftedUpto (os : Os) (started : os.Started) (H : Type) (enc : TypeId × Value → H) (F : Stop.Interp) :
    ReturnsInHanded {} Tryz.checked os 8 .any ((Rows.OpenSpec.upto Rows.aSTWellFormedSpec).preRow enc Tryz.prog Tryz.f8 Rows.aSTWellFormedUptoRow.domain false Rows.aSTWellFormedUptoRow.laid) (((Rows.OpenSpec.upto Rows.aSTWellFormedSpec).at F).post enc Tryz.prog Tryz.f8 false true false false) := by
  obtain ⟨places, hx⟩ := reads os enc
  refine returnsInHanded_of_row (C := Tryz.checked) (s := Rows.OpenSpec.upto Rows.aSTWellFormedSpec) own started (by kernel_rfl) Tryz.func8
    (witness_row_atRef (enc := enc) (C := Tryz.checked) false (World.laidAll Tryz.prog os laidL) wArgs (World.laidAll_os _ _ _) (by kernel_rfl) (by kernel_rfl) (by kernel_rfl)
      (OpenSpec.preRow_of_cond 8 hx (by kernel_rfl) (fun k hk => by cases hk; kernel_rfl) (by kernel_rfl) (laid_met os))) ?_
  intro W base args ds gs before hval hW _ hcond _ hL _ _
  exact contract H enc W base args ds gs before hval hW (hcond _ rfl) hL
end Go.Proofs.YtfflfbhnedkppaaGreatDoor.aSTWellFormed
