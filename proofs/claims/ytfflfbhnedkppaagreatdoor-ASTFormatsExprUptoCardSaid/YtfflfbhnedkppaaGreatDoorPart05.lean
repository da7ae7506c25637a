/- Part 5 of a proof that the law holds of every input of the given bulk. -/
import Derived.Test.YtfflfbhnedkppaaGreatDoorPart04
import Derived.Test.YtfflfbhnedkppaaGreatDoorPart00
import Derived.ChangeShapes
import Derived.DataReads
import Derived.Test.YtfflfbhnedkppaaGreatDoorRows
import Derived.RowKit
import Derived.ChangeSame
import Derived.Carry
import Derived.WideKeyArgs
import Derived.Shelf.Strings.Fields
import Derived.Shelf.Strconv.Itoa3
import Derived.Lib.ItoaLen
set_option autoImplicit false
set_option linter.unusedSimpArgs false
set_option linter.unusedVariables false
set_option linter.unusedSectionVars false
set_option maxRecDepth 100000
set_option maxHeartbeats 4000000
namespace Go.Proofs.Am
mutual
def subE : Ex → List Ex
  | .mk k n v o a p => .mk k n v o a p :: subL a
def subL : List Ex → List Ex
  | [] => []
  | x :: r => subE x ++ subL r
end
theorem subE_eq (x : Ex) : subE x = x :: subL x.args := by cases x; rfl
theorem subL_append (a b : List Ex) : subL (a ++ b) = subL a ++ subL b := by
  induction a with
  | nil => rfl
  | cons x r ih => simp [subL, ih]
theorem prog19 : Tryz.prog.funcs[19]? = some Tryz.f19 := by kernel_rfl
theorem step19 (x : Ex) (hb : (subE x).length ≤ 1000000000000) (ih : ∀ y ∈ x.args, (subE y).length ≤ 1000000000000 → Holds Tryz.prog zG 19 [.agg [.int .i64 y.kind, .str y.name, .int .i16 y.value, .int .i64 y.op, .sl 6 (encEs y.args), .int .i64 y.pos]] [.c (.sl 6 (encEs (subE y)))]) : Holds Tryz.prog zG 19 [.agg [.int .i64 x.kind, .str x.name, .int .i16 x.value, .int .i64 x.op, .sl 6 (encEs x.args), .int .i64 x.pos]] [.c (.sl 6 (encEs (subE x)))] := by
  refine holds_of_body zT prog19 rfl rfl rfl (by simp [Tryz.f19]) ?_
  refine aw_ops zT fun K1 hK1 => ?_
  simp only [amset, amlib, zset, eq_self, ↓reduceIte, reduceCtorEq, Nat.reduceBEq, Nat.reduceEqDiff, Nat.reduceAdd, Nat.reduceMul, Nat.reduceLeDiff, Nat.reduceLT, Nat.reduceSub]
  refine hK1 _ ?_
  clear hK1
  refine aw_ops zT fun K2 hK2 => ?_
  simp only [amset, amlib, zset, eq_self, ↓reduceIte, reduceCtorEq, Nat.reduceBEq, Nat.reduceEqDiff, Nat.reduceAdd, Nat.reduceMul, Nat.reduceLeDiff, Nat.reduceLT, Nat.reduceSub]
  refine hK2 _ ?_
  clear hK2
  refine aw_seq fun K3 hK3 => ?_
  refine aw_ops zT fun K4 hK4 => ?_
  simp only [amset, amlib, zset, eq_self, ↓reduceIte, reduceCtorEq, Nat.reduceBEq, Nat.reduceEqDiff, Nat.reduceAdd, Nat.reduceMul, Nat.reduceLeDiff, Nat.reduceLT, Nat.reduceSub]
  intros
  refine hK4 _ ?_
  clear hK4
  refine aw_block ?_
  refine aw_retag 7 0 1003 (by simp only [amset, amlib, zset, eq_self, ↓reduceIte, reduceCtorEq, Nat.reduceBEq, Nat.reduceEqDiff, Nat.reduceAdd, Nat.reduceMul, Nat.reduceLeDiff, Nat.reduceLT, Nat.reduceSub]) ?_
  refine aw_norm (by simp only [amset, amlib, zset, eq_self, ↓reduceIte, reduceCtorEq, Nat.reduceBEq, Nat.reduceEqDiff, Nat.reduceAdd, Nat.reduceMul, Nat.reduceLeDiff, Nat.reduceLT, Nat.reduceSub]; exact rfl) ?_
  refine aw_range (α := Ex) (x.args) (fun dn => True) (fun dn => [(3, .cell (.own 1003 0 32 6 (encEs (x :: subL dn)))), (11, .cell (.c (.int .i64 dn.length)))]) (fun dn => []) [1003] [3, 5, 11, 12, 13, 14, 15, 16, 17, 18, 19] [5] trivial ?_ ?_ ?_ ?_
  · simp only [amset, amlib, zset, eq_self, ↓reduceIte, reduceCtorEq, Nat.reduceBEq, Nat.reduceEqDiff, Nat.reduceAdd, Nat.reduceMul, Nat.reduceLeDiff, Nat.reduceLT, Nat.reduceSub] <;> simp [subL, subL_append, encEs_cons, encEs_append, encEs_nil, encE_eq]
  · simp only [amset, amlib, zset, eq_self, ↓reduceIte, reduceCtorEq, Nat.reduceBEq, Nat.reduceEqDiff, Nat.reduceAdd, Nat.reduceMul, Nat.reduceLeDiff, Nat.reduceLT, Nat.reduceSub] <;> simp [subL, subL_append, encEs_cons, encEs_append, encEs_nil, encE_eq]
  · intro hI R
    refine aw_norm (by simp only [amset, amlib, zset, eq_self, ↓reduceIte, reduceCtorEq, Nat.reduceBEq, Nat.reduceEqDiff, Nat.reduceAdd, Nat.reduceMul, Nat.reduceLeDiff, Nat.reduceLT, Nat.reduceSub]; exact rfl) ?_
    refine aw_ops zT fun K5 hK5 => ?_
    simp only [amset, amlib, zset, eq_self, ↓reduceIte, reduceCtorEq, Nat.reduceBEq, Nat.reduceEqDiff, Nat.reduceAdd, Nat.reduceMul, Nat.reduceLeDiff, Nat.reduceLT, Nat.reduceSub]
    refine hK5 _ ?_
    clear hK5
    refine aw_seq fun K6 hK6 => ?_
    refine aw_cond (t := false) (by simp [evalO, S.get, amLook]) (fun h => nomatch h) (fun _ => ?_)
    refine aw_exit ?_
    simp only [thenQ, blkQ, if_true, reduceIte, Nat.reduceEqDiff, eq_self]
    refine hK3 _ ?_
    clear hK3
    refine aw_ops zT fun K7 hK7 => ?_
    simp only [amset, amlib, zset, eq_self, ↓reduceIte, reduceCtorEq, Nat.reduceBEq, Nat.reduceEqDiff, Nat.reduceAdd, Nat.reduceMul, Nat.reduceLeDiff, Nat.reduceLT, Nat.reduceSub]
    refine hK7 _ ?_
    clear hK7
    refine aw_ret ?_
    show resOf zG _ [.tmp 2] = some _
    simp only [amset, amlib, zset, eq_self, ↓reduceIte, reduceCtorEq, Nat.reduceBEq, Nat.reduceEqDiff, Nat.reduceAdd, Nat.reduceMul, Nat.reduceLeDiff, Nat.reduceLT, Nat.reduceSub]
    simp [subE_eq]
  · intro dn y td harg hI R hR
    have hl : (x.args).length = dn.length + (td.length + 1) := by rw [harg]; simp
    have hmem : y ∈ x.args := by rw [harg]; simp
    refine aw_norm (by simp only [amset, amlib, zset, eq_self, ↓reduceIte, reduceCtorEq, Nat.reduceBEq, Nat.reduceEqDiff, Nat.reduceAdd, Nat.reduceMul, Nat.reduceLeDiff, Nat.reduceLT, Nat.reduceSub]; exact rfl) ?_
    have hget : (encEs (x.args)).getD dn.length [] = encE y := by rw [harg]; exact encEs_mid dn td y
    have h1 : (subE x).length = (subL dn).length + 1 + (subE y).length + (subL td).length := by
      rw [subE_eq, harg, subL_append]
      simp [subL]
      omega
    refine aw_ops zT fun K8 hK8 => ?_
    simp only [amset, amlib, zset, eq_self, ↓reduceIte, reduceCtorEq, Nat.reduceBEq, Nat.reduceEqDiff, Nat.reduceAdd, Nat.reduceMul, Nat.reduceLeDiff, Nat.reduceLT, Nat.reduceSub]
    refine hK8 _ ?_
    clear hK8
    refine aw_seq fun K9 hK9 => ?_
    refine aw_cond (t := true) (by simp [evalO, S.get, amLook]; omega) (fun _ => ?_) (fun h => nomatch h)
    refine aw_skip ?_
    simp only [thenQ, blkQ, if_true, reduceIte, Nat.reduceEqDiff, eq_self]
    refine hK9 _ ?_
    clear hK9
    refine aw_seq fun K10 hK10 => ?_
    refine aw_block ?_
    refine aw_ops zT fun K11 hK11 => ?_
    simp only [amset, amlib, zset, hget, eq_self, ↓reduceIte, reduceCtorEq, Nat.reduceBEq, Nat.reduceEqDiff, Nat.reduceAdd, Nat.reduceMul, Nat.reduceLeDiff, Nat.reduceLT, Nat.reduceSub]
    refine ⟨⟨by omega, by omega⟩, ?_⟩
    refine hK11 _ ?_
    clear hK11
    refine aw_region zT ?_
    simp only [amset, amlib, zset, eq_self, ↓reduceIte, reduceCtorEq, Nat.reduceBEq, Nat.reduceEqDiff, Nat.reduceAdd, Nat.reduceMul, Nat.reduceLeDiff, Nat.reduceLT, Nat.reduceSub]
    refine ⟨_, ih y hmem (by omega), ?_⟩
    simp only [later]
    simp only [amset, amlib, zset, eq_self, ↓reduceIte, reduceCtorEq, Nat.reduceBEq, Nat.reduceEqDiff, Nat.reduceAdd, Nat.reduceMul, Nat.reduceLeDiff, Nat.reduceLT, Nat.reduceSub]
    refine ⟨⟨encEs_rows _, by omega⟩, ?_⟩
    refine hK10 _ ?_
    clear hK10
    refine aw_region zT ?_
    simp only [amset, amlib, zset, eq_self, ↓reduceIte, reduceCtorEq, Nat.reduceBEq, Nat.reduceEqDiff, Nat.reduceAdd, Nat.reduceMul, Nat.reduceLeDiff, Nat.reduceLT, Nat.reduceSub]
    refine ⟨⟨by omega, by omega⟩, ?_⟩
    refine hR _ trivial ?_
    refine Reach.trans (Reach.retag 18 0 1003 ?_) (Reach.to ?_ ?_)
    · simp only [amset, amlib, zset, eq_self, ↓reduceIte, reduceCtorEq, Nat.reduceBEq, Nat.reduceEqDiff, Nat.reduceAdd, Nat.reduceMul, Nat.reduceLeDiff, Nat.reduceLT, Nat.reduceSub]
    · simp only [amset, amlib, zset, eq_self, ↓reduceIte, reduceCtorEq, Nat.reduceBEq, Nat.reduceEqDiff, Nat.reduceAdd, Nat.reduceMul, Nat.reduceLeDiff, Nat.reduceLT, Nat.reduceSub] <;> simp [subL, subL_append, encEs_cons, encEs_append, encEs_nil, encE_eq]
    · simp only [amset, amlib, zset, eq_self, ↓reduceIte, reduceCtorEq, Nat.reduceBEq, Nat.reduceEqDiff, Nat.reduceAdd, Nat.reduceMul, Nat.reduceLeDiff, Nat.reduceLT, Nat.reduceSub] <;> simp [subL, subL_append, encEs_cons, encEs_append, encEs_nil, encE_eq]
theorem holds19 (x : Ex) (hb : (subE x).length ≤ 1000000000000) : Holds Tryz.prog zG 19 [.agg [.int .i64 x.kind, .str x.name, .int .i16 x.value, .int .i64 x.op, .sl 6 (encEs x.args), .int .i64 x.pos]] [.c (.sl 6 (encEs (subE x)))] := step19 x hb fun y hmem hb => holds19 y hb
  termination_by SizeOf.sizeOf x
  decreasing_by exact Ex.args_lt hmem
end Go.Proofs.Am
set_option maxRecDepth 100000
namespace Go.Proofs.Am
def bareE (x : Ex) : Ex := if (x.kind == 1) then .mk x.kind [] x.value 0 [] 0 else if (x.kind == 2 || x.kind == 3 || x.kind == 4) then .mk x.kind x.name 0 0 [] 0 else .mk x.kind [] 0 x.op [] 0
theorem prog72 : Tryz.prog.funcs[72]? = some Tryz.f72 := by kernel_rfl
theorem holds72 (x : Ex) : Holds Tryz.prog zG 72 [.agg [.int .i64 x.kind, .str x.name, .int .i16 x.value, .int .i64 x.op, .sl 6 (encEs x.args), .int .i64 x.pos]] [.agg (encE (bareE x))] := by
  refine holds_of_body zT prog72 rfl rfl rfl (by simp [Tryz.f72]) ?_
  refine aw_ops zT fun K1 hK1 => ?_
  simp only [amset, amlib, zset, eq_self, ↓reduceIte, reduceCtorEq, Nat.reduceBEq, Nat.reduceEqDiff, Nat.reduceAdd, Nat.reduceMul, Nat.reduceLeDiff, Nat.reduceLT, Nat.reduceSub]
  refine hK1 _ ?_
  clear hK1
  refine aw_seq fun K2 hK2 => ?_
  refine aw_ops zT fun K3 hK3 => ?_
  simp only [amset, amlib, zset, eq_self, ↓reduceIte, reduceCtorEq, Nat.reduceBEq, Nat.reduceEqDiff, Nat.reduceAdd, Nat.reduceMul, Nat.reduceLeDiff, Nat.reduceLT, Nat.reduceSub]
  refine hK3 _ ?_
  clear hK3
  refine aw_block ?_
  refine aw_ops zT fun K4 hK4 => ?_
  simp only [amset, amlib, zset, eq_self, ↓reduceIte, reduceCtorEq, Nat.reduceBEq, Nat.reduceEqDiff, Nat.reduceAdd, Nat.reduceMul, Nat.reduceLeDiff, Nat.reduceLT, Nat.reduceSub]
  refine hK4 _ ?_
  clear hK4
  refine aw_cond rfl (fun h0 => ?_) (fun h0 => ?_)
  · skip
    refine aw_ops zT fun K5 hK5 => ?_
    simp only [amset, amlib, zset, eq_self, ↓reduceIte, reduceCtorEq, Nat.reduceBEq, Nat.reduceEqDiff, Nat.reduceAdd, Nat.reduceMul, Nat.reduceLeDiff, Nat.reduceLT, Nat.reduceSub]
    refine hK5 _ ?_
    clear hK5
    refine aw_ret ?_
    show resOf zG _ [.cell 2 32] = some _
    simp only [amset, amlib, zset, eq_self, ↓reduceIte, reduceCtorEq, Nat.reduceBEq, Nat.reduceEqDiff, Nat.reduceAdd, Nat.reduceMul, Nat.reduceLeDiff, Nat.reduceLT, Nat.reduceSub]
    simp only [bareE, h0, Bool.true_or, Bool.or_true, Bool.false_or, Bool.or_false, Bool.true_and, Bool.and_true, Bool.false_and, Bool.and_false, Bool.not_true, Bool.not_false, if_true, if_false, ↓reduceIte, Bool.false_eq_true]
    rfl
  · skip
    refine aw_seq fun K6 hK6 => ?_
    refine aw_ops zT fun K7 hK7 => ?_
    simp only [amset, amlib, zset, eq_self, ↓reduceIte, reduceCtorEq, Nat.reduceBEq, Nat.reduceEqDiff, Nat.reduceAdd, Nat.reduceMul, Nat.reduceLeDiff, Nat.reduceLT, Nat.reduceSub]
    refine hK7 _ ?_
    clear hK7
    refine aw_cond rfl (fun h1 => ?_) (fun h1 => ?_)
    · skip
      refine aw_norm (by simp only [amset, amlib, zset, h1, eq_self, ↓reduceIte, reduceCtorEq, Nat.reduceBEq, Nat.reduceEqDiff, Nat.reduceAdd, Nat.reduceMul, Nat.reduceLeDiff, Nat.reduceLT, Nat.reduceSub]; exact rfl) ?_
      refine aw_skip ?_
      simp only [thenQ, blkQ, if_true, reduceIte, Nat.reduceEqDiff, eq_self]
      refine hK6 _ ?_
      clear hK6
      refine aw_cond (t := true) rfl (fun _ => ?_) (fun h => nomatch h)
      refine aw_ops zT fun K8 hK8 => ?_
      simp only [amset, amlib, zset, eq_self, ↓reduceIte, reduceCtorEq, Nat.reduceBEq, Nat.reduceEqDiff, Nat.reduceAdd, Nat.reduceMul, Nat.reduceLeDiff, Nat.reduceLT, Nat.reduceSub]
      refine hK8 _ ?_
      clear hK8
      refine aw_ret ?_
      show resOf zG _ [.cell 2 32] = some _
      simp only [amset, amlib, zset, eq_self, ↓reduceIte, reduceCtorEq, Nat.reduceBEq, Nat.reduceEqDiff, Nat.reduceAdd, Nat.reduceMul, Nat.reduceLeDiff, Nat.reduceLT, Nat.reduceSub]
      simp only [bareE, h0, h1, Bool.true_or, Bool.or_true, Bool.false_or, Bool.or_false, Bool.true_and, Bool.and_true, Bool.false_and, Bool.and_false, Bool.not_true, Bool.not_false, if_true, if_false, ↓reduceIte, Bool.false_eq_true]
      rfl
    · skip
      refine aw_norm (by simp only [amset, amlib, zset, h1, eq_self, ↓reduceIte, reduceCtorEq, Nat.reduceBEq, Nat.reduceEqDiff, Nat.reduceAdd, Nat.reduceMul, Nat.reduceLeDiff, Nat.reduceLT, Nat.reduceSub]; exact rfl) ?_
      refine aw_ops zT fun K9 hK9 => ?_
      simp only [amset, amlib, zset, eq_self, ↓reduceIte, reduceCtorEq, Nat.reduceBEq, Nat.reduceEqDiff, Nat.reduceAdd, Nat.reduceMul, Nat.reduceLeDiff, Nat.reduceLT, Nat.reduceSub]
      refine hK9 _ ?_
      clear hK9
      refine aw_cond rfl (fun h2 => ?_) (fun h2 => ?_)
      · skip
        refine aw_norm (by simp only [amset, amlib, zset, h2, eq_self, ↓reduceIte, reduceCtorEq, Nat.reduceBEq, Nat.reduceEqDiff, Nat.reduceAdd, Nat.reduceMul, Nat.reduceLeDiff, Nat.reduceLT, Nat.reduceSub]; exact rfl) ?_
        refine aw_skip ?_
        simp only [thenQ, blkQ, if_true, reduceIte, Nat.reduceEqDiff, eq_self]
        refine hK6 _ ?_
        clear hK6
        refine aw_cond (t := true) rfl (fun _ => ?_) (fun h => nomatch h)
        refine aw_ops zT fun K10 hK10 => ?_
        simp only [amset, amlib, zset, eq_self, ↓reduceIte, reduceCtorEq, Nat.reduceBEq, Nat.reduceEqDiff, Nat.reduceAdd, Nat.reduceMul, Nat.reduceLeDiff, Nat.reduceLT, Nat.reduceSub]
        refine hK10 _ ?_
        clear hK10
        refine aw_ret ?_
        show resOf zG _ [.cell 2 32] = some _
        simp only [amset, amlib, zset, eq_self, ↓reduceIte, reduceCtorEq, Nat.reduceBEq, Nat.reduceEqDiff, Nat.reduceAdd, Nat.reduceMul, Nat.reduceLeDiff, Nat.reduceLT, Nat.reduceSub]
        simp only [bareE, h0, h1, h2, Bool.true_or, Bool.or_true, Bool.false_or, Bool.or_false, Bool.true_and, Bool.and_true, Bool.false_and, Bool.and_false, Bool.not_true, Bool.not_false, if_true, if_false, ↓reduceIte, Bool.false_eq_true]
        rfl
      · skip
        refine aw_norm (by simp only [amset, amlib, zset, h2, eq_self, ↓reduceIte, reduceCtorEq, Nat.reduceBEq, Nat.reduceEqDiff, Nat.reduceAdd, Nat.reduceMul, Nat.reduceLeDiff, Nat.reduceLT, Nat.reduceSub]; exact rfl) ?_
        refine aw_region zT ?_
        simp only [amset, amlib, zset, eq_self, ↓reduceIte, reduceCtorEq, Nat.reduceBEq, Nat.reduceEqDiff, Nat.reduceAdd, Nat.reduceMul, Nat.reduceLeDiff, Nat.reduceLT, Nat.reduceSub]
        refine hK6 _ ?_
        clear hK6
        refine aw_cond rfl (fun h3 => ?_) (fun h3 => ?_)
        · skip
          refine aw_norm (by simp only [amset, amlib, zset, h3, eq_self, ↓reduceIte, reduceCtorEq, Nat.reduceBEq, Nat.reduceEqDiff, Nat.reduceAdd, Nat.reduceMul, Nat.reduceLeDiff, Nat.reduceLT, Nat.reduceSub]; exact rfl) ?_
          refine aw_ops zT fun K11 hK11 => ?_
          simp only [amset, amlib, zset, eq_self, ↓reduceIte, reduceCtorEq, Nat.reduceBEq, Nat.reduceEqDiff, Nat.reduceAdd, Nat.reduceMul, Nat.reduceLeDiff, Nat.reduceLT, Nat.reduceSub]
          refine hK11 _ ?_
          clear hK11
          refine aw_ret ?_
          show resOf zG _ [.cell 2 32] = some _
          simp only [amset, amlib, zset, eq_self, ↓reduceIte, reduceCtorEq, Nat.reduceBEq, Nat.reduceEqDiff, Nat.reduceAdd, Nat.reduceMul, Nat.reduceLeDiff, Nat.reduceLT, Nat.reduceSub]
          simp only [bareE, h0, h1, h2, h3, Bool.true_or, Bool.or_true, Bool.false_or, Bool.or_false, Bool.true_and, Bool.and_true, Bool.false_and, Bool.and_false, Bool.not_true, Bool.not_false, if_true, if_false, ↓reduceIte, Bool.false_eq_true]
          rfl
        · skip
          refine aw_norm (by simp only [amset, amlib, zset, h3, eq_self, ↓reduceIte, reduceCtorEq, Nat.reduceBEq, Nat.reduceEqDiff, Nat.reduceAdd, Nat.reduceMul, Nat.reduceLeDiff, Nat.reduceLT, Nat.reduceSub]; exact rfl) ?_
          refine aw_skip ?_
          simp only [thenQ, blkQ, if_true, reduceIte, Nat.reduceEqDiff, eq_self]
          refine hK2 _ ?_
          clear hK2
          refine aw_ops zT fun K12 hK12 => ?_
          simp only [amset, amlib, zset, eq_self, ↓reduceIte, reduceCtorEq, Nat.reduceBEq, Nat.reduceEqDiff, Nat.reduceAdd, Nat.reduceMul, Nat.reduceLeDiff, Nat.reduceLT, Nat.reduceSub]
          refine hK12 _ ?_
          clear hK12
          refine aw_ret ?_
          show resOf zG _ [.cell 2 32] = some _
          simp only [amset, amlib, zset, eq_self, ↓reduceIte, reduceCtorEq, Nat.reduceBEq, Nat.reduceEqDiff, Nat.reduceAdd, Nat.reduceMul, Nat.reduceLeDiff, Nat.reduceLT, Nat.reduceSub]
          simp only [bareE, h0, h1, h2, h3, Bool.true_or, Bool.or_true, Bool.false_or, Bool.or_false, Bool.true_and, Bool.and_true, Bool.false_and, Bool.and_false, Bool.not_true, Bool.not_false, if_true, if_false, ↓reduceIte, Bool.false_eq_true]
          rfl
end Go.Proofs.Am
set_option maxRecDepth 100000
namespace Go.Proofs.Am
def arityK (k : Int) : Int := if (k == 1 || k == 2 || k == 4) then 0 else if (k == 3 || k == 5) then 1 else if (k == 6) then 2 else -1
theorem prog73 : Tryz.prog.funcs[73]? = some Tryz.f73 := by kernel_rfl
theorem holds73 (k : Int) : Holds Tryz.prog zG 73 [.c (.int .i64 k)] [.c (.int .i64 (arityK k))] := by
  refine holds_of_body zT prog73 rfl rfl rfl (by simp [Tryz.f73]) ?_
  refine aw_ops zT fun K1 hK1 => ?_
  simp only [amset, amlib, zset, eq_self, ↓reduceIte, reduceCtorEq, Nat.reduceBEq, Nat.reduceEqDiff, Nat.reduceAdd, Nat.reduceMul, Nat.reduceLeDiff, Nat.reduceLT, Nat.reduceSub]
  refine hK1 _ ?_
  clear hK1
  refine aw_seq fun K2 hK2 => ?_
  refine aw_ops zT fun K3 hK3 => ?_
  simp only [amset, amlib, zset, eq_self, ↓reduceIte, reduceCtorEq, Nat.reduceBEq, Nat.reduceEqDiff, Nat.reduceAdd, Nat.reduceMul, Nat.reduceLeDiff, Nat.reduceLT, Nat.reduceSub]
  refine hK3 _ ?_
  clear hK3
  refine aw_block ?_
  refine aw_seq fun K4 hK4 => ?_
  refine aw_ops zT fun K5 hK5 => ?_
  simp only [amset, amlib, zset, eq_self, ↓reduceIte, reduceCtorEq, Nat.reduceBEq, Nat.reduceEqDiff, Nat.reduceAdd, Nat.reduceMul, Nat.reduceLeDiff, Nat.reduceLT, Nat.reduceSub]
  refine hK5 _ ?_
  clear hK5
  refine aw_cond rfl (fun h0 => ?_) (fun h0 => ?_)
  · skip
    refine aw_norm (by simp only [amset, amlib, zset, h0, eq_self, ↓reduceIte, reduceCtorEq, Nat.reduceBEq, Nat.reduceEqDiff, Nat.reduceAdd, Nat.reduceMul, Nat.reduceLeDiff, Nat.reduceLT, Nat.reduceSub]; exact rfl) ?_
    refine aw_skip ?_
    simp only [thenQ, blkQ, if_true, reduceIte, Nat.reduceEqDiff, eq_self]
    refine hK4 _ ?_
    clear hK4
    refine aw_cond (t := true) rfl (fun _ => ?_) (fun h => nomatch h)
    refine aw_ops zT fun K6 hK6 => ?_
    simp only [amset, amlib, zset, eq_self, ↓reduceIte, reduceCtorEq, Nat.reduceBEq, Nat.reduceEqDiff, Nat.reduceAdd, Nat.reduceMul, Nat.reduceLeDiff, Nat.reduceLT, Nat.reduceSub]
    refine hK6 _ ?_
    clear hK6
    refine aw_ret ?_
    show resOf zG _ [.tmp 2] = some _
    simp only [amset, amlib, zset, eq_self, ↓reduceIte, reduceCtorEq, Nat.reduceBEq, Nat.reduceEqDiff, Nat.reduceAdd, Nat.reduceMul, Nat.reduceLeDiff, Nat.reduceLT, Nat.reduceSub]
    simp only [arityK, h0, Bool.true_or, Bool.or_true, Bool.false_or, Bool.or_false, Bool.true_and, Bool.and_true, Bool.false_and, Bool.and_false, Bool.not_true, Bool.not_false, if_true, if_false, ↓reduceIte, Bool.false_eq_true]
  · skip
    refine aw_norm (by simp only [amset, amlib, zset, h0, eq_self, ↓reduceIte, reduceCtorEq, Nat.reduceBEq, Nat.reduceEqDiff, Nat.reduceAdd, Nat.reduceMul, Nat.reduceLeDiff, Nat.reduceLT, Nat.reduceSub]; exact rfl) ?_
    refine aw_ops zT fun K7 hK7 => ?_
    simp only [amset, amlib, zset, eq_self, ↓reduceIte, reduceCtorEq, Nat.reduceBEq, Nat.reduceEqDiff, Nat.reduceAdd, Nat.reduceMul, Nat.reduceLeDiff, Nat.reduceLT, Nat.reduceSub]
    refine hK7 _ ?_
    clear hK7
    refine aw_cond rfl (fun h1 => ?_) (fun h1 => ?_)
    · skip
      refine aw_norm (by simp only [amset, amlib, zset, h1, eq_self, ↓reduceIte, reduceCtorEq, Nat.reduceBEq, Nat.reduceEqDiff, Nat.reduceAdd, Nat.reduceMul, Nat.reduceLeDiff, Nat.reduceLT, Nat.reduceSub]; exact rfl) ?_
      refine aw_skip ?_
      simp only [thenQ, blkQ, if_true, reduceIte, Nat.reduceEqDiff, eq_self]
      refine hK4 _ ?_
      clear hK4
      refine aw_cond (t := true) rfl (fun _ => ?_) (fun h => nomatch h)
      refine aw_ops zT fun K8 hK8 => ?_
      simp only [amset, amlib, zset, eq_self, ↓reduceIte, reduceCtorEq, Nat.reduceBEq, Nat.reduceEqDiff, Nat.reduceAdd, Nat.reduceMul, Nat.reduceLeDiff, Nat.reduceLT, Nat.reduceSub]
      refine hK8 _ ?_
      clear hK8
      refine aw_ret ?_
      show resOf zG _ [.tmp 2] = some _
      simp only [amset, amlib, zset, eq_self, ↓reduceIte, reduceCtorEq, Nat.reduceBEq, Nat.reduceEqDiff, Nat.reduceAdd, Nat.reduceMul, Nat.reduceLeDiff, Nat.reduceLT, Nat.reduceSub]
      simp only [arityK, h0, h1, Bool.true_or, Bool.or_true, Bool.false_or, Bool.or_false, Bool.true_and, Bool.and_true, Bool.false_and, Bool.and_false, Bool.not_true, Bool.not_false, if_true, if_false, ↓reduceIte, Bool.false_eq_true]
    · skip
      refine aw_norm (by simp only [amset, amlib, zset, h1, eq_self, ↓reduceIte, reduceCtorEq, Nat.reduceBEq, Nat.reduceEqDiff, Nat.reduceAdd, Nat.reduceMul, Nat.reduceLeDiff, Nat.reduceLT, Nat.reduceSub]; exact rfl) ?_
      refine aw_region zT ?_
      simp only [amset, amlib, zset, eq_self, ↓reduceIte, reduceCtorEq, Nat.reduceBEq, Nat.reduceEqDiff, Nat.reduceAdd, Nat.reduceMul, Nat.reduceLeDiff, Nat.reduceLT, Nat.reduceSub]
      refine hK4 _ ?_
      clear hK4
      refine aw_cond rfl (fun h2 => ?_) (fun h2 => ?_)
      · skip
        refine aw_norm (by simp only [amset, amlib, zset, h2, eq_self, ↓reduceIte, reduceCtorEq, Nat.reduceBEq, Nat.reduceEqDiff, Nat.reduceAdd, Nat.reduceMul, Nat.reduceLeDiff, Nat.reduceLT, Nat.reduceSub]; exact rfl) ?_
        refine aw_ops zT fun K9 hK9 => ?_
        simp only [amset, amlib, zset, eq_self, ↓reduceIte, reduceCtorEq, Nat.reduceBEq, Nat.reduceEqDiff, Nat.reduceAdd, Nat.reduceMul, Nat.reduceLeDiff, Nat.reduceLT, Nat.reduceSub]
        refine hK9 _ ?_
        clear hK9
        refine aw_ret ?_
        show resOf zG _ [.tmp 2] = some _
        simp only [amset, amlib, zset, eq_self, ↓reduceIte, reduceCtorEq, Nat.reduceBEq, Nat.reduceEqDiff, Nat.reduceAdd, Nat.reduceMul, Nat.reduceLeDiff, Nat.reduceLT, Nat.reduceSub]
        simp only [arityK, h0, h1, h2, Bool.true_or, Bool.or_true, Bool.false_or, Bool.or_false, Bool.true_and, Bool.and_true, Bool.false_and, Bool.and_false, Bool.not_true, Bool.not_false, if_true, if_false, ↓reduceIte, Bool.false_eq_true]
      · skip
        refine aw_norm (by simp only [amset, amlib, zset, h2, eq_self, ↓reduceIte, reduceCtorEq, Nat.reduceBEq, Nat.reduceEqDiff, Nat.reduceAdd, Nat.reduceMul, Nat.reduceLeDiff, Nat.reduceLT, Nat.reduceSub]; exact rfl) ?_
        refine aw_seq fun K10 hK10 => ?_
        refine aw_ops zT fun K11 hK11 => ?_
        simp only [amset, amlib, zset, eq_self, ↓reduceIte, reduceCtorEq, Nat.reduceBEq, Nat.reduceEqDiff, Nat.reduceAdd, Nat.reduceMul, Nat.reduceLeDiff, Nat.reduceLT, Nat.reduceSub]
        refine hK11 _ ?_
        clear hK11
        refine aw_cond rfl (fun h3 => ?_) (fun h3 => ?_)
        · skip
          refine aw_norm (by simp only [amset, amlib, zset, h3, eq_self, ↓reduceIte, reduceCtorEq, Nat.reduceBEq, Nat.reduceEqDiff, Nat.reduceAdd, Nat.reduceMul, Nat.reduceLeDiff, Nat.reduceLT, Nat.reduceSub]; exact rfl) ?_
          refine aw_skip ?_
          simp only [thenQ, blkQ, if_true, reduceIte, Nat.reduceEqDiff, eq_self]
          refine hK10 _ ?_
          clear hK10
          refine aw_cond (t := true) rfl (fun _ => ?_) (fun h => nomatch h)
          refine aw_ops zT fun K12 hK12 => ?_
          simp only [amset, amlib, zset, eq_self, ↓reduceIte, reduceCtorEq, Nat.reduceBEq, Nat.reduceEqDiff, Nat.reduceAdd, Nat.reduceMul, Nat.reduceLeDiff, Nat.reduceLT, Nat.reduceSub]
          refine hK12 _ ?_
          clear hK12
          refine aw_ret ?_
          show resOf zG _ [.tmp 2] = some _
          simp only [amset, amlib, zset, eq_self, ↓reduceIte, reduceCtorEq, Nat.reduceBEq, Nat.reduceEqDiff, Nat.reduceAdd, Nat.reduceMul, Nat.reduceLeDiff, Nat.reduceLT, Nat.reduceSub]
          simp only [arityK, h0, h1, h2, h3, Bool.true_or, Bool.or_true, Bool.false_or, Bool.or_false, Bool.true_and, Bool.and_true, Bool.false_and, Bool.and_false, Bool.not_true, Bool.not_false, if_true, if_false, ↓reduceIte, Bool.false_eq_true]
        · skip
          refine aw_norm (by simp only [amset, amlib, zset, h3, eq_self, ↓reduceIte, reduceCtorEq, Nat.reduceBEq, Nat.reduceEqDiff, Nat.reduceAdd, Nat.reduceMul, Nat.reduceLeDiff, Nat.reduceLT, Nat.reduceSub]; exact rfl) ?_
          refine aw_region zT ?_
          simp only [amset, amlib, zset, eq_self, ↓reduceIte, reduceCtorEq, Nat.reduceBEq, Nat.reduceEqDiff, Nat.reduceAdd, Nat.reduceMul, Nat.reduceLeDiff, Nat.reduceLT, Nat.reduceSub]
          refine hK10 _ ?_
          clear hK10
          refine aw_cond rfl (fun h4 => ?_) (fun h4 => ?_)
          · skip
            refine aw_norm (by simp only [amset, amlib, zset, h4, eq_self, ↓reduceIte, reduceCtorEq, Nat.reduceBEq, Nat.reduceEqDiff, Nat.reduceAdd, Nat.reduceMul, Nat.reduceLeDiff, Nat.reduceLT, Nat.reduceSub]; exact rfl) ?_
            refine aw_ops zT fun K13 hK13 => ?_
            simp only [amset, amlib, zset, eq_self, ↓reduceIte, reduceCtorEq, Nat.reduceBEq, Nat.reduceEqDiff, Nat.reduceAdd, Nat.reduceMul, Nat.reduceLeDiff, Nat.reduceLT, Nat.reduceSub]
            refine hK13 _ ?_
            clear hK13
            refine aw_ret ?_
            show resOf zG _ [.tmp 2] = some _
            simp only [amset, amlib, zset, eq_self, ↓reduceIte, reduceCtorEq, Nat.reduceBEq, Nat.reduceEqDiff, Nat.reduceAdd, Nat.reduceMul, Nat.reduceLeDiff, Nat.reduceLT, Nat.reduceSub]
            simp only [arityK, h0, h1, h2, h3, h4, Bool.true_or, Bool.or_true, Bool.false_or, Bool.or_false, Bool.true_and, Bool.and_true, Bool.false_and, Bool.and_false, Bool.not_true, Bool.not_false, if_true, if_false, ↓reduceIte, Bool.false_eq_true]
          · skip
            refine aw_norm (by simp only [amset, amlib, zset, h4, eq_self, ↓reduceIte, reduceCtorEq, Nat.reduceBEq, Nat.reduceEqDiff, Nat.reduceAdd, Nat.reduceMul, Nat.reduceLeDiff, Nat.reduceLT, Nat.reduceSub]; exact rfl) ?_
            refine aw_ops zT fun K14 hK14 => ?_
            simp only [amset, amlib, zset, eq_self, ↓reduceIte, reduceCtorEq, Nat.reduceBEq, Nat.reduceEqDiff, Nat.reduceAdd, Nat.reduceMul, Nat.reduceLeDiff, Nat.reduceLT, Nat.reduceSub]
            refine hK14 _ ?_
            clear hK14
            refine aw_cond rfl (fun h5 => ?_) (fun h5 => ?_)
            · skip
              refine aw_ops zT fun K15 hK15 => ?_
              simp only [amset, amlib, zset, eq_self, ↓reduceIte, reduceCtorEq, Nat.reduceBEq, Nat.reduceEqDiff, Nat.reduceAdd, Nat.reduceMul, Nat.reduceLeDiff, Nat.reduceLT, Nat.reduceSub]
              refine hK15 _ ?_
              clear hK15
              refine aw_ret ?_
              show resOf zG _ [.tmp 2] = some _
              simp only [amset, amlib, zset, eq_self, ↓reduceIte, reduceCtorEq, Nat.reduceBEq, Nat.reduceEqDiff, Nat.reduceAdd, Nat.reduceMul, Nat.reduceLeDiff, Nat.reduceLT, Nat.reduceSub]
              simp only [arityK, h0, h1, h2, h3, h4, h5, Bool.true_or, Bool.or_true, Bool.false_or, Bool.or_false, Bool.true_and, Bool.and_true, Bool.false_and, Bool.and_false, Bool.not_true, Bool.not_false, if_true, if_false, ↓reduceIte, Bool.false_eq_true]
            · skip
              refine aw_skip ?_
              simp only [thenQ, blkQ, if_true, reduceIte, Nat.reduceEqDiff, eq_self]
              refine hK2 _ ?_
              clear hK2
              refine aw_ops zT fun K16 hK16 => ?_
              simp only [amset, amlib, zset, eq_self, ↓reduceIte, reduceCtorEq, Nat.reduceBEq, Nat.reduceEqDiff, Nat.reduceAdd, Nat.reduceMul, Nat.reduceLeDiff, Nat.reduceLT, Nat.reduceSub]
              refine hK16 _ ?_
              clear hK16
              refine aw_ret ?_
              show resOf zG _ [.tmp 2] = some _
              simp only [amset, amlib, zset, eq_self, ↓reduceIte, reduceCtorEq, Nat.reduceBEq, Nat.reduceEqDiff, Nat.reduceAdd, Nat.reduceMul, Nat.reduceLeDiff, Nat.reduceLT, Nat.reduceSub]
              simp only [arityK, h0, h1, h2, h3, h4, h5, Bool.true_or, Bool.or_true, Bool.false_or, Bool.or_false, Bool.true_and, Bool.and_true, Bool.false_and, Bool.and_false, Bool.not_true, Bool.not_false, if_true, if_false, ↓reduceIte, Bool.false_eq_true]
end Go.Proofs.Am
set_option maxRecDepth 100000
namespace Go.Proofs.Am
def kws : List (List UInt8) := [[99, 104, 97, 110, 110, 101, 108],
  [99, 104, 101, 99, 107, 112, 111, 105, 110, 116],
  [99, 111, 110, 115, 116],
  [100, 101, 97, 100, 108, 105, 110, 101],
  [101, 108, 115, 101],
  [101, 109, 105, 116],
  [101, 118, 101, 114, 121],
  [102, 114, 101, 115, 104],
  [105, 102],
  [108, 101, 116],
  [111, 110],
  [111, 117, 116, 112, 117, 116],
  [114, 101, 97, 100],
  [114, 101, 112, 101, 97, 116],
  [114, 101, 116, 117, 114, 110],
  [115, 101, 110, 100],
  [115, 101, 110, 115, 111, 114],
  [116, 97, 115, 107],
  [116, 111, 103, 101, 116, 104, 101, 114],
  [118, 97, 114],
  [119, 104, 105, 108, 101],
  [119, 105, 116, 104, 105, 110]]
theorem prog148 : Tryz.prog.funcs[148]? = some Tryz.f148 := by kernel_rfl
theorem holds148  : Holds Tryz.prog zG 148 [] [.c (.sl 1 (encStrs kws))] := by
  refine holds_of_body zT prog148 rfl rfl rfl (by simp [Tryz.f148]) ?_
  refine aw_ops zT fun K1 hK1 => ?_
  simp only [amset, amlib, zset, eq_self, ↓reduceIte, reduceCtorEq, Nat.reduceBEq, Nat.reduceEqDiff, Nat.reduceAdd, Nat.reduceMul, Nat.reduceLeDiff, Nat.reduceLT, Nat.reduceSub]
  refine hK1 _ ?_
  clear hK1
  refine aw_ops zT fun K2 hK2 => ?_
  simp only [amset, amlib, zset, eq_self, ↓reduceIte, reduceCtorEq, Nat.reduceBEq, Nat.reduceEqDiff, Nat.reduceAdd, Nat.reduceMul, Nat.reduceLeDiff, Nat.reduceLT, Nat.reduceSub]
  refine hK2 _ ?_
  clear hK2
  refine aw_ret ?_
  show resOf zG _ [.tmp 0] = some _
  simp only [amset, amlib, zset, eq_self, ↓reduceIte, reduceCtorEq, Nat.reduceBEq, Nat.reduceEqDiff, Nat.reduceAdd, Nat.reduceMul, Nat.reduceLeDiff, Nat.reduceLT, Nat.reduceSub]
  rfl
end Go.Proofs.Am
set_option maxRecDepth 100000
namespace Go.Proofs.Am
def isLetter (y : UInt8) : Bool := (decide ((y.toNat : Int) ≥ 97) && decide ((y.toNat : Int) ≤ 122)) || (decide ((y.toNat : Int) ≥ 65) && decide ((y.toNat : Int) ≤ 90)) || ((y.toNat : Int) == 95)
def okB (i : Nat) (y : UInt8) : Bool := isLetter y || (!((i : Int) == 0) && !decide ((y.toNat : Int) < 48) && !decide ((y.toNat : Int) > 57))
def bytesOk : Nat → List UInt8 → Bool
  | _, [] => true
  | i, c :: r => okB i c && bytesOk (i + 1) r
theorem bytesOk_append (a b : List UInt8) (i : Nat) : bytesOk i (a ++ b) = (bytesOk i a && bytesOk (i + a.length) b) := by
  induction a generalizing i with
  | nil => simp [bytesOk]
  | cons x r ih => simp [bytesOk, ih, Bool.and_assoc, Nat.add_assoc, Nat.add_comm 1]
def ident (s : List UInt8) : Bool := kws.all (fun k => !(s == k)) && bytesOk 0 s && decide ((s.length : Int) ≥ 1) && decide ((s.length : Int) ≤ 32)
theorem prog74 : Tryz.prog.funcs[74]? = some Tryz.f74 := by kernel_rfl
theorem holds74 (s : List UInt8) : Holds Tryz.prog zG 74 [.c (.str s)] [.c (.bool (ident s))] := by
  refine holds_of_body zT prog74 rfl rfl rfl (by simp [Tryz.f74]) ?_
  refine aw_ops zT fun K1 hK1 => ?_
  simp only [amset, amlib, zset, eq_self, ↓reduceIte, reduceCtorEq, Nat.reduceBEq, Nat.reduceEqDiff, Nat.reduceAdd, Nat.reduceMul, Nat.reduceLeDiff, Nat.reduceLT, Nat.reduceSub]
  refine hK1 _ ?_
  clear hK1
  refine aw_seq fun K2 hK2 => ?_
  refine aw_ops zT fun K3 hK3 => ?_
  simp only [amset, amlib, zset, eq_self, ↓reduceIte, reduceCtorEq, Nat.reduceBEq, Nat.reduceEqDiff, Nat.reduceAdd, Nat.reduceMul, Nat.reduceLeDiff, Nat.reduceLT, Nat.reduceSub]
  refine ⟨_, holds148, ?_⟩
  simp only [amset, later, amlib, zset, eq_self, ↓reduceIte, reduceCtorEq, Nat.reduceBEq, Nat.reduceEqDiff, Nat.reduceAdd, Nat.reduceMul, Nat.reduceLeDiff, Nat.reduceLT, Nat.reduceSub]
  intros
  refine hK3 _ ?_
  clear hK3
  refine aw_block ?_
  refine aw_range (α := (List UInt8)) (kws) (fun dn => dn.all (fun k => !(s == k)) = true) (fun dn => [(10, .cell (.c (.int .i64 dn.length)))]) (fun dn => []) [] [2, 4, 10, 11, 12, 13, 14, 15, 16, 17] [] rfl ?_ ?_ ?_ ?_
  · simp only [amset, amlib, zset, eq_self, ↓reduceIte, reduceCtorEq, Nat.reduceBEq, Nat.reduceEqDiff, Nat.reduceAdd, Nat.reduceMul, Nat.reduceLeDiff, Nat.reduceLT, Nat.reduceSub] <;> simp [eq_self]
  · simp only [amset, amlib, zset, eq_self, ↓reduceIte, reduceCtorEq, Nat.reduceBEq, Nat.reduceEqDiff, Nat.reduceAdd, Nat.reduceMul, Nat.reduceLeDiff, Nat.reduceLT, Nat.reduceSub] <;> simp [eq_self]
  · intro hI R
    refine aw_norm (by simp only [amset, amlib, zset, eq_self, ↓reduceIte, reduceCtorEq, Nat.reduceBEq, Nat.reduceEqDiff, Nat.reduceAdd, Nat.reduceMul, Nat.reduceLeDiff, Nat.reduceLT, Nat.reduceSub]; exact rfl) ?_
    refine aw_ops zT fun K4 hK4 => ?_
    simp only [amset, amlib, zset, eq_self, ↓reduceIte, reduceCtorEq, Nat.reduceBEq, Nat.reduceEqDiff, Nat.reduceAdd, Nat.reduceMul, Nat.reduceLeDiff, Nat.reduceLT, Nat.reduceSub]
    refine hK4 _ ?_
    clear hK4
    refine aw_seq fun K5 hK5 => ?_
    refine aw_cond (t := false) (by simp [evalO, S.get, amLook]) (fun h => nomatch h) (fun _ => ?_)
    refine aw_exit ?_
    simp only [thenQ, blkQ, if_true, reduceIte, Nat.reduceEqDiff, eq_self]
    refine hK2 _ ?_
    clear hK2
    refine aw_seq fun K6 hK6 => ?_
    refine aw_ops zT fun K7 hK7 => ?_
    simp only [amset, amlib, zset, eq_self, ↓reduceIte, reduceCtorEq, Nat.reduceBEq, Nat.reduceEqDiff, Nat.reduceAdd, Nat.reduceMul, Nat.reduceLeDiff, Nat.reduceLT, Nat.reduceSub]
    refine hK7 _ ?_
    clear hK7
    refine aw_block ?_
    refine aw_to ⟨[(0, .cell (.c (.str s))), (5, .cell (.c (.int .i64 0)))], []⟩ ?_ ?_ ?_
    · simp only [amset, amlib, zset, eq_self, ↓reduceIte, reduceCtorEq, Nat.reduceBEq, Nat.reduceEqDiff, Nat.reduceAdd, Nat.reduceMul, Nat.reduceLeDiff, Nat.reduceLT, Nat.reduceSub] <;> simp [eq_self]
    · simp only [amset, amlib, zset, eq_self, ↓reduceIte, reduceCtorEq, Nat.reduceBEq, Nat.reduceEqDiff, Nat.reduceAdd, Nat.reduceMul, Nat.reduceLeDiff, Nat.reduceLT, Nat.reduceSub] <;> simp [eq_self]
    refine aw_range (α := UInt8) (s) (fun dn1 => bytesOk 0 dn1 = true) (fun dn1 => [(5, .cell (.c (.int .i64 dn1.length)))]) (fun dn1 => []) [] [2, 5, 6, 7, 18, 19, 20, 21, 22, 23, 24, 25, 26, 27, 28, 29, 30, 31, 32, 33, 34, 35, 36, 37, 38, 39, 40, 41, 42, 43, 44, 45, 46, 47, 48, 49, 50, 51, 52, 53, 54, 55, 56, 57, 58] [] rfl ?_ ?_ ?_ ?_
    · simp only [amset, amlib, zset, eq_self, ↓reduceIte, reduceCtorEq, Nat.reduceBEq, Nat.reduceEqDiff, Nat.reduceAdd, Nat.reduceMul, Nat.reduceLeDiff, Nat.reduceLT, Nat.reduceSub] <;> simp [eq_self]
    · simp only [amset, amlib, zset, eq_self, ↓reduceIte, reduceCtorEq, Nat.reduceBEq, Nat.reduceEqDiff, Nat.reduceAdd, Nat.reduceMul, Nat.reduceLeDiff, Nat.reduceLT, Nat.reduceSub] <;> simp [eq_self]
    · intro hI1 R1
      refine aw_norm (by simp only [amset, amlib, zset, eq_self, ↓reduceIte, reduceCtorEq, Nat.reduceBEq, Nat.reduceEqDiff, Nat.reduceAdd, Nat.reduceMul, Nat.reduceLeDiff, Nat.reduceLT, Nat.reduceSub]; exact rfl) ?_
      refine aw_seq fun K8 hK8 => ?_
      refine aw_ops zT fun K9 hK9 => ?_
      simp only [amset, amlib, zset, eq_self, ↓reduceIte, reduceCtorEq, Nat.reduceBEq, Nat.reduceEqDiff, Nat.reduceAdd, Nat.reduceMul, Nat.reduceLeDiff, Nat.reduceLT, Nat.reduceSub]
      intros
      refine hK9 _ ?_
      clear hK9
      refine aw_cond (t := false) (by simp [evalO, S.get, amLook]) (fun h => nomatch h) (fun _ => ?_)
      refine aw_exit ?_
      simp only [thenQ, blkQ, if_true, reduceIte, Nat.reduceEqDiff, eq_self]
      refine hK6 _ ?_
      clear hK6
      refine aw_ops zT fun K10 hK10 => ?_
      cases f1 : decide ((s.length : Int) ≥ 1) with
      | true =>
        cases f2 : decide ((s.length : Int) ≤ 32) with
        | true =>
          simp only [amset, amlib, zset, f1, f2, eq_self, ↓reduceIte, reduceCtorEq, Nat.reduceBEq, Nat.reduceEqDiff, Nat.reduceAdd, Nat.reduceMul, Nat.reduceLeDiff, Nat.reduceLT, Nat.reduceSub]
          intros
          intros
          refine hK10 _ ?_
          clear hK10
          refine aw_ret ?_
          show resOf zG _ [.tmp 2] = some _
          simp only [amset, amlib, zset, eq_self, ↓reduceIte, reduceCtorEq, Nat.reduceBEq, Nat.reduceEqDiff, Nat.reduceAdd, Nat.reduceMul, Nat.reduceLeDiff, Nat.reduceLT, Nat.reduceSub]
          simp only [ident, hI, hI1, f1, f2]
          rfl
        | false =>
          simp only [amset, amlib, zset, f1, f2, eq_self, ↓reduceIte, reduceCtorEq, Nat.reduceBEq, Nat.reduceEqDiff, Nat.reduceAdd, Nat.reduceMul, Nat.reduceLeDiff, Nat.reduceLT, Nat.reduceSub]
          intros
          intros
          refine hK10 _ ?_
          clear hK10
          refine aw_ret ?_
          show resOf zG _ [.tmp 2] = some _
          simp only [amset, amlib, zset, eq_self, ↓reduceIte, reduceCtorEq, Nat.reduceBEq, Nat.reduceEqDiff, Nat.reduceAdd, Nat.reduceMul, Nat.reduceLeDiff, Nat.reduceLT, Nat.reduceSub]
          simp only [ident, hI, hI1, f1, f2]
          rfl
      | false =>
        simp only [amset, amlib, zset, f1, eq_self, ↓reduceIte, reduceCtorEq, Nat.reduceBEq, Nat.reduceEqDiff, Nat.reduceAdd, Nat.reduceMul, Nat.reduceLeDiff, Nat.reduceLT, Nat.reduceSub]
        intros
        intros
        refine hK10 _ ?_
        clear hK10
        refine aw_ret ?_
        show resOf zG _ [.tmp 2] = some _
        simp only [amset, amlib, zset, eq_self, ↓reduceIte, reduceCtorEq, Nat.reduceBEq, Nat.reduceEqDiff, Nat.reduceAdd, Nat.reduceMul, Nat.reduceLeDiff, Nat.reduceLT, Nat.reduceSub]
        simp only [ident, hI, hI1, f1]
        rfl
    · intro dn1 y1 td1 harg1 hI1 R1 hR1
      have hl1 : (s).length = dn1.length + (td1.length + 1) := by rw [harg1]; simp
      have hmem1 : y1 ∈ s := by rw [harg1]; simp
      refine aw_norm (by simp only [amset, amlib, zset, eq_self, ↓reduceIte, reduceCtorEq, Nat.reduceBEq, Nat.reduceEqDiff, Nat.reduceAdd, Nat.reduceMul, Nat.reduceLeDiff, Nat.reduceLT, Nat.reduceSub]; exact rfl) ?_
      have hget1 : s.getD dn1.length 0 = y1 := by rw [harg1]; simp
      refine aw_seq fun K11 hK11 => ?_
      refine aw_ops zT fun K12 hK12 => ?_
      simp only [amset, amlib, zset, eq_self, ↓reduceIte, reduceCtorEq, Nat.reduceBEq, Nat.reduceEqDiff, Nat.reduceAdd, Nat.reduceMul, Nat.reduceLeDiff, Nat.reduceLT, Nat.reduceSub]
      intros
      refine hK12 _ ?_
      clear hK12
      refine aw_cond (t := true) (by simp [evalO, S.get, amLook]; omega) (fun _ => ?_) (fun h => nomatch h)
      refine aw_skip ?_
      simp only [thenQ, blkQ, if_true, reduceIte, Nat.reduceEqDiff, eq_self]
      refine hK11 _ ?_
      clear hK11
      refine aw_seq fun K13 hK13 => ?_
      refine aw_block ?_
      refine aw_ops zT fun K14 hK14 => ?_
      simp only [amset, amlib, zset, hget1, eq_self, ↓reduceIte, reduceCtorEq, Nat.reduceBEq, Nat.reduceEqDiff, Nat.reduceAdd, Nat.reduceMul, Nat.reduceLeDiff, Nat.reduceLT, Nat.reduceSub]
      refine ⟨⟨by omega, by omega⟩, ?_⟩
      refine hK14 _ ?_
      clear hK14
      refine aw_ops zT fun K15 hK15 => ?_
      have keyK15 : ∀ E B, envIn E ([(0, .cell (.c (.str s))), (5, .cell (.c (.int .i64 dn1.length))), (6, .cell (.c (.int .u8 y1.toNat))), (7, .cell (.c (.bool (isLetter y1))))] : List (Nat × V)) → envIn B ([] : List (Nat × List Cell)) → K15 ⟨E, B⟩ := by
        intro E B he hb
        refine hK15 _ (aw_to ⟨[(0, .cell (.c (.str s))), (5, .cell (.c (.int .i64 dn1.length))), (6, .cell (.c (.int .u8 y1.toNat))), (7, .cell (.c (.bool (isLetter y1))))], []⟩ he hb ?_)
        refine aw_ops zT fun K16 hK16 => ?_
        cases l : isLetter y1 with
        | true =>
          simp only [amset, amlib, zset, l, eq_self, ↓reduceIte, reduceCtorEq, Nat.reduceBEq, Nat.reduceEqDiff, Nat.reduceAdd, Nat.reduceMul, Nat.reduceLeDiff, Nat.reduceLT, Nat.reduceSub]
          refine hK16 _ ?_
          clear hK16
          refine aw_cond (t := false) rfl (fun h => nomatch h) (fun _ => ?_)
          refine aw_skip ?_
          simp only [thenQ, blkQ, if_true, reduceIte, Nat.reduceEqDiff, eq_self]
          refine hK13 _ ?_
          clear hK13
          refine aw_region zT ?_
          simp only [amset, amlib, zset, eq_self, ↓reduceIte, reduceCtorEq, Nat.reduceBEq, Nat.reduceEqDiff, Nat.reduceAdd, Nat.reduceMul, Nat.reduceLeDiff, Nat.reduceLT, Nat.reduceSub]
          refine ⟨⟨by omega, by omega⟩, ?_⟩
          refine hR1 _ (by rw [bytesOk_append, hI1]; simp only [bytesOk, okB, Nat.zero_add]; simp only [l]; rfl) ?_
          refine Reach.to ?_ ?_
          · simp only [amset, amlib, zset, eq_self, ↓reduceIte, reduceCtorEq, Nat.reduceBEq, Nat.reduceEqDiff, Nat.reduceAdd, Nat.reduceMul, Nat.reduceLeDiff, Nat.reduceLT, Nat.reduceSub] <;> simp [eq_self]
          · simp only [amset, amlib, zset, eq_self, ↓reduceIte, reduceCtorEq, Nat.reduceBEq, Nat.reduceEqDiff, Nat.reduceAdd, Nat.reduceMul, Nat.reduceLeDiff, Nat.reduceLT, Nat.reduceSub] <;> simp [eq_self]
        | false =>
          cases e1 : ((dn1.length : Int) == 0) with
          | true =>
            simp only [amset, amlib, zset, l, e1, eq_self, ↓reduceIte, reduceCtorEq, Nat.reduceBEq, Nat.reduceEqDiff, Nat.reduceAdd, Nat.reduceMul, Nat.reduceLeDiff, Nat.reduceLT, Nat.reduceSub]
            refine hK16 _ ?_
            clear hK16
            refine aw_cond (t := true) rfl (fun _ => ?_) (fun h => nomatch h)
            refine aw_ops zT fun K17 hK17 => ?_
            simp only [amset, amlib, zset, eq_self, ↓reduceIte, reduceCtorEq, Nat.reduceBEq, Nat.reduceEqDiff, Nat.reduceAdd, Nat.reduceMul, Nat.reduceLeDiff, Nat.reduceLT, Nat.reduceSub]
            refine hK17 _ ?_
            clear hK17
            refine aw_ret ?_
            show resOf zG _ [.tmp 2] = some _
            simp only [amset, amlib, zset, eq_self, ↓reduceIte, reduceCtorEq, Nat.reduceBEq, Nat.reduceEqDiff, Nat.reduceAdd, Nat.reduceMul, Nat.reduceLeDiff, Nat.reduceLT, Nat.reduceSub]
            have hb : bytesOk 0 s = false := by
              rw [harg1, bytesOk_append]
              simp only [bytesOk, okB, Nat.zero_add, l, e1]
              simp
            simp [ident, hb]
          | false =>
            cases e2 : decide ((y1.toNat : Int) < 48) with
            | true =>
              simp only [amset, amlib, zset, l, e1, e2, eq_self, ↓reduceIte, reduceCtorEq, Nat.reduceBEq, Nat.reduceEqDiff, Nat.reduceAdd, Nat.reduceMul, Nat.reduceLeDiff, Nat.reduceLT, Nat.reduceSub]
              refine hK16 _ ?_
              clear hK16
              refine aw_cond (t := true) rfl (fun _ => ?_) (fun h => nomatch h)
              refine aw_ops zT fun K18 hK18 => ?_
              simp only [amset, amlib, zset, eq_self, ↓reduceIte, reduceCtorEq, Nat.reduceBEq, Nat.reduceEqDiff, Nat.reduceAdd, Nat.reduceMul, Nat.reduceLeDiff, Nat.reduceLT, Nat.reduceSub]
              refine hK18 _ ?_
              clear hK18
              refine aw_ret ?_
              show resOf zG _ [.tmp 2] = some _
              simp only [amset, amlib, zset, eq_self, ↓reduceIte, reduceCtorEq, Nat.reduceBEq, Nat.reduceEqDiff, Nat.reduceAdd, Nat.reduceMul, Nat.reduceLeDiff, Nat.reduceLT, Nat.reduceSub]
              have hb : bytesOk 0 s = false := by
                rw [harg1, bytesOk_append]
                simp only [bytesOk, okB, Nat.zero_add, l, e1, e2]
                simp
              simp [ident, hb]
            | false =>
              cases e3 : decide ((y1.toNat : Int) > 57) with
              | true =>
                simp only [amset, amlib, zset, l, e1, e2, e3, eq_self, ↓reduceIte, reduceCtorEq, Nat.reduceBEq, Nat.reduceEqDiff, Nat.reduceAdd, Nat.reduceMul, Nat.reduceLeDiff, Nat.reduceLT, Nat.reduceSub]
                refine hK16 _ ?_
                clear hK16
                refine aw_cond (t := true) rfl (fun _ => ?_) (fun h => nomatch h)
                refine aw_ops zT fun K19 hK19 => ?_
                simp only [amset, amlib, zset, eq_self, ↓reduceIte, reduceCtorEq, Nat.reduceBEq, Nat.reduceEqDiff, Nat.reduceAdd, Nat.reduceMul, Nat.reduceLeDiff, Nat.reduceLT, Nat.reduceSub]
                refine hK19 _ ?_
                clear hK19
                refine aw_ret ?_
                show resOf zG _ [.tmp 2] = some _
                simp only [amset, amlib, zset, eq_self, ↓reduceIte, reduceCtorEq, Nat.reduceBEq, Nat.reduceEqDiff, Nat.reduceAdd, Nat.reduceMul, Nat.reduceLeDiff, Nat.reduceLT, Nat.reduceSub]
                have hb : bytesOk 0 s = false := by
                  rw [harg1, bytesOk_append]
                  simp only [bytesOk, okB, Nat.zero_add, l, e1, e2, e3]
                  simp
                simp [ident, hb]
              | false =>
                simp only [amset, amlib, zset, l, e1, e2, e3, eq_self, ↓reduceIte, reduceCtorEq, Nat.reduceBEq, Nat.reduceEqDiff, Nat.reduceAdd, Nat.reduceMul, Nat.reduceLeDiff, Nat.reduceLT, Nat.reduceSub]
                refine hK16 _ ?_
                clear hK16
                refine aw_cond (t := false) rfl (fun h => nomatch h) (fun _ => ?_)
                refine aw_skip ?_
                simp only [thenQ, blkQ, if_true, reduceIte, Nat.reduceEqDiff, eq_self]
                refine hK13 _ ?_
                clear hK13
                refine aw_region zT ?_
                simp only [amset, amlib, zset, eq_self, ↓reduceIte, reduceCtorEq, Nat.reduceBEq, Nat.reduceEqDiff, Nat.reduceAdd, Nat.reduceMul, Nat.reduceLeDiff, Nat.reduceLT, Nat.reduceSub]
                refine ⟨⟨by omega, by omega⟩, ?_⟩
                refine hR1 _ (by rw [bytesOk_append, hI1]; simp only [bytesOk, okB, Nat.zero_add]; simp only [l, e1, e2, e3]; rfl) ?_
                refine Reach.to ?_ ?_
                · simp only [amset, amlib, zset, eq_self, ↓reduceIte, reduceCtorEq, Nat.reduceBEq, Nat.reduceEqDiff, Nat.reduceAdd, Nat.reduceMul, Nat.reduceLeDiff, Nat.reduceLT, Nat.reduceSub] <;> simp [eq_self]
                · simp only [amset, amlib, zset, eq_self, ↓reduceIte, reduceCtorEq, Nat.reduceBEq, Nat.reduceEqDiff, Nat.reduceAdd, Nat.reduceMul, Nat.reduceLeDiff, Nat.reduceLT, Nat.reduceSub] <;> simp [eq_self]
      cases a1 : decide ((y1.toNat : Int) ≥ 97) with
      | true =>
        cases a2 : decide ((y1.toNat : Int) ≤ 122) with
        | true =>
          simp only [amset, amlib, zset, a1, a2, eq_self, ↓reduceIte, reduceCtorEq, Nat.reduceBEq, Nat.reduceEqDiff, Nat.reduceAdd, Nat.reduceMul, Nat.reduceLeDiff, Nat.reduceLT, Nat.reduceSub]
          refine keyK15 _ _ ?_ ?_
          · simp only [amset, amlib, zset, eq_self, ↓reduceIte, reduceCtorEq, Nat.reduceBEq, Nat.reduceEqDiff, Nat.reduceAdd, Nat.reduceMul, Nat.reduceLeDiff, Nat.reduceLT, Nat.reduceSub] <;> simp [isLetter, a1, a2]
          · simp only [amset, amlib, zset, eq_self, ↓reduceIte, reduceCtorEq, Nat.reduceBEq, Nat.reduceEqDiff, Nat.reduceAdd, Nat.reduceMul, Nat.reduceLeDiff, Nat.reduceLT, Nat.reduceSub]
        | false =>
          cases b1 : decide ((y1.toNat : Int) ≥ 65) with
          | true =>
            cases b2 : decide ((y1.toNat : Int) ≤ 90) with
            | true =>
              simp only [amset, amlib, zset, a1, a2, b1, b2, eq_self, ↓reduceIte, reduceCtorEq, Nat.reduceBEq, Nat.reduceEqDiff, Nat.reduceAdd, Nat.reduceMul, Nat.reduceLeDiff, Nat.reduceLT, Nat.reduceSub]
              refine keyK15 _ _ ?_ ?_
              · simp only [amset, amlib, zset, eq_self, ↓reduceIte, reduceCtorEq, Nat.reduceBEq, Nat.reduceEqDiff, Nat.reduceAdd, Nat.reduceMul, Nat.reduceLeDiff, Nat.reduceLT, Nat.reduceSub] <;> simp [isLetter, a1, a2, b1, b2]
              · simp only [amset, amlib, zset, eq_self, ↓reduceIte, reduceCtorEq, Nat.reduceBEq, Nat.reduceEqDiff, Nat.reduceAdd, Nat.reduceMul, Nat.reduceLeDiff, Nat.reduceLT, Nat.reduceSub]
            | false =>
              cases d : ((y1.toNat : Int) == 95) with
              | true =>
                simp only [amset, amlib, zset, a1, a2, b1, b2, d, eq_self, ↓reduceIte, reduceCtorEq, Nat.reduceBEq, Nat.reduceEqDiff, Nat.reduceAdd, Nat.reduceMul, Nat.reduceLeDiff, Nat.reduceLT, Nat.reduceSub]
                refine keyK15 _ _ ?_ ?_
                · simp only [amset, amlib, zset, eq_self, ↓reduceIte, reduceCtorEq, Nat.reduceBEq, Nat.reduceEqDiff, Nat.reduceAdd, Nat.reduceMul, Nat.reduceLeDiff, Nat.reduceLT, Nat.reduceSub] <;> simp [isLetter, a1, a2, b1, b2, d]
                · simp only [amset, amlib, zset, eq_self, ↓reduceIte, reduceCtorEq, Nat.reduceBEq, Nat.reduceEqDiff, Nat.reduceAdd, Nat.reduceMul, Nat.reduceLeDiff, Nat.reduceLT, Nat.reduceSub]
              | false =>
                simp only [amset, amlib, zset, a1, a2, b1, b2, d, eq_self, ↓reduceIte, reduceCtorEq, Nat.reduceBEq, Nat.reduceEqDiff, Nat.reduceAdd, Nat.reduceMul, Nat.reduceLeDiff, Nat.reduceLT, Nat.reduceSub]
                refine keyK15 _ _ ?_ ?_
                · simp only [amset, amlib, zset, eq_self, ↓reduceIte, reduceCtorEq, Nat.reduceBEq, Nat.reduceEqDiff, Nat.reduceAdd, Nat.reduceMul, Nat.reduceLeDiff, Nat.reduceLT, Nat.reduceSub] <;> simp [isLetter, a1, a2, b1, b2, d]
                · simp only [amset, amlib, zset, eq_self, ↓reduceIte, reduceCtorEq, Nat.reduceBEq, Nat.reduceEqDiff, Nat.reduceAdd, Nat.reduceMul, Nat.reduceLeDiff, Nat.reduceLT, Nat.reduceSub]
          | false =>
            cases d : ((y1.toNat : Int) == 95) with
            | true =>
              simp only [amset, amlib, zset, a1, a2, b1, d, eq_self, ↓reduceIte, reduceCtorEq, Nat.reduceBEq, Nat.reduceEqDiff, Nat.reduceAdd, Nat.reduceMul, Nat.reduceLeDiff, Nat.reduceLT, Nat.reduceSub]
              refine keyK15 _ _ ?_ ?_
              · simp only [amset, amlib, zset, eq_self, ↓reduceIte, reduceCtorEq, Nat.reduceBEq, Nat.reduceEqDiff, Nat.reduceAdd, Nat.reduceMul, Nat.reduceLeDiff, Nat.reduceLT, Nat.reduceSub] <;> simp [isLetter, a1, a2, b1, d]
              · simp only [amset, amlib, zset, eq_self, ↓reduceIte, reduceCtorEq, Nat.reduceBEq, Nat.reduceEqDiff, Nat.reduceAdd, Nat.reduceMul, Nat.reduceLeDiff, Nat.reduceLT, Nat.reduceSub]
            | false =>
              simp only [amset, amlib, zset, a1, a2, b1, d, eq_self, ↓reduceIte, reduceCtorEq, Nat.reduceBEq, Nat.reduceEqDiff, Nat.reduceAdd, Nat.reduceMul, Nat.reduceLeDiff, Nat.reduceLT, Nat.reduceSub]
              refine keyK15 _ _ ?_ ?_
              · simp only [amset, amlib, zset, eq_self, ↓reduceIte, reduceCtorEq, Nat.reduceBEq, Nat.reduceEqDiff, Nat.reduceAdd, Nat.reduceMul, Nat.reduceLeDiff, Nat.reduceLT, Nat.reduceSub] <;> simp [isLetter, a1, a2, b1, d]
              · simp only [amset, amlib, zset, eq_self, ↓reduceIte, reduceCtorEq, Nat.reduceBEq, Nat.reduceEqDiff, Nat.reduceAdd, Nat.reduceMul, Nat.reduceLeDiff, Nat.reduceLT, Nat.reduceSub]
      | false =>
        cases b1 : decide ((y1.toNat : Int) ≥ 65) with
        | true =>
          cases b2 : decide ((y1.toNat : Int) ≤ 90) with
          | true =>
            simp only [amset, amlib, zset, a1, b1, b2, eq_self, ↓reduceIte, reduceCtorEq, Nat.reduceBEq, Nat.reduceEqDiff, Nat.reduceAdd, Nat.reduceMul, Nat.reduceLeDiff, Nat.reduceLT, Nat.reduceSub]
            refine keyK15 _ _ ?_ ?_
            · simp only [amset, amlib, zset, eq_self, ↓reduceIte, reduceCtorEq, Nat.reduceBEq, Nat.reduceEqDiff, Nat.reduceAdd, Nat.reduceMul, Nat.reduceLeDiff, Nat.reduceLT, Nat.reduceSub] <;> simp [isLetter, a1, b1, b2]
            · simp only [amset, amlib, zset, eq_self, ↓reduceIte, reduceCtorEq, Nat.reduceBEq, Nat.reduceEqDiff, Nat.reduceAdd, Nat.reduceMul, Nat.reduceLeDiff, Nat.reduceLT, Nat.reduceSub]
          | false =>
            cases d : ((y1.toNat : Int) == 95) with
            | true =>
              simp only [amset, amlib, zset, a1, b1, b2, d, eq_self, ↓reduceIte, reduceCtorEq, Nat.reduceBEq, Nat.reduceEqDiff, Nat.reduceAdd, Nat.reduceMul, Nat.reduceLeDiff, Nat.reduceLT, Nat.reduceSub]
              refine keyK15 _ _ ?_ ?_
              · simp only [amset, amlib, zset, eq_self, ↓reduceIte, reduceCtorEq, Nat.reduceBEq, Nat.reduceEqDiff, Nat.reduceAdd, Nat.reduceMul, Nat.reduceLeDiff, Nat.reduceLT, Nat.reduceSub] <;> simp [isLetter, a1, b1, b2, d]
              · simp only [amset, amlib, zset, eq_self, ↓reduceIte, reduceCtorEq, Nat.reduceBEq, Nat.reduceEqDiff, Nat.reduceAdd, Nat.reduceMul, Nat.reduceLeDiff, Nat.reduceLT, Nat.reduceSub]
            | false =>
              simp only [amset, amlib, zset, a1, b1, b2, d, eq_self, ↓reduceIte, reduceCtorEq, Nat.reduceBEq, Nat.reduceEqDiff, Nat.reduceAdd, Nat.reduceMul, Nat.reduceLeDiff, Nat.reduceLT, Nat.reduceSub]
              refine keyK15 _ _ ?_ ?_
              · simp only [amset, amlib, zset, eq_self, ↓reduceIte, reduceCtorEq, Nat.reduceBEq, Nat.reduceEqDiff, Nat.reduceAdd, Nat.reduceMul, Nat.reduceLeDiff, Nat.reduceLT, Nat.reduceSub] <;> simp [isLetter, a1, b1, b2, d]
              · simp only [amset, amlib, zset, eq_self, ↓reduceIte, reduceCtorEq, Nat.reduceBEq, Nat.reduceEqDiff, Nat.reduceAdd, Nat.reduceMul, Nat.reduceLeDiff, Nat.reduceLT, Nat.reduceSub]
        | false =>
          cases d : ((y1.toNat : Int) == 95) with
          | true =>
            simp only [amset, amlib, zset, a1, b1, d, eq_self, ↓reduceIte, reduceCtorEq, Nat.reduceBEq, Nat.reduceEqDiff, Nat.reduceAdd, Nat.reduceMul, Nat.reduceLeDiff, Nat.reduceLT, Nat.reduceSub]
            refine keyK15 _ _ ?_ ?_
            · simp only [amset, amlib, zset, eq_self, ↓reduceIte, reduceCtorEq, Nat.reduceBEq, Nat.reduceEqDiff, Nat.reduceAdd, Nat.reduceMul, Nat.reduceLeDiff, Nat.reduceLT, Nat.reduceSub] <;> simp [isLetter, a1, b1, d]
            · simp only [amset, amlib, zset, eq_self, ↓reduceIte, reduceCtorEq, Nat.reduceBEq, Nat.reduceEqDiff, Nat.reduceAdd, Nat.reduceMul, Nat.reduceLeDiff, Nat.reduceLT, Nat.reduceSub]
          | false =>
            simp only [amset, amlib, zset, a1, b1, d, eq_self, ↓reduceIte, reduceCtorEq, Nat.reduceBEq, Nat.reduceEqDiff, Nat.reduceAdd, Nat.reduceMul, Nat.reduceLeDiff, Nat.reduceLT, Nat.reduceSub]
            refine keyK15 _ _ ?_ ?_
            · simp only [amset, amlib, zset, eq_self, ↓reduceIte, reduceCtorEq, Nat.reduceBEq, Nat.reduceEqDiff, Nat.reduceAdd, Nat.reduceMul, Nat.reduceLeDiff, Nat.reduceLT, Nat.reduceSub] <;> simp [isLetter, a1, b1, d]
            · simp only [amset, amlib, zset, eq_self, ↓reduceIte, reduceCtorEq, Nat.reduceBEq, Nat.reduceEqDiff, Nat.reduceAdd, Nat.reduceMul, Nat.reduceLeDiff, Nat.reduceLT, Nat.reduceSub]
  · intro dn y td harg hI R hR
    have hl : (kws).length = dn.length + (td.length + 1) := by rw [harg]; simp
    have hmem : y ∈ kws := by rw [harg]; simp
    refine aw_norm (by simp only [amset, amlib, zset, eq_self, ↓reduceIte, reduceCtorEq, Nat.reduceBEq, Nat.reduceEqDiff, Nat.reduceAdd, Nat.reduceMul, Nat.reduceLeDiff, Nat.reduceLT, Nat.reduceSub]; exact rfl) ?_
    have hget : (encStrs (kws)).getD dn.length [] = encStr y := by rw [harg]; exact encStrs_mid dn td y
    refine aw_ops zT fun K20 hK20 => ?_
    simp only [amset, amlib, zset, eq_self, ↓reduceIte, reduceCtorEq, Nat.reduceBEq, Nat.reduceEqDiff, Nat.reduceAdd, Nat.reduceMul, Nat.reduceLeDiff, Nat.reduceLT, Nat.reduceSub]
    refine hK20 _ ?_
    clear hK20
    refine aw_seq fun K21 hK21 => ?_
    refine aw_cond (t := true) (by simp [evalO, S.get, amLook]; omega) (fun _ => ?_) (fun h => nomatch h)
    refine aw_skip ?_
    simp only [thenQ, blkQ, if_true, reduceIte, Nat.reduceEqDiff, eq_self]
    refine hK21 _ ?_
    clear hK21
    refine aw_seq fun K22 hK22 => ?_
    refine aw_block ?_
    refine aw_ops zT fun K23 hK23 => ?_
    simp only [amset, amlib, zset, hget, eq_self, ↓reduceIte, reduceCtorEq, Nat.reduceBEq, Nat.reduceEqDiff, Nat.reduceAdd, Nat.reduceMul, Nat.reduceLeDiff, Nat.reduceLT, Nat.reduceSub]
    refine ⟨⟨by omega, by omega⟩, ?_⟩
    refine hK23 _ ?_
    clear hK23
    refine aw_ops zT fun K24 hK24 => ?_
    simp only [amset, amlib, zset, eq_self, ↓reduceIte, reduceCtorEq, Nat.reduceBEq, Nat.reduceEqDiff, Nat.reduceAdd, Nat.reduceMul, Nat.reduceLeDiff, Nat.reduceLT, Nat.reduceSub]
    refine hK24 _ ?_
    clear hK24
    refine aw_cond rfl (fun h0 => ?_) (fun h0 => ?_)
    · skip
      refine aw_ops zT fun K25 hK25 => ?_
      simp only [amset, amlib, zset, eq_self, ↓reduceIte, reduceCtorEq, Nat.reduceBEq, Nat.reduceEqDiff, Nat.reduceAdd, Nat.reduceMul, Nat.reduceLeDiff, Nat.reduceLT, Nat.reduceSub]
      refine hK25 _ ?_
      clear hK25
      refine aw_ret ?_
      show resOf zG _ [.tmp 2] = some _
      simp only [amset, amlib, zset, eq_self, ↓reduceIte, reduceCtorEq, Nat.reduceBEq, Nat.reduceEqDiff, Nat.reduceAdd, Nat.reduceMul, Nat.reduceLeDiff, Nat.reduceLT, Nat.reduceSub]
      have hk : kws.all (fun k => !(s == k)) = false := by
        rw [harg, List.all_append]
        simp only [List.all_cons, h0, Bool.not_true, Bool.false_and, Bool.and_false]
      simp only [ident, hk]
      rfl
    · skip
      refine aw_skip ?_
      simp only [thenQ, blkQ, if_true, reduceIte, Nat.reduceEqDiff, eq_self]
      refine hK22 _ ?_
      clear hK22
      refine aw_region zT ?_
      simp only [amset, amlib, zset, eq_self, ↓reduceIte, reduceCtorEq, Nat.reduceBEq, Nat.reduceEqDiff, Nat.reduceAdd, Nat.reduceMul, Nat.reduceLeDiff, Nat.reduceLT, Nat.reduceSub]
      refine ⟨⟨by omega, by omega⟩, ?_⟩
      refine hR _ (by rw [List.all_append, hI]; simpa using h0) ?_
      refine Reach.to ?_ ?_
      · simp only [amset, amlib, zset, eq_self, ↓reduceIte, reduceCtorEq, Nat.reduceBEq, Nat.reduceEqDiff, Nat.reduceAdd, Nat.reduceMul, Nat.reduceLeDiff, Nat.reduceLT, Nat.reduceSub] <;> simp [eq_self]
      · simp only [amset, amlib, zset, eq_self, ↓reduceIte, reduceCtorEq, Nat.reduceBEq, Nat.reduceEqDiff, Nat.reduceAdd, Nat.reduceMul, Nat.reduceLeDiff, Nat.reduceLT, Nat.reduceSub] <;> simp [eq_self]
end Go.Proofs.Am
set_option maxRecDepth 100000
namespace Go.Proofs.Am
def headOK (x : Ex) : Bool := !(((x.args.length : Int) != arityK x.kind) || (!(x.name == (bareE x).name)) || (x.value != (bareE x).value) || (x.op != (bareE x).op))
def exTail (x : Ex) : Bool := if (x.kind == 1) then decide (x.value ≥ 0) else if (x.kind == 5) then ((x.op == 1) || (x.op == 2)) else if (x.kind == 6) then (decide (x.op ≥ 3) && decide (x.op ≤ 15)) else ident x.name
mutual
def exOK : Ex → Bool
  | .mk k n v o a p => headOK (.mk k n v o a p) && exOKs a && exTail (.mk k n v o a p)
def exOKs : List Ex → Bool
  | [] => true
  | x :: r => exOK x && exOKs r
end
theorem exOK_eq (x : Ex) : exOK x = (headOK x && exOKs x.args && exTail x) := by cases x; rfl
theorem exOKs_append (a b : List Ex) : exOKs (a ++ b) = (exOKs a && exOKs b) := by
  induction a with
  | nil => rfl
  | cons x r ih => simp [exOKs, ih, Bool.and_assoc]
theorem prog26 : Tryz.prog.funcs[26]? = some Tryz.f26 := by kernel_rfl
theorem step26 (x : Ex) (ih : ∀ y ∈ x.args, Holds Tryz.prog zG 26 [.agg [.int .i64 y.kind, .str y.name, .int .i16 y.value, .int .i64 y.op, .sl 6 (encEs y.args), .int .i64 y.pos]] [.c (.bool (exOK y))]) : Holds Tryz.prog zG 26 [.agg [.int .i64 x.kind, .str x.name, .int .i16 x.value, .int .i64 x.op, .sl 6 (encEs x.args), .int .i64 x.pos]] [.c (.bool (exOK x))] := by
  refine holds_of_body zT prog26 rfl rfl rfl (by simp [Tryz.f26]) ?_
  refine aw_ops zT fun K1 hK1 => ?_
  simp only [amset, amlib, zset, eq_self, ↓reduceIte, reduceCtorEq, Nat.reduceBEq, Nat.reduceEqDiff, Nat.reduceAdd, Nat.reduceMul, Nat.reduceLeDiff, Nat.reduceLT, Nat.reduceSub]
  refine hK1 _ ?_
  clear hK1
  refine aw_ops zT fun K2 hK2 => ?_
  simp only [amset, amlib, zset, eq_self, ↓reduceIte, reduceCtorEq, Nat.reduceBEq, Nat.reduceEqDiff, Nat.reduceAdd, Nat.reduceMul, Nat.reduceLeDiff, Nat.reduceLT, Nat.reduceSub]
  refine ⟨_, holds72 x, ?_⟩
  simp only [amset, later, amlib, zset, eq_self, ↓reduceIte, reduceCtorEq, Nat.reduceBEq, Nat.reduceEqDiff, Nat.reduceAdd, Nat.reduceMul, Nat.reduceLeDiff, Nat.reduceLT, Nat.reduceSub]
  refine hK2 _ ?_
  clear hK2
  refine aw_seq fun K3 hK3 => ?_
  cases g0 : ((x.args.length : Int) != arityK x.kind) with
  | true =>
    refine aw_draw zT prog_mixed fun K4 hK4 => ?_
    simp only [amset, amlib, zset, g0, eq_self, ↓reduceIte, reduceCtorEq, Nat.reduceBEq, Nat.reduceEqDiff, Nat.reduceAdd, Nat.reduceMul, Nat.reduceLeDiff, Nat.reduceLT, Nat.reduceSub]
    intros
    refine ⟨_, holds73 x.kind, ?_⟩
    simp only [amset, later, amlib, zset, g0, eq_self, ↓reduceIte, reduceCtorEq, Nat.reduceBEq, Nat.reduceEqDiff, Nat.reduceAdd, Nat.reduceMul, Nat.reduceLeDiff, Nat.reduceLT, Nat.reduceSub]
    refine ⟨by kernel_rfl, ?_⟩
    refine hK4 _ ?_
    clear hK4
    refine aw_cond (t := true) rfl (fun _ => ?_) (fun h => nomatch h)
    refine aw_ops zT fun K5 hK5 => ?_
    simp only [amset, amlib, zset, eq_self, ↓reduceIte, reduceCtorEq, Nat.reduceBEq, Nat.reduceEqDiff, Nat.reduceAdd, Nat.reduceMul, Nat.reduceLeDiff, Nat.reduceLT, Nat.reduceSub]
    refine hK5 _ ?_
    clear hK5
    refine aw_ret ?_
    show resOf zG _ [.tmp 2] = some _
    simp only [amset, amlib, zset, eq_self, ↓reduceIte, reduceCtorEq, Nat.reduceBEq, Nat.reduceEqDiff, Nat.reduceAdd, Nat.reduceMul, Nat.reduceLeDiff, Nat.reduceLT, Nat.reduceSub]
    simp only [exOK_eq, headOK, exTail, g0, Bool.true_or, Bool.or_true, Bool.false_or, Bool.or_false, Bool.true_and, Bool.and_true, Bool.false_and, Bool.and_false, Bool.not_true, Bool.not_false, if_true, if_false, ↓reduceIte, Bool.false_eq_true]
  | false =>
    cases g1 : (!(x.name == (bareE x).name)) with
    | true =>
      refine aw_draw zT prog_mixed fun K4 hK4 => ?_
      simp only [amset, amlib, zset, g0, g1, eq_self, ↓reduceIte, reduceCtorEq, Nat.reduceBEq, Nat.reduceEqDiff, Nat.reduceAdd, Nat.reduceMul, Nat.reduceLeDiff, Nat.reduceLT, Nat.reduceSub]
      intros
      refine ⟨_, holds73 x.kind, ?_⟩
      simp only [amset, later, amlib, zset, g0, g1, eq_self, ↓reduceIte, reduceCtorEq, Nat.reduceBEq, Nat.reduceEqDiff, Nat.reduceAdd, Nat.reduceMul, Nat.reduceLeDiff, Nat.reduceLT, Nat.reduceSub]
      refine ⟨by kernel_rfl, ?_⟩
      refine hK4 _ ?_
      clear hK4
      refine aw_cond (t := true) rfl (fun _ => ?_) (fun h => nomatch h)
      refine aw_ops zT fun K6 hK6 => ?_
      simp only [amset, amlib, zset, eq_self, ↓reduceIte, reduceCtorEq, Nat.reduceBEq, Nat.reduceEqDiff, Nat.reduceAdd, Nat.reduceMul, Nat.reduceLeDiff, Nat.reduceLT, Nat.reduceSub]
      refine hK6 _ ?_
      clear hK6
      refine aw_ret ?_
      show resOf zG _ [.tmp 2] = some _
      simp only [amset, amlib, zset, eq_self, ↓reduceIte, reduceCtorEq, Nat.reduceBEq, Nat.reduceEqDiff, Nat.reduceAdd, Nat.reduceMul, Nat.reduceLeDiff, Nat.reduceLT, Nat.reduceSub]
      simp only [exOK_eq, headOK, exTail, g0, g1, Bool.true_or, Bool.or_true, Bool.false_or, Bool.or_false, Bool.true_and, Bool.and_true, Bool.false_and, Bool.and_false, Bool.not_true, Bool.not_false, if_true, if_false, ↓reduceIte, Bool.false_eq_true]
    | false =>
      cases g2 : (x.value != (bareE x).value) with
      | true =>
        refine aw_draw zT prog_mixed fun K4 hK4 => ?_
        simp only [amset, amlib, zset, g0, g1, g2, eq_self, ↓reduceIte, reduceCtorEq, Nat.reduceBEq, Nat.reduceEqDiff, Nat.reduceAdd, Nat.reduceMul, Nat.reduceLeDiff, Nat.reduceLT, Nat.reduceSub]
        intros
        refine ⟨_, holds73 x.kind, ?_⟩
        simp only [amset, later, amlib, zset, g0, g1, g2, eq_self, ↓reduceIte, reduceCtorEq, Nat.reduceBEq, Nat.reduceEqDiff, Nat.reduceAdd, Nat.reduceMul, Nat.reduceLeDiff, Nat.reduceLT, Nat.reduceSub]
        refine ⟨by kernel_rfl, ?_⟩
        refine hK4 _ ?_
        clear hK4
        refine aw_cond (t := true) rfl (fun _ => ?_) (fun h => nomatch h)
        refine aw_ops zT fun K7 hK7 => ?_
        simp only [amset, amlib, zset, eq_self, ↓reduceIte, reduceCtorEq, Nat.reduceBEq, Nat.reduceEqDiff, Nat.reduceAdd, Nat.reduceMul, Nat.reduceLeDiff, Nat.reduceLT, Nat.reduceSub]
        refine hK7 _ ?_
        clear hK7
        refine aw_ret ?_
        show resOf zG _ [.tmp 2] = some _
        simp only [amset, amlib, zset, eq_self, ↓reduceIte, reduceCtorEq, Nat.reduceBEq, Nat.reduceEqDiff, Nat.reduceAdd, Nat.reduceMul, Nat.reduceLeDiff, Nat.reduceLT, Nat.reduceSub]
        simp only [exOK_eq, headOK, exTail, g0, g1, g2, Bool.true_or, Bool.or_true, Bool.false_or, Bool.or_false, Bool.true_and, Bool.and_true, Bool.false_and, Bool.and_false, Bool.not_true, Bool.not_false, if_true, if_false, ↓reduceIte, Bool.false_eq_true]
      | false =>
        cases g3 : (x.op != (bareE x).op) with
        | true =>
          refine aw_draw zT prog_mixed fun K4 hK4 => ?_
          simp only [amset, amlib, zset, g0, g1, g2, g3, eq_self, ↓reduceIte, reduceCtorEq, Nat.reduceBEq, Nat.reduceEqDiff, Nat.reduceAdd, Nat.reduceMul, Nat.reduceLeDiff, Nat.reduceLT, Nat.reduceSub]
          intros
          refine ⟨_, holds73 x.kind, ?_⟩
          simp only [amset, later, amlib, zset, g0, g1, g2, g3, eq_self, ↓reduceIte, reduceCtorEq, Nat.reduceBEq, Nat.reduceEqDiff, Nat.reduceAdd, Nat.reduceMul, Nat.reduceLeDiff, Nat.reduceLT, Nat.reduceSub]
          refine ⟨by kernel_rfl, ?_⟩
          refine hK4 _ ?_
          clear hK4
          refine aw_cond (t := true) rfl (fun _ => ?_) (fun h => nomatch h)
          refine aw_ops zT fun K8 hK8 => ?_
          simp only [amset, amlib, zset, eq_self, ↓reduceIte, reduceCtorEq, Nat.reduceBEq, Nat.reduceEqDiff, Nat.reduceAdd, Nat.reduceMul, Nat.reduceLeDiff, Nat.reduceLT, Nat.reduceSub]
          refine hK8 _ ?_
          clear hK8
          refine aw_ret ?_
          show resOf zG _ [.tmp 2] = some _
          simp only [amset, amlib, zset, eq_self, ↓reduceIte, reduceCtorEq, Nat.reduceBEq, Nat.reduceEqDiff, Nat.reduceAdd, Nat.reduceMul, Nat.reduceLeDiff, Nat.reduceLT, Nat.reduceSub]
          simp only [exOK_eq, headOK, exTail, g0, g1, g2, g3, Bool.true_or, Bool.or_true, Bool.false_or, Bool.or_false, Bool.true_and, Bool.and_true, Bool.false_and, Bool.and_false, Bool.not_true, Bool.not_false, if_true, if_false, ↓reduceIte, Bool.false_eq_true]
        | false =>
          refine aw_draw zT prog_mixed fun K4 hK4 => ?_
          simp only [amset, amlib, zset, g0, g1, g2, g3, eq_self, ↓reduceIte, reduceCtorEq, Nat.reduceBEq, Nat.reduceEqDiff, Nat.reduceAdd, Nat.reduceMul, Nat.reduceLeDiff, Nat.reduceLT, Nat.reduceSub]
          intros
          refine ⟨_, holds73 x.kind, ?_⟩
          simp only [amset, later, amlib, zset, g0, g1, g2, g3, eq_self, ↓reduceIte, reduceCtorEq, Nat.reduceBEq, Nat.reduceEqDiff, Nat.reduceAdd, Nat.reduceMul, Nat.reduceLeDiff, Nat.reduceLT, Nat.reduceSub]
          refine ⟨by kernel_rfl, ?_⟩
          refine hK4 _ ?_
          clear hK4
          refine aw_cond (t := false) rfl (fun h => nomatch h) (fun _ => ?_)
          refine aw_skip ?_
          simp only [thenQ, blkQ, if_true, reduceIte, Nat.reduceEqDiff, eq_self]
          refine hK3 _ ?_
          clear hK3
          refine aw_seq fun K9 hK9 => ?_
          refine aw_ops zT fun K10 hK10 => ?_
          simp only [amset, amlib, zset, eq_self, ↓reduceIte, reduceCtorEq, Nat.reduceBEq, Nat.reduceEqDiff, Nat.reduceAdd, Nat.reduceMul, Nat.reduceLeDiff, Nat.reduceLT, Nat.reduceSub]
          intros
          refine hK10 _ ?_
          clear hK10
          refine aw_block ?_
          refine aw_range (α := Ex) (x.args) (fun dn => exOKs dn = true) (fun dn => [(39, .cell (.c (.int .i64 dn.length)))]) (fun dn => []) [] [2, 5, 39, 40, 41, 42, 43, 44, 45, 46] [5] rfl ?_ ?_ ?_ ?_
          · simp only [amset, amlib, zset, eq_self, ↓reduceIte, reduceCtorEq, Nat.reduceBEq, Nat.reduceEqDiff, Nat.reduceAdd, Nat.reduceMul, Nat.reduceLeDiff, Nat.reduceLT, Nat.reduceSub] <;> simp
          · simp only [amset, amlib, zset, eq_self, ↓reduceIte, reduceCtorEq, Nat.reduceBEq, Nat.reduceEqDiff, Nat.reduceAdd, Nat.reduceMul, Nat.reduceLeDiff, Nat.reduceLT, Nat.reduceSub] <;> simp
          · intro hI R
            refine aw_norm (by simp only [amset, amlib, zset, eq_self, ↓reduceIte, reduceCtorEq, Nat.reduceBEq, Nat.reduceEqDiff, Nat.reduceAdd, Nat.reduceMul, Nat.reduceLeDiff, Nat.reduceLT, Nat.reduceSub]; exact rfl) ?_
            refine aw_ops zT fun K11 hK11 => ?_
            simp only [amset, amlib, zset, eq_self, ↓reduceIte, reduceCtorEq, Nat.reduceBEq, Nat.reduceEqDiff, Nat.reduceAdd, Nat.reduceMul, Nat.reduceLeDiff, Nat.reduceLT, Nat.reduceSub]
            refine hK11 _ ?_
            clear hK11
            refine aw_seq fun K12 hK12 => ?_
            refine aw_cond (t := false) (by simp [evalO, S.get, amLook]) (fun h => nomatch h) (fun _ => ?_)
            refine aw_exit ?_
            simp only [thenQ, blkQ, if_true, reduceIte, Nat.reduceEqDiff, eq_self]
            refine hK9 _ ?_
            clear hK9
            refine aw_seq fun K13 hK13 => ?_
            refine aw_ops zT fun K14 hK14 => ?_
            simp only [amset, amlib, zset, eq_self, ↓reduceIte, reduceCtorEq, Nat.reduceBEq, Nat.reduceEqDiff, Nat.reduceAdd, Nat.reduceMul, Nat.reduceLeDiff, Nat.reduceLT, Nat.reduceSub]
            refine hK14 _ ?_
            clear hK14
            refine aw_block ?_
            refine aw_ops zT fun K15 hK15 => ?_
            simp only [amset, amlib, zset, eq_self, ↓reduceIte, reduceCtorEq, Nat.reduceBEq, Nat.reduceEqDiff, Nat.reduceAdd, Nat.reduceMul, Nat.reduceLeDiff, Nat.reduceLT, Nat.reduceSub]
            refine hK15 _ ?_
            clear hK15
            refine aw_cond rfl (fun h0 => ?_) (fun h0 => ?_)
            · skip
              refine aw_ops zT fun K16 hK16 => ?_
              simp only [amset, amlib, zset, eq_self, ↓reduceIte, reduceCtorEq, Nat.reduceBEq, Nat.reduceEqDiff, Nat.reduceAdd, Nat.reduceMul, Nat.reduceLeDiff, Nat.reduceLT, Nat.reduceSub]
              refine hK16 _ ?_
              clear hK16
              refine aw_ret ?_
              show resOf zG _ [.tmp 2] = some _
              simp only [amset, amlib, zset, eq_self, ↓reduceIte, reduceCtorEq, Nat.reduceBEq, Nat.reduceEqDiff, Nat.reduceAdd, Nat.reduceMul, Nat.reduceLeDiff, Nat.reduceLT, Nat.reduceSub]
              simp only [exOK_eq, headOK, exTail, hI, g0, g1, g2, g3, h0, Bool.true_or, Bool.or_true, Bool.false_or, Bool.or_false, Bool.true_and, Bool.and_true, Bool.false_and, Bool.and_false, Bool.not_true, Bool.not_false, if_true, if_false, ↓reduceIte, Bool.false_eq_true]
            · skip
              refine aw_ops zT fun K17 hK17 => ?_
              simp only [amset, amlib, zset, eq_self, ↓reduceIte, reduceCtorEq, Nat.reduceBEq, Nat.reduceEqDiff, Nat.reduceAdd, Nat.reduceMul, Nat.reduceLeDiff, Nat.reduceLT, Nat.reduceSub]
              refine hK17 _ ?_
              clear hK17
              refine aw_cond rfl (fun h1 => ?_) (fun h1 => ?_)
              · skip
                refine aw_ops zT fun K18 hK18 => ?_
                cases e0 : (x.op == 1) with
                | true =>
                  simp only [amset, amlib, zset, g0, g1, g2, g3, e0, eq_self, ↓reduceIte, reduceCtorEq, Nat.reduceBEq, Nat.reduceEqDiff, Nat.reduceAdd, Nat.reduceMul, Nat.reduceLeDiff, Nat.reduceLT, Nat.reduceSub]
                  refine hK18 _ ?_
                  clear hK18
                  refine aw_ret ?_
                  show resOf zG _ [.tmp 2] = some _
                  simp only [amset, amlib, zset, eq_self, ↓reduceIte, reduceCtorEq, Nat.reduceBEq, Nat.reduceEqDiff, Nat.reduceAdd, Nat.reduceMul, Nat.reduceLeDiff, Nat.reduceLT, Nat.reduceSub]
                  simp only [exOK_eq, headOK, exTail, hI, g0, g1, g2, g3, e0, h0, h1, Bool.true_or, Bool.or_true, Bool.false_or, Bool.or_false, Bool.true_and, Bool.and_true, Bool.false_and, Bool.and_false, Bool.not_true, Bool.not_false, if_true, if_false, ↓reduceIte, Bool.false_eq_true]
                | false =>
                  simp only [amset, amlib, zset, g0, g1, g2, g3, e0, eq_self, ↓reduceIte, reduceCtorEq, Nat.reduceBEq, Nat.reduceEqDiff, Nat.reduceAdd, Nat.reduceMul, Nat.reduceLeDiff, Nat.reduceLT, Nat.reduceSub]
                  refine hK18 _ ?_
                  clear hK18
                  refine aw_ret ?_
                  show resOf zG _ [.tmp 2] = some _
                  simp only [amset, amlib, zset, eq_self, ↓reduceIte, reduceCtorEq, Nat.reduceBEq, Nat.reduceEqDiff, Nat.reduceAdd, Nat.reduceMul, Nat.reduceLeDiff, Nat.reduceLT, Nat.reduceSub]
                  simp only [exOK_eq, headOK, exTail, hI, g0, g1, g2, g3, e0, h0, h1, Bool.true_or, Bool.or_true, Bool.false_or, Bool.or_false, Bool.true_and, Bool.and_true, Bool.false_and, Bool.and_false, Bool.not_true, Bool.not_false, if_true, if_false, ↓reduceIte, Bool.false_eq_true]
              · skip
                refine aw_ops zT fun K19 hK19 => ?_
                simp only [amset, amlib, zset, eq_self, ↓reduceIte, reduceCtorEq, Nat.reduceBEq, Nat.reduceEqDiff, Nat.reduceAdd, Nat.reduceMul, Nat.reduceLeDiff, Nat.reduceLT, Nat.reduceSub]
                refine hK19 _ ?_
                clear hK19
                refine aw_cond rfl (fun h2 => ?_) (fun h2 => ?_)
                · skip
                  refine aw_ops zT fun K20 hK20 => ?_
                  cases e0 : decide (x.op ≥ 3) with
                  | true =>
                    simp only [amset, amlib, zset, g0, g1, g2, g3, e0, eq_self, ↓reduceIte, reduceCtorEq, Nat.reduceBEq, Nat.reduceEqDiff, Nat.reduceAdd, Nat.reduceMul, Nat.reduceLeDiff, Nat.reduceLT, Nat.reduceSub]
                    refine hK20 _ ?_
                    clear hK20
                    refine aw_ret ?_
                    show resOf zG _ [.tmp 2] = some _
                    simp only [amset, amlib, zset, eq_self, ↓reduceIte, reduceCtorEq, Nat.reduceBEq, Nat.reduceEqDiff, Nat.reduceAdd, Nat.reduceMul, Nat.reduceLeDiff, Nat.reduceLT, Nat.reduceSub]
                    simp only [exOK_eq, headOK, exTail, hI, g0, g1, g2, g3, e0, h0, h1, h2, Bool.true_or, Bool.or_true, Bool.false_or, Bool.or_false, Bool.true_and, Bool.and_true, Bool.false_and, Bool.and_false, Bool.not_true, Bool.not_false, if_true, if_false, ↓reduceIte, Bool.false_eq_true]
                  | false =>
                    simp only [amset, amlib, zset, g0, g1, g2, g3, e0, eq_self, ↓reduceIte, reduceCtorEq, Nat.reduceBEq, Nat.reduceEqDiff, Nat.reduceAdd, Nat.reduceMul, Nat.reduceLeDiff, Nat.reduceLT, Nat.reduceSub]
                    refine hK20 _ ?_
                    clear hK20
                    refine aw_ret ?_
                    show resOf zG _ [.tmp 2] = some _
                    simp only [amset, amlib, zset, eq_self, ↓reduceIte, reduceCtorEq, Nat.reduceBEq, Nat.reduceEqDiff, Nat.reduceAdd, Nat.reduceMul, Nat.reduceLeDiff, Nat.reduceLT, Nat.reduceSub]
                    simp only [exOK_eq, headOK, exTail, hI, g0, g1, g2, g3, e0, h0, h1, h2, Bool.true_or, Bool.or_true, Bool.false_or, Bool.or_false, Bool.true_and, Bool.and_true, Bool.false_and, Bool.and_false, Bool.not_true, Bool.not_false, if_true, if_false, ↓reduceIte, Bool.false_eq_true]
                · skip
                  refine aw_skip ?_
                  simp only [thenQ, blkQ, if_true, reduceIte, Nat.reduceEqDiff, eq_self]
                  refine hK13 _ ?_
                  clear hK13
                  refine aw_ops zT fun K21 hK21 => ?_
                  simp only [amset, amlib, zset, eq_self, ↓reduceIte, reduceCtorEq, Nat.reduceBEq, Nat.reduceEqDiff, Nat.reduceAdd, Nat.reduceMul, Nat.reduceLeDiff, Nat.reduceLT, Nat.reduceSub]
                  refine ⟨_, holds74 x.name, ?_⟩
                  simp only [amset, later, amlib, zset, eq_self, ↓reduceIte, reduceCtorEq, Nat.reduceBEq, Nat.reduceEqDiff, Nat.reduceAdd, Nat.reduceMul, Nat.reduceLeDiff, Nat.reduceLT, Nat.reduceSub]
                  refine hK21 _ ?_
                  clear hK21
                  refine aw_ret ?_
                  show resOf zG _ [.tmp 2] = some _
                  simp only [amset, amlib, zset, eq_self, ↓reduceIte, reduceCtorEq, Nat.reduceBEq, Nat.reduceEqDiff, Nat.reduceAdd, Nat.reduceMul, Nat.reduceLeDiff, Nat.reduceLT, Nat.reduceSub]
                  simp only [exOK_eq, headOK, exTail, hI, g0, g1, g2, g3, h0, h1, h2, Bool.true_or, Bool.or_true, Bool.false_or, Bool.or_false, Bool.true_and, Bool.and_true, Bool.false_and, Bool.and_false, Bool.not_true, Bool.not_false, if_true, if_false, ↓reduceIte, Bool.false_eq_true]
          · intro dn y td harg hI R hR
            have hl : (x.args).length = dn.length + (td.length + 1) := by rw [harg]; simp
            have hmem : y ∈ x.args := by rw [harg]; simp
            refine aw_norm (by simp only [amset, amlib, zset, eq_self, ↓reduceIte, reduceCtorEq, Nat.reduceBEq, Nat.reduceEqDiff, Nat.reduceAdd, Nat.reduceMul, Nat.reduceLeDiff, Nat.reduceLT, Nat.reduceSub]; exact rfl) ?_
            have hget : (encEs (x.args)).getD dn.length [] = encE y := by rw [harg]; exact encEs_mid dn td y
            refine aw_ops zT fun K22 hK22 => ?_
            simp only [amset, amlib, zset, eq_self, ↓reduceIte, reduceCtorEq, Nat.reduceBEq, Nat.reduceEqDiff, Nat.reduceAdd, Nat.reduceMul, Nat.reduceLeDiff, Nat.reduceLT, Nat.reduceSub]
            refine hK22 _ ?_
            clear hK22
            refine aw_seq fun K23 hK23 => ?_
            refine aw_cond (t := true) (by simp [evalO, S.get, amLook]; omega) (fun _ => ?_) (fun h => nomatch h)
            refine aw_skip ?_
            simp only [thenQ, blkQ, if_true, reduceIte, Nat.reduceEqDiff, eq_self]
            refine hK23 _ ?_
            clear hK23
            refine aw_seq fun K24 hK24 => ?_
            refine aw_block ?_
            refine aw_ops zT fun K25 hK25 => ?_
            simp only [amset, amlib, zset, hget, eq_self, ↓reduceIte, reduceCtorEq, Nat.reduceBEq, Nat.reduceEqDiff, Nat.reduceAdd, Nat.reduceMul, Nat.reduceLeDiff, Nat.reduceLT, Nat.reduceSub]
            refine ⟨⟨by omega, by omega⟩, ?_⟩
            refine hK25 _ ?_
            clear hK25
            refine aw_ops zT fun K26 hK26 => ?_
            simp only [amset, amlib, zset, eq_self, ↓reduceIte, reduceCtorEq, Nat.reduceBEq, Nat.reduceEqDiff, Nat.reduceAdd, Nat.reduceMul, Nat.reduceLeDiff, Nat.reduceLT, Nat.reduceSub]
            refine ⟨_, ih y hmem, ?_⟩
            simp only [amset, later, amlib, zset, eq_self, ↓reduceIte, reduceCtorEq, Nat.reduceBEq, Nat.reduceEqDiff, Nat.reduceAdd, Nat.reduceMul, Nat.reduceLeDiff, Nat.reduceLT, Nat.reduceSub]
            refine hK26 _ ?_
            clear hK26
            refine aw_cond rfl (fun h3 => ?_) (fun h3 => ?_)
            · skip
              refine aw_ops zT fun K27 hK27 => ?_
              simp only [amset, amlib, zset, eq_self, ↓reduceIte, reduceCtorEq, Nat.reduceBEq, Nat.reduceEqDiff, Nat.reduceAdd, Nat.reduceMul, Nat.reduceLeDiff, Nat.reduceLT, Nat.reduceSub]
              refine hK27 _ ?_
              clear hK27
              refine aw_ret ?_
              show resOf zG _ [.tmp 2] = some _
              simp only [amset, amlib, zset, eq_self, ↓reduceIte, reduceCtorEq, Nat.reduceBEq, Nat.reduceEqDiff, Nat.reduceAdd, Nat.reduceMul, Nat.reduceLeDiff, Nat.reduceLT, Nat.reduceSub]
              have hf : exOKs x.args = false := by
                rw [harg, exOKs_append]
                simp at h3
                simp [exOKs, h3]
              simp only [exOK_eq, hf, Bool.true_or, Bool.or_true, Bool.false_or, Bool.or_false, Bool.true_and, Bool.and_true, Bool.false_and, Bool.and_false, Bool.not_true, Bool.not_false, if_true, if_false, ↓reduceIte, Bool.false_eq_true]
            · skip
              refine aw_skip ?_
              simp only [thenQ, blkQ, if_true, reduceIte, Nat.reduceEqDiff, eq_self]
              refine hK24 _ ?_
              clear hK24
              refine aw_region zT ?_
              simp only [amset, amlib, zset, eq_self, ↓reduceIte, reduceCtorEq, Nat.reduceBEq, Nat.reduceEqDiff, Nat.reduceAdd, Nat.reduceMul, Nat.reduceLeDiff, Nat.reduceLT, Nat.reduceSub]
              refine ⟨⟨by omega, by omega⟩, ?_⟩
              refine hR _ (by rw [exOKs_append, hI]; simp [exOKs]; simpa using h3) ?_
              refine Reach.to ?_ ?_
              · simp only [amset, amlib, zset, eq_self, ↓reduceIte, reduceCtorEq, Nat.reduceBEq, Nat.reduceEqDiff, Nat.reduceAdd, Nat.reduceMul, Nat.reduceLeDiff, Nat.reduceLT, Nat.reduceSub] <;> simp
              · simp only [amset, amlib, zset, eq_self, ↓reduceIte, reduceCtorEq, Nat.reduceBEq, Nat.reduceEqDiff, Nat.reduceAdd, Nat.reduceMul, Nat.reduceLeDiff, Nat.reduceLT, Nat.reduceSub] <;> simp
theorem holds26 (x : Ex) : Holds Tryz.prog zG 26 [.agg [.int .i64 x.kind, .str x.name, .int .i16 x.value, .int .i64 x.op, .sl 6 (encEs x.args), .int .i64 x.pos]] [.c (.bool (exOK x))] := step26 x fun y hmem => holds26 y
  termination_by SizeOf.sizeOf x
  decreasing_by exact Ex.args_lt hmem
end Go.Proofs.Am
set_option maxRecDepth 100000
set_option maxHeartbeats 4000000
namespace Go.Proofs.Am
def numA (n : Int) : Bool := decide (n ≥ 0) && decide (n ≤ 32767)
def signedA (n : Int) : Bool := decide (n ≥ -32767)
def tr (b : Bool) : Int := cond b 1 0
theorem i64_same {n : Int} (h : -9223372036854775808 ≤ n ∧ n ≤ 9223372036854775807) : IntKind.i64.wrap n = n := by simp [IntKind.wrap, IntKind.bits, IntKind.signed]; split <;> omega
theorem prog98 : Tryz.prog.funcs[98]? = some Tryz.f98 := by kernel_rfl
theorem holds98 (n : Int) : Holds Tryz.prog zG 98 [.c (.int .i64 n)] [.c (.bool (numA n))] := by
  refine holds_of_body zT prog98 rfl rfl rfl (by simp [Tryz.f98]) ?_
  refine aw_ops zT fun K1 hK1 => ?_
  simp only [amset, amlib, zset, eq_self, ↓reduceIte, reduceCtorEq, Nat.reduceBEq, Nat.reduceEqDiff, Nat.reduceAdd, Nat.reduceMul, Nat.reduceLeDiff, Nat.reduceLT, Nat.reduceSub]
  refine hK1 _ ?_
  clear hK1
  refine aw_ops zT fun K2 hK2 => ?_
  cases e0 : decide (n ≥ 0) with
  | true =>
    simp only [amset, amlib, zset, e0, eq_self, ↓reduceIte, reduceCtorEq, Nat.reduceBEq, Nat.reduceEqDiff, Nat.reduceAdd, Nat.reduceMul, Nat.reduceLeDiff, Nat.reduceLT, Nat.reduceSub]
    refine hK2 _ ?_
    clear hK2
    refine aw_ret ?_
    show resOf zG _ [.tmp 2] = some _
    simp only [amset, amlib, zset, eq_self, ↓reduceIte, reduceCtorEq, Nat.reduceBEq, Nat.reduceEqDiff, Nat.reduceAdd, Nat.reduceMul, Nat.reduceLeDiff, Nat.reduceLT, Nat.reduceSub]
    simp only [numA, e0, Bool.true_or, Bool.or_true, Bool.false_or, Bool.or_false, Bool.true_and, Bool.and_true, Bool.false_and, Bool.and_false, Bool.not_true, Bool.not_false, if_true, if_false, ↓reduceIte, Bool.false_eq_true]
  | false =>
    simp only [amset, amlib, zset, e0, eq_self, ↓reduceIte, reduceCtorEq, Nat.reduceBEq, Nat.reduceEqDiff, Nat.reduceAdd, Nat.reduceMul, Nat.reduceLeDiff, Nat.reduceLT, Nat.reduceSub]
    refine hK2 _ ?_
    clear hK2
    refine aw_ret ?_
    show resOf zG _ [.tmp 2] = some _
    simp only [amset, amlib, zset, eq_self, ↓reduceIte, reduceCtorEq, Nat.reduceBEq, Nat.reduceEqDiff, Nat.reduceAdd, Nat.reduceMul, Nat.reduceLeDiff, Nat.reduceLT, Nat.reduceSub]
    simp only [numA, e0, Bool.true_or, Bool.or_true, Bool.false_or, Bool.or_false, Bool.true_and, Bool.and_true, Bool.false_and, Bool.and_false, Bool.not_true, Bool.not_false, if_true, if_false, ↓reduceIte, Bool.false_eq_true]
theorem prog97 : Tryz.prog.funcs[97]? = some Tryz.f97 := by kernel_rfl
theorem holds97 (n : Int) : Holds Tryz.prog zG 97 [.c (.int .i16 n)] [.c (.bool (signedA n))] := by
  refine holds_of_body zT prog97 rfl rfl rfl (by simp [Tryz.f97]) ?_
  refine aw_ops zT fun K1 hK1 => ?_
  simp only [amset, amlib, zset, eq_self, ↓reduceIte, reduceCtorEq, Nat.reduceBEq, Nat.reduceEqDiff, Nat.reduceAdd, Nat.reduceMul, Nat.reduceLeDiff, Nat.reduceLT, Nat.reduceSub]
  refine hK1 _ ?_
  clear hK1
  refine aw_ops zT fun K2 hK2 => ?_
  simp only [amset, amlib, zset, eq_self, ↓reduceIte, reduceCtorEq, Nat.reduceBEq, Nat.reduceEqDiff, Nat.reduceAdd, Nat.reduceMul, Nat.reduceLeDiff, Nat.reduceLT, Nat.reduceSub]
  refine hK2 _ ?_
  clear hK2
  refine aw_ret ?_
  show resOf zG _ [.tmp 2] = some _
  simp only [amset, amlib, zset, eq_self, ↓reduceIte, reduceCtorEq, Nat.reduceBEq, Nat.reduceEqDiff, Nat.reduceAdd, Nat.reduceMul, Nat.reduceLeDiff, Nat.reduceLT, Nat.reduceSub]
  simp only [signedA]
end Go.Proofs.Am
set_option maxRecDepth 100000
set_option maxHeartbeats 4000000
namespace Go.Proofs.Am
def i16r (n : Int) : Prop := -32768 ≤ n ∧ n ≤ 32767
end Go.Proofs.Am
set_option maxRecDepth 100000
set_option maxHeartbeats 4000000
namespace Go.Proofs.Am
def numE (v : Int) : Ex := .mk 1 [] v 0 [] 0
def binE' (op : Int) (a b : Ex) : Ex := .mk 6 [] 0 op [a, b] 0
def unE' (op : Int) (a : Ex) : Ex := .mk 5 [] 0 op [a] 0
def nameE (s : List UInt8) : Ex := .mk 2 s 0 0 [] 0
theorem prog203 : Tryz.prog.funcs[203]? = some Tryz.f203 := by kernel_rfl
theorem holds203 (x : Ex) : Holds Tryz.prog zG 203 [.agg [.int .i64 x.kind, .str x.name, .int .i16 x.value, .int .i64 x.op, .sl 6 (encEs x.args), .int .i64 x.pos]] [.agg [.int .i64 x.kind, .str x.name, .int .i16 x.value, .int .i64 x.op, .sl 0 [], .int .i64 0]] := by
  refine holds_of_body zT prog203 rfl rfl rfl (by simp [Tryz.f203]) ?_
  refine aw_ops zT fun K1 hK1 => ?_
  simp only [amset, amlib, zset, eq_self, ↓reduceIte, reduceCtorEq, Nat.reduceBEq, Nat.reduceEqDiff, Nat.reduceAdd, Nat.reduceMul, Nat.reduceLeDiff, Nat.reduceLT, Nat.reduceSub]
  refine hK1 _ ?_
  clear hK1
  refine aw_ops zT fun K2 hK2 => ?_
  simp only [amset, amlib, zset, eq_self, ↓reduceIte, reduceCtorEq, Nat.reduceBEq, Nat.reduceEqDiff, Nat.reduceAdd, Nat.reduceMul, Nat.reduceLeDiff, Nat.reduceLT, Nat.reduceSub]
  refine hK2 _ ?_
  clear hK2
  refine aw_ops zT fun K3 hK3 => ?_
  simp only [amset, amlib, zset, eq_self, ↓reduceIte, reduceCtorEq, Nat.reduceBEq, Nat.reduceEqDiff, Nat.reduceAdd, Nat.reduceMul, Nat.reduceLeDiff, Nat.reduceLT, Nat.reduceSub]
  refine hK3 _ ?_
  clear hK3
  refine aw_ret ?_
  show resOf zG _ [.cell 2 32] = some _
  simp only [amset, amlib, zset, eq_self, ↓reduceIte, reduceCtorEq, Nat.reduceBEq, Nat.reduceEqDiff, Nat.reduceAdd, Nat.reduceMul, Nat.reduceLeDiff, Nat.reduceLT, Nat.reduceSub]
end Go.Proofs.Am
set_option maxRecDepth 100000
set_option maxHeartbeats 4000000
namespace Go.Proofs.Am
mutual
def wdE : Ex → Prop
  | .mk _ _ v _ a _ => i16r v ∧ wdL a
def wdL : List Ex → Prop
  | [] => True
  | x :: r => wdE x ∧ wdL r
end
theorem wdE_eq (x : Ex) : wdE x = (i16r x.value ∧ wdL x.args) := by cases x; rw [wdE]; rfl
theorem wdL_mem {l : List Ex} (h : wdL l) {y : Ex} (hy : y ∈ l) : wdE y := by
  induction l with
  | nil => cases hy
  | cons x r ih =>
    rw [wdL] at h
    rcases List.mem_cons.1 hy with rfl | hy
    · exact h.1
    · exact ih h.2 hy
end Go.Proofs.Am
set_option maxRecDepth 100000
set_option maxHeartbeats 4000000
namespace Go.Proofs.Am
theorem encEs_getD (l : List Ex) (n : Nat) (h : n < l.length) : (encEs l).getD n [] = encE l[n] := by
  rw [encEs_map, List.getD_eq_getElem?_getD, List.getElem?_map, List.getElem?_eq_getElem h]; rfl
end Go.Proofs.Am
set_option maxRecDepth 100000
set_option maxHeartbeats 4000000
namespace Go.Proofs.Am
theorem subL_mem {l : List Ex} {y : Ex} (h : y ∈ l) : (subE y).length ≤ (subL l).length := by
  induction l with
  | nil => cases h
  | cons x r ih =>
    rw [subL, List.length_append]
    rcases List.mem_cons.1 h with rfl | h
    · omega
    · have := ih h; omega
theorem subE_len (x : Ex) : (subE x).length = (subL x.args).length + 1 := by cases x; simp [subE, Ex.args]
end Go.Proofs.Am
set_option maxRecDepth 100000
set_option maxHeartbeats 4000000
namespace Go.Proofs.Am
mutual
def stmS : St → List St
  | .mk k n v a b e p => .mk k n v a b e p :: (stmL b ++ stmL e)
def stmL : List St → List St
  | [] => []
  | x :: r => stmS x ++ stmL r
end
theorem stmS_eq (x : St) : stmS x = x :: (stmL x.body ++ stmL x.els) := by cases x; rfl
theorem stmL_append (a b : List St) : stmL (a ++ b) = stmL a ++ stmL b := by
  induction a with
  | nil => rfl
  | cons x r ih => simp [stmL, ih]
theorem sizeOf_body {x : St} {l : List St} (h : x ∈ l) : SizeOf.sizeOf x.body < SizeOf.sizeOf l := by
  have := List.sizeOf_lt_of_mem h
  cases x
  simp [St.body] at *
  omega
theorem sizeOf_els {x : St} {l : List St} (h : x ∈ l) : SizeOf.sizeOf x.els < SizeOf.sizeOf l := by
  have := List.sizeOf_lt_of_mem h
  cases x
  simp [St.els] at *
  omega
end Go.Proofs.Am
set_option maxRecDepth 100000
set_option maxHeartbeats 4000000
namespace Go.Proofs.Am
def allL : List St → List Ex
  | [] => []
  | s :: r => subL s.args ++ allL r
theorem allL_append (a b : List St) : allL (a ++ b) = allL a ++ allL b := by
  induction a with
  | nil => rfl
  | cons x r ih => simp [allL, ih]
end Go.Proofs.Am
set_option maxRecDepth 100000
set_option maxHeartbeats 4000000
namespace Go.Proofs.Am
def szB (l : List St) : Nat := (stmL l).length + (allL (stmL l)).length
def szT : List Tk → Nat
  | [] => 0
  | t :: r => szB t.body + szT r
theorem szT_append (a b : List Tk) : szT (a ++ b) = szT a + szT b := by
  induction a with
  | nil => simp [szT]
  | cons x r ih => simp [szT, ih]; omega
end Go.Proofs.Am
set_option maxRecDepth 100000
set_option maxHeartbeats 4000000
namespace Go.Proofs.Am
mutual
def depE : Ex → Nat
  | .mk _ _ _ _ a _ => depL a + 1
def depL : List Ex → Nat
  | [] => 0
  | x :: r => max (depE x) (depL r)
end
theorem depE_eq (x : Ex) : depE x = depL x.args + 1 := by cases x; rfl
theorem depL_append (a b : List Ex) : depL (a ++ b) = max (depL a) (depL b) := by
  induction a with
  | nil => simp [depL]
  | cons x r ih => simp [depL, ih, Nat.max_assoc]
theorem max_nat (a b : Nat) : (if a < b then ((b : Nat) : Int) else ((a : Nat) : Int)) = ((max a b : Nat) : Int) := by
  split <;> omega
theorem max_cast (a b : Nat) : (if (b : Int) > (a : Int) then (b : Int) else (a : Int)) = ((max a b : Nat) : Int) := by
  split <;> omega
theorem depL_mem {x : Ex} {l : List Ex} (h : x ∈ l) : depE x ≤ depL l := by
  induction l with
  | nil => cases h
  | cons y r ih =>
    rcases List.mem_cons.1 h with rfl | h
    · simp [depL]; omega
    · have := ih h; simp [depL]; omega
end Go.Proofs.Am
set_option maxRecDepth 100000
set_option maxHeartbeats 4000000
namespace Go.Proofs.Am
mutual
def depS : St → Nat
  | .mk _ _ _ a b e _ => max (max (depM b) (depM e)) (depL a) + 1
def depM : List St → Nat
  | [] => 0
  | x :: r => max (depS x) (depM r)
end
theorem depS_eq (x : St) : depS x = max (max (depM x.body) (depM x.els)) (depL x.args) + 1 := by cases x; rfl
theorem depM_append (a b : List St) : depM (a ++ b) = max (depM a) (depM b) := by
  induction a with
  | nil => simp [depM]
  | cons x r ih => simp [depM, ih, Nat.max_assoc]
theorem max_cast1 (a b : Nat) : (if ((b : Nat) : Int) + 1 > (a : Int) then (b : Int) + 1 else (a : Int)) = ((max a (b + 1) : Nat) : Int) := by
  split <;> omega
theorem depM_mem {x : St} {l : List St} (h : x ∈ l) : depS x ≤ depM l := by
  induction l with
  | nil => cases h
  | cons y r ih =>
    rcases List.mem_cons.1 h with rfl | h
    · simp [depM]; omega
    · have := ih h; simp [depM]; omega
end Go.Proofs.Am
set_option maxRecDepth 100000
set_option maxHeartbeats 4000000
namespace Go.Proofs.Am
def depT : List Tk → Nat
  | [] => 0
  | t :: r => max (depM t.body) (depT r)
theorem depT_append (a b : List Tk) : depT (a ++ b) = max (depT a) (depT b) := by
  induction a with
  | nil => simp [depT]
  | cons x r ih => simp [depT, ih, Nat.max_assoc]
theorem depT_mem {x : Tk} {l : List Tk} (h : x ∈ l) : depM x.body ≤ depT l := by
  induction l with
  | nil => cases h
  | cons y r ih =>
    rcases List.mem_cons.1 h with rfl | h
    · simp [depT]; omega
    · have := ih h; simp [depT]; omega
end Go.Proofs.Am
namespace Go.Proofs.Am
open Go.RowKit
/-! From the row's own reading of an argument to the machine's. -/
abbrev anyB : Nat → Prop := fun _ => True
theorem mapM_some {α β : Type} {f : α → Option β} : ∀ {l : List α} {r : List β}, l.mapM f = some r → r.length = l.length ∧ ∀ (i : Nat) a, l[i]? = some a → ∃ b, r[i]? = some b ∧ f a = some b := by
  intro l
  induction l with
  | nil => intro r h; simp at h; subst h; exact ⟨rfl, by simp⟩
  | cons a l ih =>
    intro r h
    simp only [List.mapM_cons, Option.bind_eq_bind, Option.bind_eq_some_iff, Option.pure_def, Option.some.injEq] at h
    obtain ⟨b, hb, r', hr, rfl⟩ := h
    obtain ⟨h1, h2⟩ := ih hr
    refine ⟨by simp [h1], fun i x hx => ?_⟩
    cases i with
    | zero => simp at hx; subst hx; exact ⟨b, rfl, hb⟩
    | succ i => simp at hx; simpa using h2 i x hx
inductive All2 {α β : Type} (R : α → β → Prop) : List α → List β → Prop
  | nil : All2 R [] []
  | cons {a : α} {b : β} {l : List α} {m : List β} (h : R a b) (r : All2 R l m) : All2 R (a :: l) (b :: m)
theorem All2.length_eq {α β : Type} {R : α → β → Prop} {l : List α} {m : List β} (h : All2 R l m) : l.length = m.length := by
  induction h with
  | nil => rfl
  | cons _ _ ih => simp [ih]
section
variable {H : Type} {enc : TypeId × Value → H} {P : Program} {W : World} {base : Nat} {spare : Nat → Bool} {held : Bool}
theorem trod_int {t : TypeId} {k : IntKind} {f : Nat} {v : Value} {d : DataW H} {p : List MemPlace} (ht : P.underlying t = some (.int k)) (h : DataW.trod enc P W base spare held f t [v] = some (d, p)) : ∃ n, v = .int k n ∧ d = .lit (.int k n) ∧ (Lit.int k n).wf = true := by
  cases f with
  | zero => simp [DataW.trod] at h
  | succ f =>
    cases v <;> simp [DataW.trod, ht] at h
    obtain ⟨⟨rfl, h1⟩, rfl, rfl⟩ := h
    exact ⟨_, rfl, rfl, h1⟩
theorem trod_str {t : TypeId} {f : Nat} {v : Value} {d : DataW H} {p : List MemPlace} (ht : P.underlying t = some .string) (h : DataW.trod enc P W base spare held f t [v] = some (d, p)) : ∃ s : List UInt8, v = .string ⟨s.toArray⟩ ∧ d = .lit (.string s) ∧ s.length ≤ maxLen := by
  cases f with
  | zero => simp [DataW.trod] at h
  | succ f =>
    cases v <;> simp [DataW.trod, ht] at h
    rename_i s
    obtain ⟨h1, rfl, rfl⟩ := h
    refine ⟨s.data.toList, by simp, by simp, ?_⟩
    rw [Array.length_toList]
    exact h1
theorem trod_struct {t : TypeId} {fs : Array Field} {f : Nat} {cs : List Value} {d : DataW H} {p : List MemPlace} (ht : P.underlying t = some (.struct fs)) (h : DataW.trod enc P W base spare held f t cs = some (d, p)) :
    ∃ f' xs, f = f' + 1 ∧ cs.length = P.cellsOf t ∧ (fs.toList.map (fun x => (x.offset, x.type))).mapM (fun x => DataW.trod enc P W base spare held f' x.2 ((cs.drop x.1).take (P.cellsOf x.2))) = some xs ∧ d = .agg (xs.map (·.1)) := by
  cases f with
  | zero => simp [DataW.trod] at h
  | succ f =>
    have h2 : (if cs.length = P.cellsOf t then (fs.toList.mapM fun x => DataW.trod enc P W base spare held f x.type ((cs.drop x.offset).take (P.cellsOf x.type))).map fun xs => (DataW.agg (xs.map (·.1)), xs.flatMap (·.2)) else none) = some (d, p) := by
      rw [← h]
      rcases cs with _ | ⟨c, _ | ⟨c', r⟩⟩ <;> simp [DataW.trod, ht]
    split at h2
    · rename_i hl
      rw [Option.map_eq_some_iff] at h2
      obtain ⟨xs, h3, h4⟩ := h2
      injection h4 with h4 h5
      refine ⟨f, xs, rfl, hl, ?_, h4.symm⟩
      rw [List.mapM_map]
      exact h3
    · cases h2
/-- A slice of things that read as an α each. -/
theorem trod_rows {α : Type} {t e : TypeId} {sz f : Nat} {v : Value} {d : DataW H} {p : List MemPlace} (en : α → List C) (R : α → DataW H → Prop) (ht : P.underlying t = some (.slice e)) (hsz : P.cellsOf e = sz) (hpos : 0 < sz) (hlen : ∀ x, (en x).length = sz)
    (h : DataW.trod enc P W base spare held f t [v] = some (d, p)) (ih : ∀ f', f = f' + 1 → ∀ cs d p, DataW.trod enc P W base spare held f' e cs = some (d, p) → ∃ x, RepL W anyB (en x) cs ∧ R x d) :
    ∃ xs ds, RepC W anyB (.sl sz (xs.map en)) v ∧ All2 R xs ds ∧ ((d = .nil ∧ ds = []) ∨ ∃ rest, d = .slice ds rest) := by
  cases f with
  | zero => simp [DataW.trod] at h
  | succ f =>
    have ih := ih f rfl
    cases v <;> try (simp [DataW.trod, ht] at h; done)
    rename_i A len cap
    cases A with
    | none =>
      have : len = 0 ∧ cap = 0 ∧ d = .nil := by
        simp only [DataW.trod, ht] at h
        split at h <;> simp_all
      obtain ⟨rfl, rfl, rfl⟩ := this
      exact ⟨[], [], ⟨none, 0, 0, rfl, rfl, by simp [maxLen], .inl rfl⟩, .nil, .inl ⟨rfl, rfl⟩⟩
    | some a =>
      simp only [DataW.trod, ht] at h
      split at h
      · rename_i hc
        obtain ⟨hb, hlc, hcm⟩ := hc
        rw [Option.bind_eq_some_iff] at h
        obtain ⟨elems, he, h⟩ := h
        rw [Option.map_eq_some_iff] at h
        obtain ⟨rest, hr, h⟩ := h
        injection h with h1 h2
        obtain ⟨hel, hget⟩ := mapM_some he
        rw [List.length_range] at hel
        have hget' : ∀ i (hi : i < elems.length), ∃ cs, cs.length = sz ∧ (∀ j u, cs[j]? = some u → W.cell? (a.add ((0 + i) * sz + j)) = some u) ∧ DataW.trod enc P W base spare held f e cs = some elems[i] := by
          intro i hi
          obtain ⟨b, hb1, hb2⟩ := hget i i (by rw [List.getElem?_range (by omega)])
          rw [List.getElem?_eq_getElem hi] at hb1
          injection hb1 with hb1
          rw [Option.bind_eq_some_iff] at hb2
          obtain ⟨cs, hcs, ht2⟩ := hb2
          rw [hsz] at hcs
          unfold World.cells? at hcs
          rw [if_pos (by rw [ablock]; exact hb)] at hcs
          obtain ⟨hl2, hg2⟩ := mapM_some hcs
          rw [List.length_range] at hl2
          refine ⟨cs, hl2, fun j u hu => ?_, by rw [ht2, hb1]⟩
          have hj : j < sz := by rw [← hl2]; exact (List.getElem?_eq_some_iff.1 hu).1
          obtain ⟨u', hu1, hu2⟩ := hg2 j j (by rw [List.getElem?_range hj])
          rw [hu] at hu1
          injection hu1 with hu1
          rw [hu1, ← hu2, aadd, Nat.zero_add]
        have go : ∀ (l : List (DataW H × List MemPlace)) (o : Nat), (∀ i (hi : i < l.length), ∃ cs, cs.length = sz ∧ (∀ j u, cs[j]? = some u → W.cell? (a.add ((o + i) * sz + j)) = some u) ∧ DataW.trod enc P W base spare held f e cs = some l[i]) →
            ∃ xs, RepRows W anyB sz a (o * sz) (xs.map en) ∧ All2 R xs (l.map (·.1)) := by
          intro l
          induction l with
          | nil => intro o _; exact ⟨[], trivial, .nil⟩
          | cons y l ihl =>
            intro o hy
            obtain ⟨cs, c1, c2, c3⟩ := hy 0 (by simp)
            obtain ⟨x, x1, x2⟩ := ih cs y.1 y.2 c3
            obtain ⟨xs, h3, h4⟩ := ihl (o + 1) (fun i hi => by
              obtain ⟨cs, c1, c2, c3⟩ := hy (i + 1) (by simp; omega)
              exact ⟨cs, c1, by rw [show o + 1 + i = o + (i + 1) by omega]; exact c2, c3⟩)
            refine ⟨x :: xs, ⟨hlen x, RepCells.of x1 (fun j u hu => c2 j u hu), ?_⟩, .cons x2 h4⟩
            rw [Nat.succ_mul] at h3
            exact h3
        obtain ⟨xs, h3, h4⟩ := go elems 0 hget'
        rw [Nat.zero_mul] at h3
        refine ⟨xs, elems.map (·.1), ⟨some a, len, cap, rfl, ?_, ⟨hlc, hcm⟩, ?_⟩, h4, .inr ⟨_, h1.symm⟩⟩
        · have := h4.length_eq
          simp at this ⊢
          omega
        · cases helem : elems with
          | nil => subst helem; cases h4; exact .inl rfl
          | cons y l =>
            refine .inr ⟨a, rfl, trivial, ?_, h3⟩
            obtain ⟨cs, c1, c2, _⟩ := hget' 0 (by rw [helem]; simp)
            have hc0 : 0 < cs.length := by omega
            have := c2 0 cs[0] (List.getElem?_eq_getElem hc0)
            have := lt_of_cell this
            rwa [ablock] at this
      · cases h
end
end Go.Proofs.Am
set_option maxRecDepth 100000
set_option maxHeartbeats 4000000
namespace Go.Proofs.Am
open Go.Proofs.YtfflfbhnedkppaaGreatDoor.Rows (uptoBulk uptoBulkAll uptoSmall)
theorem wf_i16 {n : Int} (h : (Lit.int .i16 n).wf = true) : i16r n := by
  simp only [Lit.wf, IntKind.min, IntKind.max, IntKind.signed, IntKind.bits, Bool.and_eq_true, decide_eq_true_eq, if_true] at h
  unfold i16r
  omega
section
variable {H : Type} {enc : TypeId × Value → H} {W : World} {base : Nat} {spare : Nat → Bool} {held : Bool}
def Flds (enc : TypeId × Value → H) (W : World) (base : Nat) (spare : Nat → Bool) (held : Bool) (f : Nat) : List TypeId → List Value → List (DataW H) → Prop
  | [], [], [] => True
  | t :: ts, v :: vs, d :: ds => (∃ p, DataW.trod enc Tryz.prog W base spare held f t [v] = some (d, p)) ∧ Flds enc W base spare held f ts vs ds
  | _, _, _ => False
theorem Flds.cons {f : Nat} {t : TypeId} {ts : List TypeId} {cs : List Value} {ds : List (DataW H)} (h : Flds enc W base spare held f (t :: ts) cs ds) :
    ∃ v vs d ds' p, cs = v :: vs ∧ ds = d :: ds' ∧ DataW.trod enc Tryz.prog W base spare held f t [v] = some (d, p) ∧ Flds enc W base spare held f ts vs ds' := by
  cases cs with
  | nil => cases ds <;> exact h.elim
  | cons v vs => cases ds with
    | nil => exact h.elim
    | cons d ds => obtain ⟨⟨p, hp⟩, hr⟩ := h; exact ⟨v, vs, d, ds, p, rfl, rfl, hp, hr⟩
theorem Flds.nil {f : Nat} {cs : List Value} {ds : List (DataW H)} (h : Flds enc W base spare held f [] cs ds) : cs = [] ∧ ds = [] := by
  cases cs <;> cases ds <;> first | exact ⟨rfl, rfl⟩ | exact h.elim
theorem flds_of {f : Nat} : ∀ (tys : List TypeId) (k : Nat) (cs : List Value) (xs : List (DataW H × List MemPlace)), (∀ t ∈ tys, Tryz.prog.cellsOf t = 1) → cs.length = k + tys.length →
    ((tys.zipIdx k).map fun p => (p.2, p.1)).mapM (fun x => DataW.trod enc Tryz.prog W base spare held f x.2 ((cs.drop x.1).take (Tryz.prog.cellsOf x.2))) = some xs → Flds enc W base spare held f tys (cs.drop k) (xs.map (·.1)) := by
  intro tys
  induction tys with
  | nil =>
    intro k cs xs _ hl h
    simp at h
    subst h
    rw [List.drop_of_length_le (by simpa using Nat.le_of_eq hl)]
    trivial
  | cons t ts ih =>
    intro k cs xs ht hl h
    simp only [List.zipIdx_cons, List.map_cons, List.mapM_cons, Option.bind_eq_bind, Option.bind_eq_some_iff, Option.pure_def, Option.some.injEq] at h
    obtain ⟨b, hb, r, hr, rfl⟩ := h
    have hk : k < cs.length := by simp at hl; omega
    rw [List.drop_eq_getElem_cons hk]
    have h1 := ih (k + 1) cs r (fun u hu => ht u (by simp [hu])) (by simp at hl; omega) hr
    rw [ht t (by simp), List.drop_eq_getElem_cons hk] at hb
    exact ⟨⟨b.2, hb⟩, h1⟩
theorem open_agg {t : TypeId} {fs : Array Field} {tys : List TypeId} {f : Nat} {cs : List Value} {d : DataW H} {p : List MemPlace} (ht : Tryz.prog.underlying t = some (.struct fs)) (hf : fs.toList.map (fun x => (x.offset, x.type)) = (tys.zipIdx 0).map fun p => (p.2, p.1))
    (hc : Tryz.prog.cellsOf t = tys.length) (ho : tys.all (fun u => Tryz.prog.cellsOf u == 1) = true) (h : DataW.trod enc Tryz.prog W base spare held f t cs = some (d, p)) : ∃ f' ds, f = f' + 1 ∧ d = .agg ds ∧ Flds enc W base spare held f' tys cs ds := by
  obtain ⟨f', xs, h1, h2, h3, h4⟩ := trod_struct ht h
  rw [hf] at h3
  exact ⟨f', _, h1, h4, flds_of tys 0 cs xs (fun u hu => by simpa using List.all_eq_true.1 ho u hu) (by rw [h2, hc]; simp) h3⟩
theorem cells32 : Tryz.prog.cellsOf 32 = 6 := by kernel_rfl
theorem wdL_all {ds : List (DataW H)} {xs : List Ex} (h : All2 (fun x d => wdE x ∧ (subE x).length ≤ uptoBulk d) xs ds) : wdL xs ∧ (subL xs).length ≤ uptoBulkAll ds := by
  induction h with
  | nil => exact ⟨by rw [wdL]; trivial, by simp [subL, uptoBulkAll]⟩
  | cons h _ ih => exact ⟨by rw [wdL]; exact ⟨h.1, ih.1⟩, by rw [subL, List.length_append, uptoBulkAll]; omega⟩
theorem bulk_sl {d : DataW H} {ds : List (DataW H)} (h : (d = .nil ∧ ds = []) ∨ ∃ rest, d = .slice ds rest) : uptoBulkAll ds + 1 ≤ uptoBulk d := by
  rcases h with ⟨rfl, rfl⟩ | ⟨rest, rfl⟩ <;> simp [uptoBulk, uptoBulkAll]
theorem br_E : ∀ (f : Nat) (cs : List Value) (d : DataW H) (p : List MemPlace), DataW.trod enc Tryz.prog W base spare held f 32 cs = some (d, p) → ∃ x : Ex, RepL W anyB (encE x) cs ∧ (wdE x ∧ (subE x).length ≤ uptoBulk d) := by
  intro f
  induction f using Nat.strongRecOn with
  | ind f ih =>
    intro cs d p h
    obtain ⟨f', ds, rfl, rfl, hF⟩ := open_agg (tys := [3, 9, 29, 3, 30, 3]) Tryz.underlying32 rfl cells32 (by kernel_rfl) h
    obtain ⟨v0, _, d0, _, p0, rfl, rfl, h0, hF⟩ := hF.cons
    obtain ⟨v1, _, d1, _, p1, rfl, rfl, h1, hF⟩ := hF.cons
    obtain ⟨v2, _, d2, _, p2, rfl, rfl, h2, hF⟩ := hF.cons
    obtain ⟨v3, _, d3, _, p3, rfl, rfl, h3, hF⟩ := hF.cons
    obtain ⟨v4, _, d4, _, p4, rfl, rfl, h4, hF⟩ := hF.cons
    obtain ⟨v5, _, d5, _, p5, rfl, rfl, h5, hF⟩ := hF.cons
    obtain ⟨rfl, rfl⟩ := hF.nil
    obtain ⟨k, rfl, rfl, _⟩ := trod_int Tryz.underlying3 h0
    obtain ⟨n, rfl, rfl, hn⟩ := trod_str Tryz.underlying9 h1
    obtain ⟨v, rfl, rfl, hv⟩ := trod_int Tryz.underlying29 h2
    obtain ⟨o, rfl, rfl, _⟩ := trod_int Tryz.underlying3 h3
    obtain ⟨q, rfl, rfl, _⟩ := trod_int Tryz.underlying3 h5
    obtain ⟨xs, es, hx, hA, hd⟩ := trod_rows encE (fun x d => wdE x ∧ (subE x).length ≤ uptoBulk d) Tryz.underlying30 cells32 (by omega) encE_len h4 (fun g hg => ih g (by omega))
    obtain ⟨hw, hs⟩ := wdL_all hA
    have hb := bulk_sl hd
    refine ⟨.mk k n v o xs q, .cons rfl (.cons ⟨rfl, hn⟩ (.cons rfl (.cons rfl (.cons ?_ (.cons rfl .nil))))), ?_, ?_⟩
    · rw [encEs_map]; exact hx
    · rw [wdE]; exact ⟨wf_i16 hv, hw⟩
    · rw [subE_len]
      simp only [Ex.args, uptoBulk, uptoBulkAll]
      omega
end
end Go.Proofs.Am
set_option maxRecDepth 100000
set_option maxHeartbeats 4000000
namespace Go.Proofs.Am
open Go.Proofs.YtfflfbhnedkppaaGreatDoor.Rows (uptoBulk uptoBulkAll uptoSmall)
section
variable {H : Type} {enc : TypeId × Value → H} {W : World} {base : Nat} {spare : Nat → Bool} {held : Bool}
/-- An argument of a struct's type. -/
theorem agg_of {t : TypeId} {fs : Array Field} (ht : Tryz.prog.underlying t = some (.struct fs)) {r : Go.Reach} {b : Nat} {v : Value} (h : Value.okWide Tryz.prog W r b t v) : ∃ cs : Array Value, v = .agg cs := by
  unfold Value.okWide at h
  rw [ht] at h
  obtain ⟨cs, h1, _⟩ := h
  exact ⟨cs, h1⟩
theorem arg_E {v : Value} {d : DataW H} {ps : List MemPlace} {r : Go.Reach} {b : Nat} (hv : Value.okWide Tryz.prog W r b 32 v) (h : DataW.Trod enc Tryz.prog W base spare held 32 v d ps) :
    ∃ x : Ex, RepA W anyB (.agg (encE x)) v ∧ wdE x ∧ (subE x).length ≤ uptoBulk d := by
  obtain ⟨cs, rfl⟩ := agg_of Tryz.underlying32 hv
  obtain ⟨f, hf⟩ := h
  obtain ⟨x, hx, h2⟩ := br_E f _ d ps hf
  exact ⟨x, ⟨cs.toList, by simp, hx⟩, h2⟩
end
end Go.Proofs.Am
set_option maxRecDepth 100000
set_option maxHeartbeats 4000000
namespace Go.Proofs
def Tryz.laysM171_ren : Go.Shelf.Ren := ⟨fun | 171 => 86 | 243 => 159 | 246 => 199 | 283 => 226 | 284 => 227 | 285 => 228 | 286 => 229 | 129 => 240 | 317 => 239 | 318 => 241 | 319 => 242 | 320 => 243 | 337 => 246 | 338 => 247 | n => n, fun | 3 => 3 | 9 => 9 | 2 => 2 | 4 => 4 | 171 => 245 | 0 => 0 | 53 => 246 | 37 => 115 | 5 => 5 | 173 => 249 | 212 => 262 | 51 => 263 | 20 => 20 | 213 => 264 | 46 => 265 | 232 => 284 | 233 => 285 | n => n, fun | 17 => 4 | 18 => 6 | 19 => 7 | n => n⟩
theorem Tryz.laysM171 : Go.Proofs.LaysM.n171 Tryz.prog Tryz.laysM171_ren := {
  mixed := by kernel_rfl
  f129 := Tryz.func240.trans (congrArg some (by kernel_rfl))
  f171 := Tryz.func86.trans (congrArg some (by kernel_rfl))
  f243 := Tryz.func159.trans (congrArg some (by kernel_rfl))
  f246 := Tryz.func199.trans (congrArg some (by kernel_rfl))
  f283 := Tryz.func226.trans (congrArg some (by kernel_rfl))
  f284 := Tryz.func227.trans (congrArg some (by kernel_rfl))
  f285 := Tryz.func228.trans (congrArg some (by kernel_rfl))
  f286 := Tryz.func229.trans (congrArg some (by kernel_rfl))
  f317 := Tryz.func239.trans (congrArg some (by kernel_rfl))
  f318 := Tryz.func241.trans (congrArg some (by kernel_rfl))
  f319 := Tryz.func242.trans (congrArg some (by kernel_rfl))
  f320 := Tryz.func243.trans (congrArg some (by kernel_rfl))
  f337 := Tryz.func246.trans (congrArg some (by kernel_rfl))
  f338 := Tryz.func247.trans (congrArg some (by kernel_rfl))
  t0 := Tryz.underlying0
  a0 := Tryz.isAgg0
  z0 := Tryz.sizeOf0
  v0 := Tryz.zeroValue0
  t2 := Tryz.underlying2
  a2 := Tryz.isAgg2
  z2 := Tryz.sizeOf2
  v2 := Tryz.zeroValue2
  t3 := Tryz.underlying3
  a3 := Tryz.isAgg3
  z3 := Tryz.sizeOf3
  v3 := Tryz.zeroValue3
  t4 := Tryz.underlying4
  a4 := Tryz.isAgg4
  z4 := Tryz.sizeOf4
  v4 := Tryz.zeroValue4
  t5 := Tryz.underlying5
  a5 := Tryz.isAgg5
  z5 := Tryz.sizeOf5
  v5 := Tryz.zeroValue5
  t9 := Tryz.underlying9
  a9 := Tryz.isAgg9
  z9 := Tryz.sizeOf9
  v9 := Tryz.zeroValue9
  t20 := Tryz.underlying20
  a20 := Tryz.isAgg20
  z20 := Tryz.sizeOf20
  v20 := Tryz.zeroValue20
  t37 := Tryz.underlying115
  a37 := Tryz.isAgg115
  z37 := Tryz.sizeOf115
  v37 := Tryz.zeroValue115
  t46 := Tryz.underlying265
  a46 := Tryz.isAgg265
  z46 := Tryz.sizeOf265
  v46 := Tryz.zeroValue265
  t51 := Tryz.underlying263
  a51 := Tryz.isAgg263
  z51 := Tryz.sizeOf263
  v51 := Tryz.zeroValue263
  t53 := Tryz.underlying246
  a53 := Tryz.isAgg246
  z53 := Tryz.sizeOf246
  v53 := Tryz.zeroValue246
  t171 := Tryz.underlying245
  a171 := Tryz.isAgg245
  z171 := Tryz.sizeOf245
  v171 := Tryz.zeroValue245
  t173 := Tryz.underlying249
  a173 := Tryz.isAgg249
  z173 := Tryz.sizeOf249
  v173 := Tryz.zeroValue249
  t212 := Tryz.underlying262
  a212 := Tryz.isAgg262
  z212 := Tryz.sizeOf262
  v212 := Tryz.zeroValue262
  t213 := Tryz.underlying264
  a213 := Tryz.isAgg264
  z213 := Tryz.sizeOf264
  t232 := Tryz.underlying284
  a232 := Tryz.isAgg284
  z232 := Tryz.sizeOf284
  v232 := Tryz.zeroValue284
  t233 := Tryz.underlying285
  a233 := Tryz.isAgg285
  z233 := Tryz.sizeOf285
  v233 := Tryz.zeroValue285
  g17 := by kernel_rfl
  g18 := by kernel_rfl
  g19 := by kernel_rfl
  i0 := by kernel_rfl
  i2 := by kernel_rfl
  i3 := by kernel_rfl
  i4 := by kernel_rfl
  i5 := by kernel_rfl
  i9 := by kernel_rfl
  i20 := by kernel_rfl
  i37 := by kernel_rfl
  i46 := by kernel_rfl
  i51 := by kernel_rfl
  i53 := by kernel_rfl
  i171 := by kernel_rfl
  i173 := by kernel_rfl
  i212 := by kernel_rfl
  i232 := by kernel_rfl
  i233 := by kernel_rfl
  m17 := by kernel_rfl
  m18 := by kernel_rfl
  m19 := by kernel_rfl }
open Go.RowKit Go.Sort Go.Lib in
theorem Tryz.strconv_Itoa (n : Int) (h0 : -9223372036854775808 ≤ n) (h1 : n ≤ 9223372036854775807) (w : World) (htab : Lib.TabIs Tryz.prog w "internal/strconv.uint64pow10" .u64 Lib.pow10Tab) :
    Calls Tryz.prog 86 #[.int .i64 n] w fun e w' => e = .returned (.string ⟨(Lib.itoa n).toArray⟩) ∧ ∃ k os, w' = grow (w.drewN k) os := Any.strconv_Itoa Tryz.laysM171 n h0 h1 w htab
def Tryz.lays157_ren : Go.Shelf.Ren := ⟨fun | 157 => 206 | 229 => 232 | 199 => 233 | 261 => 244 | 311 => 248 | 312 => 249 | n => n, fun | 9 => 9 | 31 => 24 | 3 => 3 | 5 => 5 | 4 => 4 | 119 => 251 | 0 => 0 | 40 => 253 | 152 => 267 | 21 => 21 | 154 => 269 | 51 => 263 | 141 => 271 | 196 => 277 | 193 => 274 | 198 => 279 | 49 => 256 | 194 => 275 | 201 => 282 | 226 => 286 | 46 => 265 | 227 => 287 | n => n, fun | 0 => 3 | 6 => 5 | n => n⟩
theorem Tryz.lays157 : Go.Proofs.Lays.n157 Tryz.prog Tryz.lays157_ren := {
  mixed := by kernel_rfl
  f157 := Tryz.func206.trans (congrArg some (by kernel_rfl))
  f199 := Tryz.func233.trans (congrArg some (by kernel_rfl))
  f229 := Tryz.func232.trans (congrArg some (by kernel_rfl))
  f261 := Tryz.func244.trans (congrArg some (by kernel_rfl))
  f311 := Tryz.func248.trans (congrArg some (by kernel_rfl))
  f312 := Tryz.func249.trans (congrArg some (by kernel_rfl))
  t0 := Tryz.underlying0
  a0 := Tryz.isAgg0
  z0 := Tryz.sizeOf0
  v0 := Tryz.zeroValue0
  t3 := Tryz.underlying3
  a3 := Tryz.isAgg3
  z3 := Tryz.sizeOf3
  v3 := Tryz.zeroValue3
  t4 := Tryz.underlying4
  a4 := Tryz.isAgg4
  z4 := Tryz.sizeOf4
  v4 := Tryz.zeroValue4
  t5 := Tryz.underlying5
  a5 := Tryz.isAgg5
  z5 := Tryz.sizeOf5
  v5 := Tryz.zeroValue5
  t9 := Tryz.underlying9
  a9 := Tryz.isAgg9
  z9 := Tryz.sizeOf9
  v9 := Tryz.zeroValue9
  t21 := Tryz.underlying21
  a21 := Tryz.isAgg21
  z21 := Tryz.sizeOf21
  v21 := Tryz.zeroValue21
  t31 := Tryz.underlying24
  a31 := Tryz.isAgg24
  z31 := Tryz.sizeOf24
  v31 := Tryz.zeroValue24
  t40 := Tryz.underlying253
  a40 := Tryz.isAgg253
  z40 := Tryz.sizeOf253
  v40 := Tryz.zeroValue253
  t46 := Tryz.underlying265
  a46 := Tryz.isAgg265
  z46 := Tryz.sizeOf265
  v46 := Tryz.zeroValue265
  t49 := Tryz.underlying256
  a49 := Tryz.isAgg256
  z49 := Tryz.sizeOf256
  v49 := Tryz.zeroValue256
  t51 := Tryz.underlying263
  a51 := Tryz.isAgg263
  z51 := Tryz.sizeOf263
  v51 := Tryz.zeroValue263
  t119 := Tryz.underlying251
  a119 := Tryz.isAgg251
  z119 := Tryz.sizeOf251
  t141 := Tryz.underlying271
  a141 := Tryz.isAgg271
  z141 := Tryz.sizeOf271
  v141 := Tryz.zeroValue271
  t152 := Tryz.underlying267
  a152 := Tryz.isAgg267
  z152 := Tryz.sizeOf267
  v152 := Tryz.zeroValue267
  t154 := Tryz.underlying269
  a154 := Tryz.isAgg269
  z154 := Tryz.sizeOf269
  v154 := Tryz.zeroValue269
  t193 := Tryz.underlying274
  a193 := Tryz.isAgg274
  z193 := Tryz.sizeOf274
  v193 := Tryz.zeroValue274
  t194 := Tryz.underlying275
  a194 := Tryz.isAgg275
  z194 := Tryz.sizeOf275
  v194 := Tryz.zeroValue275
  t196 := Tryz.underlying277
  a196 := Tryz.isAgg277
  z196 := Tryz.sizeOf277
  v196 := Tryz.zeroValue277
  t198 := Tryz.underlying279
  a198 := Tryz.isAgg279
  z198 := Tryz.sizeOf279
  v198 := Tryz.zeroValue279
  t201 := Tryz.underlying282
  a201 := Tryz.isAgg282
  z201 := Tryz.sizeOf282
  v201 := Tryz.zeroValue282
  t226 := Tryz.underlying286
  a226 := Tryz.isAgg286
  z226 := Tryz.sizeOf286
  v226 := Tryz.zeroValue286
  t227 := Tryz.underlying287
  a227 := Tryz.isAgg287
  z227 := Tryz.sizeOf287
  v227 := Tryz.zeroValue287
  g0 := by kernel_rfl
  g6 := by kernel_rfl }
open Go.RowKit Go.Lib in
theorem Tryz.strings_Fields (s : ByteArray) (w : World) (hs : s.size < 4294967281) (hascii : ∀ (j : Nat) b, s.data.toList[j]? = some b → b.toNat < 128) (htab : Lib.TabIs Tryz.prog w "strings.asciiSpace" .u8 Lib.asciiSpaceTab) :
    Calls Tryz.prog 206 #[.string s] w fun e w' =>
      e = .returned (.slice (some ⟨w.heap.size, 0, none⟩) (Lib.fields s.data.toList).length (Lib.fields s.data.toList).length) ∧ w' = w.alloc (.cells ((Lib.fields s.data.toList).map fun l => Value.string ⟨l.toArray⟩).toArray 9) := Any.strings_Fields Tryz.lays157 (by kernel_rfl) (by kernel_rfl) s w hs hascii htab
end Go.Proofs
namespace Go.Proofs.Am
open Go.RowKit
def kwText : List UInt8 := [99, 104, 97, 110, 110, 101, 108, 32, 99, 104, 101, 99, 107, 112, 111, 105, 110, 116, 32, 99, 111, 110, 115, 116, 32, 100, 101, 97, 100, 108, 105, 110, 101, 32, 101, 108, 115, 101, 32, 101, 109, 105, 116, 32, 101, 118, 101, 114, 121, 32, 102, 114, 101, 115, 104, 32, 105, 102, 32, 108, 101, 116, 32, 111, 110, 32, 111, 117, 116, 112, 117, 116, 32, 114, 101, 97, 100, 32, 114, 101, 112, 101, 97, 116, 32, 114, 101, 116, 117, 114, 110, 32, 115, 101, 110, 100, 32, 115, 101, 110, 115, 111, 114, 32, 116, 97, 115, 107, 32, 116, 111, 103, 101, 116, 104, 101, 114, 32, 118, 97, 114, 32, 119, 104, 105, 108, 101, 32, 119, 105, 116, 104, 105, 110]
theorem kw_fields : Lib.fields kwText = kws := by kernel_rfl
theorem kw_ascii : kwText.all (fun b => decide (b.toNat < 128)) = true := by kernel_rfl
theorem ints_of {w : World} {F : Nat → Prop} {k : IntKind} : ∀ {zs : List Int} {vs : List Value}, RepL w F (zs.map (C.int k)) vs → vs = zs.map (Value.int k) := by
  intro zs
  induction zs with
  | nil => intro vs h; cases h; rfl
  | cons z r ih =>
    intro vs h
    cases h with
    | cons h1 h2 => rw [ih h2, List.map_cons]; congr 1
theorem tab_of {w : World} (h : GlobOk zG w) {g : Nat} {name : String} {k : IntKind} {zs : List Int} (hg : Tryz.prog.globalNamed name = some g) (hG : zG.glob g = some (zs.map (C.int k))) : Lib.TabIs Tryz.prog w name k zs := by
  obtain ⟨h1, h2, vs, ty, fz, h3, hl⟩ := h g _ hG
  unfold Lib.TabIs World.var?
  rw [hg]
  simp only [Option.bind_some, h3]
  rw [← ints_of hl]
theorem space_tab : zG.glob 3 = some (Lib.asciiSpaceTab.map (C.int .u8)) := by kernel_rfl
theorem pow_tab : zG.glob 4 = some (Lib.pow10Tab.map (C.int .u64)) := by kernel_rfl
/-- A new block of strings. -/
theorem strs_rep {w : World} {F : Nat → Prop} {b : Nat} {ss : List (List UInt8)} {vs : Array Value} {ty : TypeId} (hh : w.heap[b]? = some (.cells vs ty (0, 0))) (hv : vs.toList = ss.map fun l => Value.string ⟨l.toArray⟩) (hm : ∀ s ∈ ss, s.length ≤ maxLen) : RepRows w F 1 ⟨b, 0, none⟩ 0 (encStrs ss) := by
  refine RepRows.of (encStrs_rows ss) (RepCells.of (vs := vs.toList) ?_ fun j u hu => ?_)
  · rw [hv]
    clear hv
    induction ss with
    | nil => exact .nil
    | cons s r ih =>
      rw [encStrs_cons]
      exact .cons ⟨rfl, hm s (by simp)⟩ (ih (fun s hs => hm s (by simp [hs])))
  · rw [Nat.zero_add, aplain, cell_at hh]
    simpa using hu
theorem kw_len : kws.all (fun s => decide (s.length ≤ 100)) = true := by kernel_rfl
theorem holds206 : Holds Tryz.prog zG 206 [.c (.str kwText)] [.c (.sl 1 (encStrs kws))] := by
  refine ⟨⟨Tryz.f206, Tryz.func206, rfl, rfl⟩, fun ok w vs hng hglob hA => ?_⟩
  cases hA with
  | cons h r =>
    cases r
    obtain ⟨rfl, _⟩ : _ = Value.string ⟨kwText.toArray⟩ ∧ _ := h
    refine Calls.mono (Tryz.strings_Fields ⟨kwText.toArray⟩ w (by decide +kernel) (fun j b hb => ?_) (tab_of hglob (by kernel_rfl) space_tab)) fun e w' he => ?_
    · have := List.all_eq_true.1 kw_ascii b (List.mem_of_getElem? hb)
      simpa using this
    · obtain ⟨rfl, rfl⟩ := he
      have hkw : Lib.fields (⟨kwText.toArray⟩ : ByteArray).data.toList = kws := kw_fields
      rw [hkw]
      refine ⟨[_], rfl, .cons ⟨some ⟨w.heap.size, 0, none⟩, kws.length, kws.length, rfl, (encStrs_length _).symm, ⟨Nat.le_refl _, by decide +kernel⟩, .inr ⟨_, rfl, .inr (Nat.le_refl _), by simp only [World.alloc, Array.size_push]; omega, strs_rep (heap_alloc_new w _) (by simp) ?_⟩⟩ .nil, (Below.refl _ w).alloc (Nat.le_refl _) _⟩
      intro s hs
      have := List.all_eq_true.1 kw_len s hs
      simp at this
      simp only [maxLen]
      omega
theorem holds86 (n : Int) (h0 : -9223372036854775808 ≤ n) (h1 : n ≤ 9223372036854775807) : Holds Tryz.prog zG 86 [.c (.int .i64 n)] [.c (.str (Lib.itoa n))] := by
  refine ⟨⟨Tryz.f86, Tryz.func86, rfl, rfl⟩, fun ok w vs hng hglob hA => ?_⟩
  cases hA with
  | cons h r =>
    cases r
    obtain rfl : _ = Value.int .i64 n := h
    refine Calls.mono (Tryz.strconv_Itoa n h0 h1 w (tab_of hglob (by kernel_rfl) pow_tab)) fun e w' he => ?_
    obtain ⟨rfl, k, os, rfl⟩ := he
    refine ⟨[_], rfl, .cons ⟨rfl, by have := Lib.itoa_length_le n h0 h1; simp only [maxLen]; omega⟩ .nil, ?_⟩
    refine ⟨rfl, rfl, rfl, by simp [Sort.grow, World.drewN], fun b hb => ?_⟩
    simp only [Sort.grow, World.drewN]
    rw [Array.getElem?_append_left hb]
end Go.Proofs.Am
set_option maxRecDepth 100000
set_option maxHeartbeats 4000000
namespace Go.Proofs.Am
open Go.Proofs.YtfflfbhnedkppaaGreatDoor Go.RowKit
section
variable {H : Type} {enc : TypeId × Value → H} {W : World} {base : Nat} {spare : Nat → Bool} {held : Bool} {F : Nat → Prop}
abbrev noB : Nat → Prop := fun _ => False
/-- The cells of a datum that lies in no other block. -/
def datC : DataW Unit → Option (List C)
  | .lit (.int k z) => some [.int k z]
  | .lit (.string s) => some [.str s]
  | .lit (.bool b) => some [.bool b]
  | _ => none
theorem leaf_rep {e : TypeId} (he : (∃ k, Tryz.prog.underlying e = some (.int k)) ∨ Tryz.prog.underlying e = some .string ∨ Tryz.prog.underlying e = some .bool) (f : Nat) (cs : List Value) (d : DataW Unit) (p : List MemPlace) (h : DataW.trod (fun _ => ()) Tryz.prog W base spare held f e cs = some (d, p)) (l : List C) (hl : datC d = some l) : RepL W F l cs := by
  cases f with
  | zero => simp [DataW.trod] at h
  | succ f =>
    rcases he with ⟨k, he⟩ | he | he
    · match cs, h with
      | [v], h =>
        obtain ⟨n, rfl, rfl, _⟩ := trod_int he h
        injection hl with hl
        subst hl
        exact .cons rfl .nil
      | [], h => simp [DataW.trod, he] at h
      | _ :: _ :: _, h => simp [DataW.trod, he] at h
    · match cs, h with
      | [v], h =>
        obtain ⟨n, rfl, rfl, hn⟩ := trod_str he h
        injection hl with hl
        subst hl
        exact .cons ⟨rfl, hn⟩ .nil
      | [], h => simp [DataW.trod, he] at h
      | _ :: _ :: _, h => simp [DataW.trod, he] at h
    · match cs, h with
      | [v], h =>
        cases v <;> simp [DataW.trod, he] at h
        obtain ⟨rfl, rfl⟩ := h
        injection hl with hl
        subst hl
        exact .cons rfl .nil
      | [], h => simp [DataW.trod, he] at h
      | _ :: _ :: _, h => simp [DataW.trod, he] at h
theorem flat_rep {sz : Nat} : ∀ (rows : List (List C)) (cs : List Value), cs.length = rows.length * sz → (∀ i (hi : i < rows.length), RepL W F rows[i] ((cs.drop (i * sz)).take sz)) → RepL W F rows.flatten cs := by
  intro rows
  induction rows with
  | nil => intro cs hl _; simp at hl; subst hl; exact .nil
  | cons r rest ih =>
    intro cs hl h
    have h0 := h 0 (by simp)
    simp only [List.getElem_cons_zero, Nat.zero_mul, List.drop_zero] at h0
    have h1 := ih (cs.drop sz) (by rw [List.length_drop, hl, List.length_cons, Nat.succ_mul]; omega) fun i hi => by
      have := h (i + 1) (by simpa using hi)
      rw [List.getElem_cons_succ, Nat.succ_mul, Nat.add_comm (i * sz) sz] at this
      rw [List.drop_drop]
      exact this
    have := h0.append h1
    rwa [List.take_append_drop] at this
theorem arr_rep {t e : TypeId} {n sz : Nat} (ht : Tryz.prog.underlying t = some (.array n e)) (hsz : Tryz.prog.cellsOf e = sz) (hct : Tryz.prog.cellsOf t = n * sz) {f : Nat} {cs : List Value} {ds : List (DataW Unit)} {p : List MemPlace}
    (h : DataW.trod (fun _ => ()) Tryz.prog W base spare held f t cs = some (.agg ds, p)) (rows : List (List C)) (hn : rows.length = n)
    (hrow : ∀ (i : Nat) (hi : i < rows.length) f cs d p, DataW.trod (fun _ => ()) Tryz.prog W base spare held f e cs = some (d, p) → ds[i]? = some d → RepL W F rows[i] cs) : RepL W F rows.flatten cs := by
  cases f with
  | zero => simp [DataW.trod] at h
  | succ f =>
    have h2 : (if cs.length = Tryz.prog.cellsOf t then ((List.range n).mapM fun i => DataW.trod (fun _ => ()) Tryz.prog W base spare held f e ((cs.drop (i * Tryz.prog.cellsOf e)).take (Tryz.prog.cellsOf e))).map fun xs => (DataW.agg (xs.map (·.1)), xs.flatMap (·.2)) else none) = some (.agg ds, p) := by
      rw [← h]
      rcases cs with _ | ⟨c, _ | ⟨c', r⟩⟩ <;> simp [DataW.trod, ht]
    split at h2
    · rename_i hl
      rw [Option.map_eq_some_iff] at h2
      obtain ⟨xs, h3, h4⟩ := h2
      injection h4 with h4 h5
      injection h4 with h4
      obtain ⟨hxl, hx⟩ := mapM_some h3
      refine flat_rep rows cs (by rw [hl, hct, hn]) fun i hi => ?_
      obtain ⟨b, hb1, hb2⟩ := hx i i (by rw [List.getElem?_range (by omega)])
      rw [hsz] at hb2
      exact hrow i hi f _ b.1 b.2 hb2 (by rw [← h4, List.getElem?_map, hb1]; rfl)
    · cases h2
theorem leafs_rep {t e : TypeId} {n : Nat} (ht : Tryz.prog.underlying t = some (.array n e)) (hsz : Tryz.prog.cellsOf e = 1) (hct : Tryz.prog.cellsOf t = n) (he : (∃ k, Tryz.prog.underlying e = some (.int k)) ∨ Tryz.prog.underlying e = some .string ∨ Tryz.prog.underlying e = some .bool) {f : Nat} {cs : List Value} {ds : List (DataW Unit)} {p : List MemPlace}
    (h : DataW.trod (fun _ => ()) Tryz.prog W base spare held f t cs = some (.agg ds, p)) (g : List C) (hn : g.length = n) (hd : ds.map datC = g.map fun c => some [c]) : RepL W F g cs := by
  have h1 : (g.map fun c => [c]).flatten = g := by
    clear hn hd
    induction g with
    | nil => rfl
    | cons c r ih => rw [List.map_cons, List.flatten_cons, ih]; rfl
  rw [← h1]
  refine arr_rep ht hsz (by rw [hct, Nat.mul_one]) h _ (by simpa using hn) fun i hi f cs d p h2 h3 => ?_
  refine leaf_rep he f cs d p h2 _ ?_
  have h4 : (ds.map datC)[i]? = some (datC d) := by rw [List.getElem?_map, h3]; rfl
  rw [hd] at h4
  rw [List.getElem?_map] at h4
  simp only [List.length_map] at hi
  rw [List.getElem?_eq_getElem hi] at h4
  simp only [Option.map_some, Option.some.injEq] at h4
  rw [← h4]
  simp
theorem fields_rep {f : Nat} : ∀ (tys : List TypeId) (cs : List Value) (ds : List (DataW Unit)), Flds (fun _ => ()) W base spare held f tys cs ds → (∀ t ∈ tys, (∃ k, Tryz.prog.underlying t = some (.int k)) ∨ Tryz.prog.underlying t = some .string ∨ Tryz.prog.underlying t = some .bool) → ∀ g : List C, ds.map datC = g.map (fun c => some [c]) → RepL W F g cs := by
  intro tys
  induction tys with
  | nil =>
    intro cs ds h _ g hg
    obtain ⟨rfl, rfl⟩ := h.nil
    cases g with
    | nil => exact .nil
    | cons => simp at hg
  | cons t ts ih =>
    intro cs ds h ht g hg
    obtain ⟨v, vs, d, ds', p, rfl, rfl, h1, h2⟩ := h.cons
    cases g with
    | nil => simp at hg
    | cons c r =>
      simp only [List.map_cons, List.cons.injEq] at hg
      have h3 := leaf_rep (F := F) (ht t (by simp)) f [v] d p h1 [c] hg.1
      cases h3 with
      | cons h3 _ => exact .cons h3 (ih vs ds' h2 (fun u hu => ht u (by simp [hu])) r hg.2)
def stmtRows : List (List C) := [0, 1, 2, 3, 4, 5, 6, 7, 8, 9, 10, 11, 12, 13].map fun i => (gStatements.drop (i * 5)).take 5
theorem stmtRows_flat : stmtRows.flatten = gStatements := by kernel_rfl
def aggs : DataW Unit → Option (List (Option (List C)))
  | .agg ds => some (ds.map datC)
  | _ => none
def stDs : List (DataW Unit) := match (Rows.laid_trickle_ast_statements : DataW Unit) with | .agg ds => ds | _ => []
theorem stmt_aggs : stDs.map aggs = stmtRows.map fun r => some (r.map fun c => some [c]) := by kernel_rfl
theorem var_block {n : String} {g : Nat} {cs : Array Value} (hg : Tryz.prog.globalNamed n = some g) (h : W.var? Tryz.prog n = some cs) : g < W.heap.size ∧ ∃ ty fz, W.heap[g]? = some (.cells cs ty fz) := by
  unfold World.var? at h
  rw [hg] at h
  simp only [Option.bind_some] at h
  split at h
  · rename_i c ty fz hh
    injection h with h
    subst h
    exact ⟨(Array.getElem?_eq_some_iff.1 hh).1, ty, fz, hh⟩
  · cases h
def laidL : List (String × DataW Unit) := [("math/bits.deBruijn32tab", Rows.laid_math_bits_deBruijn32tab), ("math/bits.deBruijn64tab", Rows.laid_math_bits_deBruijn64tab), ("internal/strconv.uint64pow10", Rows.laid_internal_strconv_uint64pow10), ("unicode.White_Space", Rows.laid_unicode_White_Space), ("strings.asciiSpace", Rows.laid_strings_asciiSpace), ("trickle/ast.symbols", Rows.laid_trickle_ast_symbols), ("trickle/ast.levels", Rows.laid_trickle_ast_levels), ("trickle/ast.statements", Rows.laid_trickle_ast_statements)]
theorem glob_ok (h : laidMetH Tryz.prog laidL W) : GlobOk zG W := by
  have h : laidMet Tryz.prog laidL W := h
  obtain ⟨ps, hL, _⟩ := h
  obtain ⟨_, _, _, _, _, _, _, _, _, _, hL, _⟩ := hL
  obtain ⟨_, _, _, _, _, _, _, _, _, _, hL, _⟩ := hL
  obtain ⟨g4, t4, c4, f4, p4, _, n4, y4, v4, r4, hL, _⟩ := hL
  obtain ⟨_, _, _, _, _, _, _, _, _, _, hL, _⟩ := hL
  obtain ⟨g3, t3, c3, f3, p3, _, n3, y3, v3, r3, hL, _⟩ := hL
  obtain ⟨g0, t0, c0, f0, p0, _, n0, y0, v0, r0, hL, _⟩ := hL
  obtain ⟨g1, t1, c1, f1, p1, _, n1, y1, v1, r1, hL, _⟩ := hL
  obtain ⟨g2, t2, c2, f2, p2, _, n2, y2, v2, r2, hL, _⟩ := hL
  have e0 : g0 = 0 := Option.some.inj (n0.symm.trans (by kernel_rfl))
  have e1 : g1 = 1 := Option.some.inj (n1.symm.trans (by kernel_rfl))
  have e2 : g2 = 2 := Option.some.inj (n2.symm.trans (by kernel_rfl))
  have e3 : g3 = 3 := Option.some.inj (n3.symm.trans (by kernel_rfl))
  have e4 : g4 = 4 := Option.some.inj (n4.symm.trans (by kernel_rfl))
  subst e0 e1 e2 e3 e4
  have u0 : t0 = 199 := Option.some.inj (y0.symm.trans (by kernel_rfl))
  have u1 : t1 = 202 := Option.some.inj (y1.symm.trans (by kernel_rfl))
  have u2 : t2 = 227 := Option.some.inj (y2.symm.trans (by kernel_rfl))
  have u3 : t3 = 251 := Option.some.inj (y3.symm.trans (by kernel_rfl))
  have u4 : t4 = 262 := Option.some.inj (y4.symm.trans (by kernel_rfl))
  subst u0 u1 u2 u3 u4
  have b0 : RepL W noB gSymbols c0.toList := leafs_rep Tryz.underlying199 (by kernel_rfl) (by kernel_rfl) (.inr (.inl Tryz.underlying9)) r0 gSymbols (by kernel_rfl) (by kernel_rfl)
  have b1 : RepL W noB gLevels c1.toList := leafs_rep Tryz.underlying202 (by kernel_rfl) (by kernel_rfl) (.inl ⟨_, Tryz.underlying3⟩) r1 gLevels (by kernel_rfl) (by kernel_rfl)
  have b3 : RepL W noB gSpace c3.toList := leafs_rep Tryz.underlying251 (by kernel_rfl) (by kernel_rfl) (.inl ⟨_, Tryz.underlying5⟩) r3 gSpace (by kernel_rfl) (by kernel_rfl)
  have b4 : RepL W noB gPow c4.toList := leafs_rep Tryz.underlying262 (by kernel_rfl) (by kernel_rfl) (.inl ⟨_, Tryz.underlying246⟩) r4 gPow (by kernel_rfl) (by kernel_rfl)
  have b2 : RepL W noB gStatements c2.toList := by
    rw [← stmtRows_flat]
    refine arr_rep (sz := 5) (ds := stDs) Tryz.underlying227 (by kernel_rfl) (by kernel_rfl) r2 stmtRows (by kernel_rfl) fun i hi f cs d p h2 h3 => ?_
    obtain ⟨f', ds, rfl, rfl, hF⟩ := open_agg (tys := [4, 4, 4, 4, 3]) Tryz.underlying226 rfl (by kernel_rfl) (by kernel_rfl) h2
    refine fields_rep [4, 4, 4, 4, 3] cs ds hF ?_ _ ?_
    · intro t ht
      simp only [List.mem_cons, List.not_mem_nil, or_false] at ht
      rcases ht with rfl | rfl | rfl | rfl | rfl
      · exact .inr (.inr Tryz.underlying4)
      · exact .inr (.inr Tryz.underlying4)
      · exact .inr (.inr Tryz.underlying4)
      · exact .inr (.inr Tryz.underlying4)
      · exact .inl ⟨_, Tryz.underlying3⟩
    · have h4 := congrArg (fun l : List (Option (List (Option (List C)))) => l[i]?) stmt_aggs
      simp only [List.getElem?_map] at h4
      rw [List.getElem?_eq_getElem hi] at h4
      have h5 : (Option.map aggs (some (DataW.agg ds))) = some (some (ds.map datC)) := rfl
      have h6 := h4.symm.trans ((congrArg (Option.map aggs) h3).trans h5)
      simp only [Option.map_some, Option.some.injEq] at h6
      exact h6.symm
  intro g cs hg
  match g, hg with
  | 0, hg => obtain rfl := Option.some.inj hg; obtain ⟨a, ty, fz, b⟩ := var_block n0 v0; exact ⟨by decide, a, c0, ty, fz, b, b0⟩
  | 1, hg => obtain rfl := Option.some.inj hg; obtain ⟨a, ty, fz, b⟩ := var_block n1 v1; exact ⟨by decide, a, c1, ty, fz, b, b1⟩
  | 2, hg => obtain rfl := Option.some.inj hg; obtain ⟨a, ty, fz, b⟩ := var_block n2 v2; exact ⟨by decide, a, c2, ty, fz, b, b2⟩
  | 3, hg => obtain rfl := Option.some.inj hg; obtain ⟨a, ty, fz, b⟩ := var_block n3 v3; exact ⟨by decide, a, c3, ty, fz, b, b3⟩
  | 4, hg => obtain rfl := Option.some.inj hg; obtain ⟨a, ty, fz, b⟩ := var_block n4 v4; exact ⟨by decide, a, c4, ty, fz, b, b4⟩
  | n + 5, hg => cases hg
/-- What is read as an argument is read so in a world that has grown. -/
theorem args_stay {sp : Nat → Bool} (hl : laidOutB Tryz.prog = true) {W' : World} (hb : Below W.heap.size W W') : ∀ {ts : List TypeId} {vs : List Value} {ds : List (DataW H)} {ps : List MemPlace}, (∀ t ∈ ts, t < Tryz.prog.types.size ∧ Tryz.prog.readableRec t = true) → DataW.TrodAll enc Tryz.prog W 0 (fun _ => true) true ts vs ds ps →
    (∀ x ∈ ps, x.block < W.heap.size) → (∀ x ∈ ps, sp x.block = true) → DataW.TrodAll enc Tryz.prog W' 0 sp true ts vs ds ps := by
  intro ts
  induction ts with
  | nil =>
    intro vs ds ps _ h _ _
    cases vs <;> cases ds <;> exact h
  | cons t ts ih =>
    intro vs ds ps ht h hlt hs
    cases vs with
    | nil => exact h
    | cons v vs => cases ds with
      | nil => exact h
      | cons d ds =>
        obtain ⟨p, q, h1, h2, rfl⟩ := h
        obtain ⟨a1, a2⟩ := ht t (by simp)
        exact ⟨p, q, WideElems.Trod_stays hl a2 a1 h1 (fun x hx => hb.same (hlt x (by simp [hx]))) (fun x hx => hs x (by simp [hx])), ih (fun u hu => ht u (by simp [hu])) h2 (fun x hx => hlt x (by simp [hx])) (fun x hx => hs x (by simp [hx])), rfl⟩
theorem all_append {W' : World} {b : Nat} {sp : Nat → Bool} {hd : Bool} : ∀ {ts ts' : List TypeId} {vs vs' : List Value} {ds ds' : List (DataW H)} {p q : List MemPlace}, DataW.TrodAll enc Tryz.prog W' b sp hd ts vs ds p → DataW.TrodAll enc Tryz.prog W' b sp hd ts' vs' ds' q → DataW.TrodAll enc Tryz.prog W' b sp hd (ts ++ ts') (vs ++ vs') (ds ++ ds') (p ++ q) := by
  intro ts
  induction ts with
  | nil =>
    intro ts' vs vs' ds ds' p q h1 h2
    cases vs <;> cases ds <;> first | exact h1.elim | (have h1 : p = [] := h1; subst h1; exact h2)
  | cons t ts ih =>
    intro ts' vs vs' ds ds' p q h1 h2
    cases vs with
    | nil => exact h1.elim
    | cons v vs => cases ds with
      | nil => exact h1.elim
      | cons d ds =>
        obtain ⟨p1, q1, a, b, rfl⟩ := h1
        exact ⟨p1, q1 ++ q, a, ih b h2, by rw [List.append_assoc]⟩
/-- A call that answers true and writes nothing that was there. -/
theorem post_true {f : Func} {s : ChangeSpec} {fresh handsOn again : Bool} {W' : World} {args : Array Value} {ds : List (DataW H)} {before : List MemPlace} (hl : laidOutB Tryz.prog = true) (hres : f.resultTypes = #[4]) (hvars : s.vars = [])
    (hW : DataW.Whole enc Tryz.prog f.params.toList s.vars false W args.toList ds [] before) (hfn : s.fn H (ds ++ []) = { results := [.lit (.bool true)], args := ds }) (ht : ∀ t ∈ f.params.toList, t < Tryz.prog.types.size ∧ Tryz.prog.readableRec t = true)
    (hb : Below W.heap.size W W') : s.post enc Tryz.prog f false fresh handsOn again W args (.bool true) W' := by
  obtain ⟨p, q, hA, hV, hq, hz, hn⟩ := id hW
  have hlt := hW.lt
  rw [hvars] at hV
  have hV' : q = [] := hV
  subst hV'
  rw [List.append_nil] at hq
  subst hq
  have r4 : ∀ (b : Nat) (sp : Nat → Bool) (hd : Bool), DataW.TrodAll enc Tryz.prog W' b sp hd [4] [.bool true] [.lit (.bool true)] [] := fun b sp hd => ⟨[], [], ⟨1, by simp [DataW.trod, Tryz.underlying4, Value.cells]⟩, rfl, rfl⟩
  have hr4 : f.resultTypes.toList = [4] := by rw [hres]
  have hrl : (Value.bool true).resultList f.resultTypes.size = [.bool true] := by rw [hres]; rfl
  refine ⟨ds, [], before, [], before, [], hW, ?_, ?_, ?_, ?_, fun _ => ⟨?_, ?_⟩⟩
  · rw [hr4, hrl, hfn]; exact r4 _ _ _
  · rw [hfn]; exact args_stay hl hb ht hA hlt (fun x hx => by simpa using hlt x hx)
  · rw [hfn, hvars]; rfl
  · exact hb.frame _
  · exact RowKit.ok_one hres rfl (RowKit.okWide_bool_mk Tryz.underlying4 _)
  · refine ⟨[.lit (.bool true)] ++ ds, [], before, ⟨before, [], ?_, by rw [hvars]; rfl, by simp, ?_, fun h => by cases h⟩, fun p hp _ => hp⟩
    · rw [hr4, hrl]
      exact all_append (p := []) (r4 _ _ _) (args_stay hl hb ht hA hlt (fun _ _ => rfl))
    · intro b off hp
      rw [hb.frozen (p := ⟨b, off, none⟩) (hlt _ hp)]
      exact hz b off hp
end
end Go.Proofs.Am
set_option maxRecDepth 100000
set_option maxHeartbeats 4000000
namespace Go.Proofs.Am
def ixF {α : Type} (p : α → Bool) : Nat → List α → Int
  | _, [] => -1
  | i, x :: r => if p x then i else ixF p (i + 1) r
theorem ixF_none {α : Type} {p : α → Bool} {l : List α} (h : l.any p = false) (i : Nat) : ixF p i l = -1 := by
  induction l generalizing i with
  | nil => rfl
  | cons x r ih => simp at h; simp [ixF, h.1, ih (by simpa using h.2)]
theorem ixF_mid {α : Type} {p : α → Bool} {a b : List α} {y : α} (h : a.any p = false) (hy : p y = true) (i : Nat) : ixF p i (a ++ y :: b) = ((i + a.length : Nat) : Int) := by
  induction a generalizing i with
  | nil => simp [ixF, hy]
  | cons x r ih => simp at h; simp [ixF, h.1, ih (by simpa using h.2)]; omega
theorem ixF_ge {α : Type} (p : α → Bool) (l : List α) (i : Nat) : decide (ixF p i l ≥ 0) = l.any p := by
  induction l generalizing i with
  | nil => rfl
  | cons x r ih =>
    simp only [ixF, List.any_cons]
    split
    · rename_i h; simp [h]
    · rename_i h; simp [h, ih]
theorem prog156 : Tryz.prog.funcs[156]? = some Tryz.f156 := by kernel_rfl
theorem holds156 (F : Nat) (p : Ex → Bool) (l : List Ex) (hF : ∀ y ∈ l, Holds Tryz.prog zG F [.agg [.int .i64 y.kind, .str y.name, .int .i16 y.value, .int .i64 y.op, .sl 6 (encEs y.args), .int .i64 y.pos]] [.c (.bool (p y))]) : Holds Tryz.prog zG 156 [.c (.sl 6 (encEs l)), .c (.fn F)] [.c (.int .i64 (ixF p 0 l))] := by
  refine holds_of_body zT prog156 rfl rfl rfl (by simp [Tryz.f156]) ?_
  refine aw_ops zT fun K1 hK1 => ?_
  simp only [amset, amlib, zset, eq_self, ↓reduceIte, reduceCtorEq, Nat.reduceBEq, Nat.reduceEqDiff, Nat.reduceAdd, Nat.reduceMul, Nat.reduceLeDiff, Nat.reduceLT, Nat.reduceSub]
  refine hK1 _ ?_
  clear hK1
  refine aw_seq fun K2 hK2 => ?_
  refine aw_ops zT fun K3 hK3 => ?_
  simp only [amset, amlib, zset, eq_self, ↓reduceIte, reduceCtorEq, Nat.reduceBEq, Nat.reduceEqDiff, Nat.reduceAdd, Nat.reduceMul, Nat.reduceLeDiff, Nat.reduceLT, Nat.reduceSub]
  intros
  refine hK3 _ ?_
  clear hK3
  refine aw_block ?_
  refine aw_range (α := Ex) (l) (fun dn => dn.any p = false) (fun dn => [(8, .cell (.c (.int .i64 dn.length)))]) (fun dn => []) [] [4, 5, 8, 9, 10, 11, 12, 13, 14, 15, 16, 17, 18] [] rfl ?_ ?_ ?_ ?_
  · simp only [amset, amlib, zset, eq_self, ↓reduceIte, reduceCtorEq, Nat.reduceBEq, Nat.reduceEqDiff, Nat.reduceAdd, Nat.reduceMul, Nat.reduceLeDiff, Nat.reduceLT, Nat.reduceSub] <;> simp [eq_self]
  · simp only [amset, amlib, zset, eq_self, ↓reduceIte, reduceCtorEq, Nat.reduceBEq, Nat.reduceEqDiff, Nat.reduceAdd, Nat.reduceMul, Nat.reduceLeDiff, Nat.reduceLT, Nat.reduceSub] <;> simp [eq_self]
  · intro hI R
    refine aw_norm (by simp only [amset, amlib, zset, eq_self, ↓reduceIte, reduceCtorEq, Nat.reduceBEq, Nat.reduceEqDiff, Nat.reduceAdd, Nat.reduceMul, Nat.reduceLeDiff, Nat.reduceLT, Nat.reduceSub]; exact rfl) ?_
    refine aw_ops zT fun K4 hK4 => ?_
    simp only [amset, amlib, zset, eq_self, ↓reduceIte, reduceCtorEq, Nat.reduceBEq, Nat.reduceEqDiff, Nat.reduceAdd, Nat.reduceMul, Nat.reduceLeDiff, Nat.reduceLT, Nat.reduceSub]
    refine hK4 _ ?_
    clear hK4
    refine aw_seq fun K5 hK5 => ?_
    refine aw_cond (t := false) (by simp [evalO, S.get, amLook]) (fun h => nomatch h) (fun _ => ?_)
    refine aw_exit ?_
    simp only [thenQ, blkQ, if_true, reduceIte, Nat.reduceEqDiff, eq_self]
    refine hK2 _ ?_
    clear hK2
    refine aw_ops zT fun K6 hK6 => ?_
    simp only [amset, amlib, zset, eq_self, ↓reduceIte, reduceCtorEq, Nat.reduceBEq, Nat.reduceEqDiff, Nat.reduceAdd, Nat.reduceMul, Nat.reduceLeDiff, Nat.reduceLT, Nat.reduceSub]
    refine hK6 _ ?_
    clear hK6
    refine aw_ret ?_
    show resOf zG _ [.tmp 4] = some _
    simp only [amset, amlib, zset, eq_self, ↓reduceIte, reduceCtorEq, Nat.reduceBEq, Nat.reduceEqDiff, Nat.reduceAdd, Nat.reduceMul, Nat.reduceLeDiff, Nat.reduceLT, Nat.reduceSub]
    rw [ixF_none hI]
  · intro dn y td harg hI R hR
    have hl : (l).length = dn.length + (td.length + 1) := by rw [harg]; simp
    have hmem : y ∈ l := by rw [harg]; simp
    refine aw_norm (by simp only [amset, amlib, zset, eq_self, ↓reduceIte, reduceCtorEq, Nat.reduceBEq, Nat.reduceEqDiff, Nat.reduceAdd, Nat.reduceMul, Nat.reduceLeDiff, Nat.reduceLT, Nat.reduceSub]; exact rfl) ?_
    have hget : (encEs (l)).getD dn.length [] = encE y := by rw [harg]; exact encEs_mid dn td y
    refine aw_ops zT fun K7 hK7 => ?_
    simp only [amset, amlib, zset, eq_self, ↓reduceIte, reduceCtorEq, Nat.reduceBEq, Nat.reduceEqDiff, Nat.reduceAdd, Nat.reduceMul, Nat.reduceLeDiff, Nat.reduceLT, Nat.reduceSub]
    refine hK7 _ ?_
    clear hK7
    refine aw_seq fun K8 hK8 => ?_
    refine aw_cond (t := true) (by simp [evalO, S.get, amLook]; omega) (fun _ => ?_) (fun h => nomatch h)
    refine aw_skip ?_
    simp only [thenQ, blkQ, if_true, reduceIte, Nat.reduceEqDiff, eq_self]
    refine hK8 _ ?_
    clear hK8
    refine aw_seq fun K9 hK9 => ?_
    refine aw_block ?_
    refine aw_ops zT fun K10 hK10 => ?_
    simp only [amset, amlib, zset, eq_self, ↓reduceIte, reduceCtorEq, Nat.reduceBEq, Nat.reduceEqDiff, Nat.reduceAdd, Nat.reduceMul, Nat.reduceLeDiff, Nat.reduceLT, Nat.reduceSub]
    refine hK10 _ ?_
    clear hK10
    refine aw_ops zT fun K11 hK11 => ?_
    simp only [amset, amlib, zset, hget, eq_self, ↓reduceIte, reduceCtorEq, Nat.reduceBEq, Nat.reduceEqDiff, Nat.reduceAdd, Nat.reduceMul, Nat.reduceLeDiff, Nat.reduceLT, Nat.reduceSub]
    refine ⟨⟨by omega, by omega⟩, ?_⟩
    refine ⟨_, hF y hmem, ?_⟩
    simp only [later]
    simp only [amset, amlib, zset, eq_self, ↓reduceIte, reduceCtorEq, Nat.reduceBEq, Nat.reduceEqDiff, Nat.reduceAdd, Nat.reduceMul, Nat.reduceLeDiff, Nat.reduceLT, Nat.reduceSub]
    refine hK11 _ ?_
    clear hK11
    refine aw_cond rfl (fun h0 => ?_) (fun h0 => ?_)
    · skip
      refine aw_ops zT fun K12 hK12 => ?_
      simp only [amset, amlib, zset, eq_self, ↓reduceIte, reduceCtorEq, Nat.reduceBEq, Nat.reduceEqDiff, Nat.reduceAdd, Nat.reduceMul, Nat.reduceLeDiff, Nat.reduceLT, Nat.reduceSub]
      refine hK12 _ ?_
      clear hK12
      refine aw_ret ?_
      show resOf zG _ [.tmp 4] = some _
      simp only [amset, amlib, zset, eq_self, ↓reduceIte, reduceCtorEq, Nat.reduceBEq, Nat.reduceEqDiff, Nat.reduceAdd, Nat.reduceMul, Nat.reduceLeDiff, Nat.reduceLT, Nat.reduceSub]
      rw [harg, ixF_mid hI (by simpa using h0), Nat.zero_add]
    · skip
      refine aw_skip ?_
      simp only [thenQ, blkQ, if_true, reduceIte, Nat.reduceEqDiff, eq_self]
      refine hK9 _ ?_
      clear hK9
      refine aw_region zT ?_
      simp only [amset, amlib, zset, eq_self, ↓reduceIte, reduceCtorEq, Nat.reduceBEq, Nat.reduceEqDiff, Nat.reduceAdd, Nat.reduceMul, Nat.reduceLeDiff, Nat.reduceLT, Nat.reduceSub]
      refine ⟨⟨by omega, by omega⟩, ?_⟩
      refine hR _ (by rw [List.any_append, hI]; simpa using h0) ?_
      refine Reach.to ?_ ?_
      · simp only [amset, amlib, zset, eq_self, ↓reduceIte, reduceCtorEq, Nat.reduceBEq, Nat.reduceEqDiff, Nat.reduceAdd, Nat.reduceMul, Nat.reduceLeDiff, Nat.reduceLT, Nat.reduceSub] <;> simp [eq_self]
      · simp only [amset, amlib, zset, eq_self, ↓reduceIte, reduceCtorEq, Nat.reduceBEq, Nat.reduceEqDiff, Nat.reduceAdd, Nat.reduceMul, Nat.reduceLeDiff, Nat.reduceLT, Nat.reduceSub] <;> simp [eq_self]
theorem prog79 : Tryz.prog.funcs[79]? = some Tryz.f79 := by kernel_rfl
theorem holds79 (F : Nat) (p : Ex → Bool) (l : List Ex) (hF : ∀ y ∈ l, Holds Tryz.prog zG F [.agg [.int .i64 y.kind, .str y.name, .int .i16 y.value, .int .i64 y.op, .sl 6 (encEs y.args), .int .i64 y.pos]] [.c (.bool (p y))]) : Holds Tryz.prog zG 79 [.c (.sl 6 (encEs l)), .c (.fn F)] [.c (.bool (l.any p))] := by
  refine holds_of_body zT prog79 rfl rfl rfl (by simp [Tryz.f79]) ?_
  refine aw_ops zT fun K1 hK1 => ?_
  simp only [amset, amlib, zset, eq_self, ↓reduceIte, reduceCtorEq, Nat.reduceBEq, Nat.reduceEqDiff, Nat.reduceAdd, Nat.reduceMul, Nat.reduceLeDiff, Nat.reduceLT, Nat.reduceSub]
  refine hK1 _ ?_
  clear hK1
  refine aw_ops zT fun K2 hK2 => ?_
  simp only [amset, amlib, zset, eq_self, ↓reduceIte, reduceCtorEq, Nat.reduceBEq, Nat.reduceEqDiff, Nat.reduceAdd, Nat.reduceMul, Nat.reduceLeDiff, Nat.reduceLT, Nat.reduceSub]
  refine ⟨_, holds156 F p l hF, ?_⟩
  simp only [later]
  simp only [amset, amlib, zset, eq_self, ↓reduceIte, reduceCtorEq, Nat.reduceBEq, Nat.reduceEqDiff, Nat.reduceAdd, Nat.reduceMul, Nat.reduceLeDiff, Nat.reduceLT, Nat.reduceSub]
  refine hK2 _ ?_
  clear hK2
  refine aw_ret ?_
  show resOf zG _ [.tmp 4] = some _
  simp only [amset, amlib, zset, eq_self, ↓reduceIte, reduceCtorEq, Nat.reduceBEq, Nat.reduceEqDiff, Nat.reduceAdd, Nat.reduceMul, Nat.reduceLeDiff, Nat.reduceLT, Nat.reduceSub]
  rw [ixF_ge]
theorem prog234 : Tryz.prog.funcs[234]? = some Tryz.f234 := by kernel_rfl
theorem holds234 (F : Nat) (p : St → Bool) (l : List St) (hF : ∀ y ∈ l, Holds Tryz.prog zG F [.agg [.int .i64 y.kind, .str y.name, .int .i64 y.n, .sl 6 (encEs y.args), .sl 7 (encSs y.body), .sl 7 (encSs y.els), .int .i64 y.pos]] [.c (.bool (p y))]) : Holds Tryz.prog zG 234 [.c (.sl 7 (encSs l)), .c (.fn F)] [.c (.int .i64 (ixF p 0 l))] := by
  refine holds_of_body zT prog234 rfl rfl rfl (by simp [Tryz.f234]) ?_
  refine aw_ops zT fun K1 hK1 => ?_
  simp only [amset, amlib, zset, eq_self, ↓reduceIte, reduceCtorEq, Nat.reduceBEq, Nat.reduceEqDiff, Nat.reduceAdd, Nat.reduceMul, Nat.reduceLeDiff, Nat.reduceLT, Nat.reduceSub]
  refine hK1 _ ?_
  clear hK1
  refine aw_seq fun K2 hK2 => ?_
  refine aw_ops zT fun K3 hK3 => ?_
  simp only [amset, amlib, zset, eq_self, ↓reduceIte, reduceCtorEq, Nat.reduceBEq, Nat.reduceEqDiff, Nat.reduceAdd, Nat.reduceMul, Nat.reduceLeDiff, Nat.reduceLT, Nat.reduceSub]
  intros
  refine hK3 _ ?_
  clear hK3
  refine aw_block ?_
  refine aw_range (α := St) (l) (fun dn => dn.any p = false) (fun dn => [(8, .cell (.c (.int .i64 dn.length)))]) (fun dn => []) [] [4, 5, 8, 9, 10, 11, 12, 13, 14, 15, 16, 17, 18] [] rfl ?_ ?_ ?_ ?_
  · simp only [amset, amlib, zset, eq_self, ↓reduceIte, reduceCtorEq, Nat.reduceBEq, Nat.reduceEqDiff, Nat.reduceAdd, Nat.reduceMul, Nat.reduceLeDiff, Nat.reduceLT, Nat.reduceSub] <;> simp [eq_self]
  · simp only [amset, amlib, zset, eq_self, ↓reduceIte, reduceCtorEq, Nat.reduceBEq, Nat.reduceEqDiff, Nat.reduceAdd, Nat.reduceMul, Nat.reduceLeDiff, Nat.reduceLT, Nat.reduceSub] <;> simp [eq_self]
  · intro hI R
    refine aw_norm (by simp only [amset, amlib, zset, eq_self, ↓reduceIte, reduceCtorEq, Nat.reduceBEq, Nat.reduceEqDiff, Nat.reduceAdd, Nat.reduceMul, Nat.reduceLeDiff, Nat.reduceLT, Nat.reduceSub]; exact rfl) ?_
    refine aw_ops zT fun K4 hK4 => ?_
    simp only [amset, amlib, zset, eq_self, ↓reduceIte, reduceCtorEq, Nat.reduceBEq, Nat.reduceEqDiff, Nat.reduceAdd, Nat.reduceMul, Nat.reduceLeDiff, Nat.reduceLT, Nat.reduceSub]
    refine hK4 _ ?_
    clear hK4
    refine aw_seq fun K5 hK5 => ?_
    refine aw_cond (t := false) (by simp [evalO, S.get, amLook]) (fun h => nomatch h) (fun _ => ?_)
    refine aw_exit ?_
    simp only [thenQ, blkQ, if_true, reduceIte, Nat.reduceEqDiff, eq_self]
    refine hK2 _ ?_
    clear hK2
    refine aw_ops zT fun K6 hK6 => ?_
    simp only [amset, amlib, zset, eq_self, ↓reduceIte, reduceCtorEq, Nat.reduceBEq, Nat.reduceEqDiff, Nat.reduceAdd, Nat.reduceMul, Nat.reduceLeDiff, Nat.reduceLT, Nat.reduceSub]
    refine hK6 _ ?_
    clear hK6
    refine aw_ret ?_
    show resOf zG _ [.tmp 4] = some _
    simp only [amset, amlib, zset, eq_self, ↓reduceIte, reduceCtorEq, Nat.reduceBEq, Nat.reduceEqDiff, Nat.reduceAdd, Nat.reduceMul, Nat.reduceLeDiff, Nat.reduceLT, Nat.reduceSub]
    rw [ixF_none hI]
  · intro dn y td harg hI R hR
    have hl : (l).length = dn.length + (td.length + 1) := by rw [harg]; simp
    have hmem : y ∈ l := by rw [harg]; simp
    refine aw_norm (by simp only [amset, amlib, zset, eq_self, ↓reduceIte, reduceCtorEq, Nat.reduceBEq, Nat.reduceEqDiff, Nat.reduceAdd, Nat.reduceMul, Nat.reduceLeDiff, Nat.reduceLT, Nat.reduceSub]; exact rfl) ?_
    have hget : (encSs (l)).getD dn.length [] = encS y := by rw [harg]; exact encSs_mid dn td y
    refine aw_ops zT fun K7 hK7 => ?_
    simp only [amset, amlib, zset, eq_self, ↓reduceIte, reduceCtorEq, Nat.reduceBEq, Nat.reduceEqDiff, Nat.reduceAdd, Nat.reduceMul, Nat.reduceLeDiff, Nat.reduceLT, Nat.reduceSub]
    refine hK7 _ ?_
    clear hK7
    refine aw_seq fun K8 hK8 => ?_
    refine aw_cond (t := true) (by simp [evalO, S.get, amLook]; omega) (fun _ => ?_) (fun h => nomatch h)
    refine aw_skip ?_
    simp only [thenQ, blkQ, if_true, reduceIte, Nat.reduceEqDiff, eq_self]
    refine hK8 _ ?_
    clear hK8
    refine aw_seq fun K9 hK9 => ?_
    refine aw_block ?_
    refine aw_ops zT fun K10 hK10 => ?_
    simp only [amset, amlib, zset, eq_self, ↓reduceIte, reduceCtorEq, Nat.reduceBEq, Nat.reduceEqDiff, Nat.reduceAdd, Nat.reduceMul, Nat.reduceLeDiff, Nat.reduceLT, Nat.reduceSub]
    refine hK10 _ ?_
    clear hK10
    refine aw_ops zT fun K11 hK11 => ?_
    simp only [amset, amlib, zset, hget, eq_self, ↓reduceIte, reduceCtorEq, Nat.reduceBEq, Nat.reduceEqDiff, Nat.reduceAdd, Nat.reduceMul, Nat.reduceLeDiff, Nat.reduceLT, Nat.reduceSub]
    refine ⟨⟨by omega, by omega⟩, ?_⟩
    refine ⟨_, hF y hmem, ?_⟩
    simp only [later]
    simp only [amset, amlib, zset, eq_self, ↓reduceIte, reduceCtorEq, Nat.reduceBEq, Nat.reduceEqDiff, Nat.reduceAdd, Nat.reduceMul, Nat.reduceLeDiff, Nat.reduceLT, Nat.reduceSub]
    refine hK11 _ ?_
    clear hK11
    refine aw_cond rfl (fun h0 => ?_) (fun h0 => ?_)
    · skip
      refine aw_ops zT fun K12 hK12 => ?_
      simp only [amset, amlib, zset, eq_self, ↓reduceIte, reduceCtorEq, Nat.reduceBEq, Nat.reduceEqDiff, Nat.reduceAdd, Nat.reduceMul, Nat.reduceLeDiff, Nat.reduceLT, Nat.reduceSub]
      refine hK12 _ ?_
      clear hK12
      refine aw_ret ?_
      show resOf zG _ [.tmp 4] = some _
      simp only [amset, amlib, zset, eq_self, ↓reduceIte, reduceCtorEq, Nat.reduceBEq, Nat.reduceEqDiff, Nat.reduceAdd, Nat.reduceMul, Nat.reduceLeDiff, Nat.reduceLT, Nat.reduceSub]
      rw [harg, ixF_mid hI (by simpa using h0), Nat.zero_add]
    · skip
      refine aw_skip ?_
      simp only [thenQ, blkQ, if_true, reduceIte, Nat.reduceEqDiff, eq_self]
      refine hK9 _ ?_
      clear hK9
      refine aw_region zT ?_
      simp only [amset, amlib, zset, eq_self, ↓reduceIte, reduceCtorEq, Nat.reduceBEq, Nat.reduceEqDiff, Nat.reduceAdd, Nat.reduceMul, Nat.reduceLeDiff, Nat.reduceLT, Nat.reduceSub]
      refine ⟨⟨by omega, by omega⟩, ?_⟩
      refine hR _ (by rw [List.any_append, hI]; simpa using h0) ?_
      refine Reach.to ?_ ?_
      · simp only [amset, amlib, zset, eq_self, ↓reduceIte, reduceCtorEq, Nat.reduceBEq, Nat.reduceEqDiff, Nat.reduceAdd, Nat.reduceMul, Nat.reduceLeDiff, Nat.reduceLT, Nat.reduceSub] <;> simp [eq_self]
      · simp only [amset, amlib, zset, eq_self, ↓reduceIte, reduceCtorEq, Nat.reduceBEq, Nat.reduceEqDiff, Nat.reduceAdd, Nat.reduceMul, Nat.reduceLeDiff, Nat.reduceLT, Nat.reduceSub] <;> simp [eq_self]
theorem prog207 : Tryz.prog.funcs[207]? = some Tryz.f207 := by kernel_rfl
theorem holds207 (F : Nat) (p : St → Bool) (l : List St) (hF : ∀ y ∈ l, Holds Tryz.prog zG F [.agg [.int .i64 y.kind, .str y.name, .int .i64 y.n, .sl 6 (encEs y.args), .sl 7 (encSs y.body), .sl 7 (encSs y.els), .int .i64 y.pos]] [.c (.bool (p y))]) : Holds Tryz.prog zG 207 [.c (.sl 7 (encSs l)), .c (.fn F)] [.c (.bool (l.any p))] := by
  refine holds_of_body zT prog207 rfl rfl rfl (by simp [Tryz.f207]) ?_
  refine aw_ops zT fun K1 hK1 => ?_
  simp only [amset, amlib, zset, eq_self, ↓reduceIte, reduceCtorEq, Nat.reduceBEq, Nat.reduceEqDiff, Nat.reduceAdd, Nat.reduceMul, Nat.reduceLeDiff, Nat.reduceLT, Nat.reduceSub]
  refine hK1 _ ?_
  clear hK1
  refine aw_ops zT fun K2 hK2 => ?_
  simp only [amset, amlib, zset, eq_self, ↓reduceIte, reduceCtorEq, Nat.reduceBEq, Nat.reduceEqDiff, Nat.reduceAdd, Nat.reduceMul, Nat.reduceLeDiff, Nat.reduceLT, Nat.reduceSub]
  refine ⟨_, holds234 F p l hF, ?_⟩
  simp only [later]
  simp only [amset, amlib, zset, eq_self, ↓reduceIte, reduceCtorEq, Nat.reduceBEq, Nat.reduceEqDiff, Nat.reduceAdd, Nat.reduceMul, Nat.reduceLeDiff, Nat.reduceLT, Nat.reduceSub]
  refine hK2 _ ?_
  clear hK2
  refine aw_ret ?_
  show resOf zG _ [.tmp 4] = some _
  simp only [amset, amlib, zset, eq_self, ↓reduceIte, reduceCtorEq, Nat.reduceBEq, Nat.reduceEqDiff, Nat.reduceAdd, Nat.reduceMul, Nat.reduceLeDiff, Nat.reduceLT, Nat.reduceSub]
  rw [ixF_ge]
theorem prog173 : Tryz.prog.funcs[173]? = some Tryz.f173 := by kernel_rfl
theorem holds173 (F : Nat) (p : Tk → Bool) (l : List Tk) (hF : ∀ y ∈ l, Holds Tryz.prog zG F [.agg [.str y.name, .int .i64 y.period, .int .i64 y.deadline, .str y.channel, .str y.param, .int .i64 y.within, .sl 7 (encSs y.body), .int .i64 y.pos]] [.c (.bool (p y))]) : Holds Tryz.prog zG 173 [.c (.sl 8 (encTs l)), .c (.fn F)] [.c (.int .i64 (ixF p 0 l))] := by
  refine holds_of_body zT prog173 rfl rfl rfl (by simp [Tryz.f173]) ?_
  refine aw_ops zT fun K1 hK1 => ?_
  simp only [amset, amlib, zset, eq_self, ↓reduceIte, reduceCtorEq, Nat.reduceBEq, Nat.reduceEqDiff, Nat.reduceAdd, Nat.reduceMul, Nat.reduceLeDiff, Nat.reduceLT, Nat.reduceSub]
  refine hK1 _ ?_
  clear hK1
  refine aw_seq fun K2 hK2 => ?_
  refine aw_ops zT fun K3 hK3 => ?_
  simp only [amset, amlib, zset, eq_self, ↓reduceIte, reduceCtorEq, Nat.reduceBEq, Nat.reduceEqDiff, Nat.reduceAdd, Nat.reduceMul, Nat.reduceLeDiff, Nat.reduceLT, Nat.reduceSub]
  intros
  refine hK3 _ ?_
  clear hK3
  refine aw_block ?_
  refine aw_range (α := Tk) (l) (fun dn => dn.any p = false) (fun dn => [(8, .cell (.c (.int .i64 dn.length)))]) (fun dn => []) [] [4, 5, 8, 9, 10, 11, 12, 13, 14, 15, 16, 17, 18] [] rfl ?_ ?_ ?_ ?_
  · simp only [amset, amlib, zset, eq_self, ↓reduceIte, reduceCtorEq, Nat.reduceBEq, Nat.reduceEqDiff, Nat.reduceAdd, Nat.reduceMul, Nat.reduceLeDiff, Nat.reduceLT, Nat.reduceSub] <;> simp [eq_self]
  · simp only [amset, amlib, zset, eq_self, ↓reduceIte, reduceCtorEq, Nat.reduceBEq, Nat.reduceEqDiff, Nat.reduceAdd, Nat.reduceMul, Nat.reduceLeDiff, Nat.reduceLT, Nat.reduceSub] <;> simp [eq_self]
  · intro hI R
    refine aw_norm (by simp only [amset, amlib, zset, eq_self, ↓reduceIte, reduceCtorEq, Nat.reduceBEq, Nat.reduceEqDiff, Nat.reduceAdd, Nat.reduceMul, Nat.reduceLeDiff, Nat.reduceLT, Nat.reduceSub]; exact rfl) ?_
    refine aw_ops zT fun K4 hK4 => ?_
    simp only [amset, amlib, zset, eq_self, ↓reduceIte, reduceCtorEq, Nat.reduceBEq, Nat.reduceEqDiff, Nat.reduceAdd, Nat.reduceMul, Nat.reduceLeDiff, Nat.reduceLT, Nat.reduceSub]
    refine hK4 _ ?_
    clear hK4
    refine aw_seq fun K5 hK5 => ?_
    refine aw_cond (t := false) (by simp [evalO, S.get, amLook]) (fun h => nomatch h) (fun _ => ?_)
    refine aw_exit ?_
    simp only [thenQ, blkQ, if_true, reduceIte, Nat.reduceEqDiff, eq_self]
    refine hK2 _ ?_
    clear hK2
    refine aw_ops zT fun K6 hK6 => ?_
    simp only [amset, amlib, zset, eq_self, ↓reduceIte, reduceCtorEq, Nat.reduceBEq, Nat.reduceEqDiff, Nat.reduceAdd, Nat.reduceMul, Nat.reduceLeDiff, Nat.reduceLT, Nat.reduceSub]
    refine hK6 _ ?_
    clear hK6
    refine aw_ret ?_
    show resOf zG _ [.tmp 4] = some _
    simp only [amset, amlib, zset, eq_self, ↓reduceIte, reduceCtorEq, Nat.reduceBEq, Nat.reduceEqDiff, Nat.reduceAdd, Nat.reduceMul, Nat.reduceLeDiff, Nat.reduceLT, Nat.reduceSub]
    rw [ixF_none hI]
  · intro dn y td harg hI R hR
    have hl : (l).length = dn.length + (td.length + 1) := by rw [harg]; simp
    have hmem : y ∈ l := by rw [harg]; simp
    refine aw_norm (by simp only [amset, amlib, zset, eq_self, ↓reduceIte, reduceCtorEq, Nat.reduceBEq, Nat.reduceEqDiff, Nat.reduceAdd, Nat.reduceMul, Nat.reduceLeDiff, Nat.reduceLT, Nat.reduceSub]; exact rfl) ?_
    have hget : (encTs (l)).getD dn.length [] = encT y := by rw [harg]; exact encTs_mid dn td y
    refine aw_ops zT fun K7 hK7 => ?_
    simp only [amset, amlib, zset, eq_self, ↓reduceIte, reduceCtorEq, Nat.reduceBEq, Nat.reduceEqDiff, Nat.reduceAdd, Nat.reduceMul, Nat.reduceLeDiff, Nat.reduceLT, Nat.reduceSub]
    refine hK7 _ ?_
    clear hK7
    refine aw_seq fun K8 hK8 => ?_
    refine aw_cond (t := true) (by simp [evalO, S.get, amLook]; omega) (fun _ => ?_) (fun h => nomatch h)
    refine aw_skip ?_
    simp only [thenQ, blkQ, if_true, reduceIte, Nat.reduceEqDiff, eq_self]
    refine hK8 _ ?_
    clear hK8
    refine aw_seq fun K9 hK9 => ?_
    refine aw_block ?_
    refine aw_ops zT fun K10 hK10 => ?_
    simp only [amset, amlib, zset, eq_self, ↓reduceIte, reduceCtorEq, Nat.reduceBEq, Nat.reduceEqDiff, Nat.reduceAdd, Nat.reduceMul, Nat.reduceLeDiff, Nat.reduceLT, Nat.reduceSub]
    refine hK10 _ ?_
    clear hK10
    refine aw_ops zT fun K11 hK11 => ?_
    simp only [amset, amlib, zset, hget, eq_self, ↓reduceIte, reduceCtorEq, Nat.reduceBEq, Nat.reduceEqDiff, Nat.reduceAdd, Nat.reduceMul, Nat.reduceLeDiff, Nat.reduceLT, Nat.reduceSub]
    refine ⟨⟨by omega, by omega⟩, ?_⟩
    refine ⟨_, hF y hmem, ?_⟩
    simp only [later]
    simp only [amset, amlib, zset, eq_self, ↓reduceIte, reduceCtorEq, Nat.reduceBEq, Nat.reduceEqDiff, Nat.reduceAdd, Nat.reduceMul, Nat.reduceLeDiff, Nat.reduceLT, Nat.reduceSub]
    refine hK11 _ ?_
    clear hK11
    refine aw_cond rfl (fun h0 => ?_) (fun h0 => ?_)
    · skip
      refine aw_ops zT fun K12 hK12 => ?_
      simp only [amset, amlib, zset, eq_self, ↓reduceIte, reduceCtorEq, Nat.reduceBEq, Nat.reduceEqDiff, Nat.reduceAdd, Nat.reduceMul, Nat.reduceLeDiff, Nat.reduceLT, Nat.reduceSub]
      refine hK12 _ ?_
      clear hK12
      refine aw_ret ?_
      show resOf zG _ [.tmp 4] = some _
      simp only [amset, amlib, zset, eq_self, ↓reduceIte, reduceCtorEq, Nat.reduceBEq, Nat.reduceEqDiff, Nat.reduceAdd, Nat.reduceMul, Nat.reduceLeDiff, Nat.reduceLT, Nat.reduceSub]
      rw [harg, ixF_mid hI (by simpa using h0), Nat.zero_add]
    · skip
      refine aw_skip ?_
      simp only [thenQ, blkQ, if_true, reduceIte, Nat.reduceEqDiff, eq_self]
      refine hK9 _ ?_
      clear hK9
      refine aw_region zT ?_
      simp only [amset, amlib, zset, eq_self, ↓reduceIte, reduceCtorEq, Nat.reduceBEq, Nat.reduceEqDiff, Nat.reduceAdd, Nat.reduceMul, Nat.reduceLeDiff, Nat.reduceLT, Nat.reduceSub]
      refine ⟨⟨by omega, by omega⟩, ?_⟩
      refine hR _ (by rw [List.any_append, hI]; simpa using h0) ?_
      refine Reach.to ?_ ?_
      · simp only [amset, amlib, zset, eq_self, ↓reduceIte, reduceCtorEq, Nat.reduceBEq, Nat.reduceEqDiff, Nat.reduceAdd, Nat.reduceMul, Nat.reduceLeDiff, Nat.reduceLT, Nat.reduceSub] <;> simp [eq_self]
      · simp only [amset, amlib, zset, eq_self, ↓reduceIte, reduceCtorEq, Nat.reduceBEq, Nat.reduceEqDiff, Nat.reduceAdd, Nat.reduceMul, Nat.reduceLeDiff, Nat.reduceLT, Nat.reduceSub] <;> simp [eq_self]
theorem prog100 : Tryz.prog.funcs[100]? = some Tryz.f100 := by kernel_rfl
theorem holds100 (F : Nat) (p : Tk → Bool) (l : List Tk) (hF : ∀ y ∈ l, Holds Tryz.prog zG F [.agg [.str y.name, .int .i64 y.period, .int .i64 y.deadline, .str y.channel, .str y.param, .int .i64 y.within, .sl 7 (encSs y.body), .int .i64 y.pos]] [.c (.bool (p y))]) : Holds Tryz.prog zG 100 [.c (.sl 8 (encTs l)), .c (.fn F)] [.c (.bool (l.any p))] := by
  refine holds_of_body zT prog100 rfl rfl rfl (by simp [Tryz.f100]) ?_
  refine aw_ops zT fun K1 hK1 => ?_
  simp only [amset, amlib, zset, eq_self, ↓reduceIte, reduceCtorEq, Nat.reduceBEq, Nat.reduceEqDiff, Nat.reduceAdd, Nat.reduceMul, Nat.reduceLeDiff, Nat.reduceLT, Nat.reduceSub]
  refine hK1 _ ?_
  clear hK1
  refine aw_ops zT fun K2 hK2 => ?_
  simp only [amset, amlib, zset, eq_self, ↓reduceIte, reduceCtorEq, Nat.reduceBEq, Nat.reduceEqDiff, Nat.reduceAdd, Nat.reduceMul, Nat.reduceLeDiff, Nat.reduceLT, Nat.reduceSub]
  refine ⟨_, holds173 F p l hF, ?_⟩
  simp only [later]
  simp only [amset, amlib, zset, eq_self, ↓reduceIte, reduceCtorEq, Nat.reduceBEq, Nat.reduceEqDiff, Nat.reduceAdd, Nat.reduceMul, Nat.reduceLeDiff, Nat.reduceLT, Nat.reduceSub]
  refine hK2 _ ?_
  clear hK2
  refine aw_ret ?_
  show resOf zG _ [.tmp 4] = some _
  simp only [amset, amlib, zset, eq_self, ↓reduceIte, reduceCtorEq, Nat.reduceBEq, Nat.reduceEqDiff, Nat.reduceAdd, Nat.reduceMul, Nat.reduceLeDiff, Nat.reduceLT, Nat.reduceSub]
  rw [ixF_ge]
theorem prog205 : Tryz.prog.funcs[205]? = some Tryz.f205 := by kernel_rfl
theorem holds205 (q : List UInt8) (l : List (List UInt8)) : Holds Tryz.prog zG 205 [.c (.sl 1 (encStrs l)), .c (.str q)] [.c (.int .i64 (ixF (fun k => q == k) 0 l))] := by
  refine holds_of_body zT prog205 rfl rfl rfl (by simp [Tryz.f205]) ?_
  refine aw_ops zT fun K1 hK1 => ?_
  simp only [amset, amlib, zset, eq_self, ↓reduceIte, reduceCtorEq, Nat.reduceBEq, Nat.reduceEqDiff, Nat.reduceAdd, Nat.reduceMul, Nat.reduceLeDiff, Nat.reduceLT, Nat.reduceSub]
  refine hK1 _ ?_
  clear hK1
  refine aw_seq fun K2 hK2 => ?_
  refine aw_ops zT fun K3 hK3 => ?_
  simp only [amset, amlib, zset, eq_self, ↓reduceIte, reduceCtorEq, Nat.reduceBEq, Nat.reduceEqDiff, Nat.reduceAdd, Nat.reduceMul, Nat.reduceLeDiff, Nat.reduceLT, Nat.reduceSub]
  intros
  refine hK3 _ ?_
  clear hK3
  refine aw_block ?_
  refine aw_range (α := (List UInt8)) (l) (fun dn => dn.any (fun k => q == k) = false) (fun dn => [(8, .cell (.c (.int .i64 dn.length)))]) (fun dn => []) [] [4, 5, 8, 9, 10, 11, 12, 13, 14, 15, 16, 17, 18] [] rfl ?_ ?_ ?_ ?_
  · simp only [amset, amlib, zset, eq_self, ↓reduceIte, reduceCtorEq, Nat.reduceBEq, Nat.reduceEqDiff, Nat.reduceAdd, Nat.reduceMul, Nat.reduceLeDiff, Nat.reduceLT, Nat.reduceSub] <;> simp [eq_self]
  · simp only [amset, amlib, zset, eq_self, ↓reduceIte, reduceCtorEq, Nat.reduceBEq, Nat.reduceEqDiff, Nat.reduceAdd, Nat.reduceMul, Nat.reduceLeDiff, Nat.reduceLT, Nat.reduceSub] <;> simp [eq_self]
  · intro hI R
    refine aw_norm (by simp only [amset, amlib, zset, eq_self, ↓reduceIte, reduceCtorEq, Nat.reduceBEq, Nat.reduceEqDiff, Nat.reduceAdd, Nat.reduceMul, Nat.reduceLeDiff, Nat.reduceLT, Nat.reduceSub]; exact rfl) ?_
    refine aw_ops zT fun K4 hK4 => ?_
    simp only [amset, amlib, zset, eq_self, ↓reduceIte, reduceCtorEq, Nat.reduceBEq, Nat.reduceEqDiff, Nat.reduceAdd, Nat.reduceMul, Nat.reduceLeDiff, Nat.reduceLT, Nat.reduceSub]
    refine hK4 _ ?_
    clear hK4
    refine aw_seq fun K5 hK5 => ?_
    refine aw_cond (t := false) (by simp [evalO, S.get, amLook]) (fun h => nomatch h) (fun _ => ?_)
    refine aw_exit ?_
    simp only [thenQ, blkQ, if_true, reduceIte, Nat.reduceEqDiff, eq_self]
    refine hK2 _ ?_
    clear hK2
    refine aw_ops zT fun K6 hK6 => ?_
    simp only [amset, amlib, zset, eq_self, ↓reduceIte, reduceCtorEq, Nat.reduceBEq, Nat.reduceEqDiff, Nat.reduceAdd, Nat.reduceMul, Nat.reduceLeDiff, Nat.reduceLT, Nat.reduceSub]
    refine hK6 _ ?_
    clear hK6
    refine aw_ret ?_
    show resOf zG _ [.tmp 4] = some _
    simp only [amset, amlib, zset, eq_self, ↓reduceIte, reduceCtorEq, Nat.reduceBEq, Nat.reduceEqDiff, Nat.reduceAdd, Nat.reduceMul, Nat.reduceLeDiff, Nat.reduceLT, Nat.reduceSub]
    rw [ixF_none hI]
  · intro dn y td harg hI R hR
    have hl : (l).length = dn.length + (td.length + 1) := by rw [harg]; simp
    have hmem : y ∈ l := by rw [harg]; simp
    refine aw_norm (by simp only [amset, amlib, zset, eq_self, ↓reduceIte, reduceCtorEq, Nat.reduceBEq, Nat.reduceEqDiff, Nat.reduceAdd, Nat.reduceMul, Nat.reduceLeDiff, Nat.reduceLT, Nat.reduceSub]; exact rfl) ?_
    have hget : (encStrs (l)).getD dn.length [] = encStr y := by rw [harg]; exact encStrs_mid dn td y
    refine aw_ops zT fun K7 hK7 => ?_
    simp only [amset, amlib, zset, eq_self, ↓reduceIte, reduceCtorEq, Nat.reduceBEq, Nat.reduceEqDiff, Nat.reduceAdd, Nat.reduceMul, Nat.reduceLeDiff, Nat.reduceLT, Nat.reduceSub]
    refine hK7 _ ?_
    clear hK7
    refine aw_seq fun K8 hK8 => ?_
    refine aw_cond (t := true) (by simp [evalO, S.get, amLook]; omega) (fun _ => ?_) (fun h => nomatch h)
    refine aw_skip ?_
    simp only [thenQ, blkQ, if_true, reduceIte, Nat.reduceEqDiff, eq_self]
    refine hK8 _ ?_
    clear hK8
    refine aw_seq fun K9 hK9 => ?_
    refine aw_block ?_
    refine aw_ops zT fun K10 hK10 => ?_
    simp only [amset, amlib, zset, eq_self, ↓reduceIte, reduceCtorEq, Nat.reduceBEq, Nat.reduceEqDiff, Nat.reduceAdd, Nat.reduceMul, Nat.reduceLeDiff, Nat.reduceLT, Nat.reduceSub]
    refine hK10 _ ?_
    clear hK10
    refine aw_ops zT fun K11 hK11 => ?_
    simp only [amset, amlib, zset, hget, eq_self, ↓reduceIte, reduceCtorEq, Nat.reduceBEq, Nat.reduceEqDiff, Nat.reduceAdd, Nat.reduceMul, Nat.reduceLeDiff, Nat.reduceLT, Nat.reduceSub]
    refine ⟨⟨by omega, by omega⟩, ?_⟩
    refine hK11 _ ?_
    clear hK11
    refine aw_cond rfl (fun h0 => ?_) (fun h0 => ?_)
    · skip
      refine aw_ops zT fun K12 hK12 => ?_
      simp only [amset, amlib, zset, eq_self, ↓reduceIte, reduceCtorEq, Nat.reduceBEq, Nat.reduceEqDiff, Nat.reduceAdd, Nat.reduceMul, Nat.reduceLeDiff, Nat.reduceLT, Nat.reduceSub]
      refine hK12 _ ?_
      clear hK12
      refine aw_ret ?_
      show resOf zG _ [.tmp 4] = some _
      simp only [amset, amlib, zset, eq_self, ↓reduceIte, reduceCtorEq, Nat.reduceBEq, Nat.reduceEqDiff, Nat.reduceAdd, Nat.reduceMul, Nat.reduceLeDiff, Nat.reduceLT, Nat.reduceSub]
      rw [harg, ixF_mid hI h0, Nat.zero_add]
    · skip
      refine aw_skip ?_
      simp only [thenQ, blkQ, if_true, reduceIte, Nat.reduceEqDiff, eq_self]
      refine hK9 _ ?_
      clear hK9
      refine aw_region zT ?_
      simp only [amset, amlib, zset, eq_self, ↓reduceIte, reduceCtorEq, Nat.reduceBEq, Nat.reduceEqDiff, Nat.reduceAdd, Nat.reduceMul, Nat.reduceLeDiff, Nat.reduceLT, Nat.reduceSub]
      refine ⟨⟨by omega, by omega⟩, ?_⟩
      refine hR _ (by rw [List.any_append, hI]; simpa using h0) ?_
      refine Reach.to ?_ ?_
      · simp only [amset, amlib, zset, eq_self, ↓reduceIte, reduceCtorEq, Nat.reduceBEq, Nat.reduceEqDiff, Nat.reduceAdd, Nat.reduceMul, Nat.reduceLeDiff, Nat.reduceLT, Nat.reduceSub] <;> simp [eq_self]
      · simp only [amset, amlib, zset, eq_self, ↓reduceIte, reduceCtorEq, Nat.reduceBEq, Nat.reduceEqDiff, Nat.reduceAdd, Nat.reduceMul, Nat.reduceLeDiff, Nat.reduceLT, Nat.reduceSub] <;> simp [eq_self]
theorem prog170 : Tryz.prog.funcs[170]? = some Tryz.f170 := by kernel_rfl
theorem holds170 (q : List UInt8) (l : List (List UInt8)) : Holds Tryz.prog zG 170 [.c (.sl 1 (encStrs l)), .c (.str q)] [.c (.bool (l.any fun k => q == k))] := by
  refine holds_of_body zT prog170 rfl rfl rfl (by simp [Tryz.f170]) ?_
  refine aw_ops zT fun K1 hK1 => ?_
  simp only [amset, amlib, zset, eq_self, ↓reduceIte, reduceCtorEq, Nat.reduceBEq, Nat.reduceEqDiff, Nat.reduceAdd, Nat.reduceMul, Nat.reduceLeDiff, Nat.reduceLT, Nat.reduceSub]
  refine hK1 _ ?_
  clear hK1
  refine aw_ops zT fun K2 hK2 => ?_
  simp only [amset, amlib, zset, eq_self, ↓reduceIte, reduceCtorEq, Nat.reduceBEq, Nat.reduceEqDiff, Nat.reduceAdd, Nat.reduceMul, Nat.reduceLeDiff, Nat.reduceLT, Nat.reduceSub]
  refine ⟨_, holds205 q l, ?_⟩
  simp only [later]
  simp only [amset, amlib, zset, eq_self, ↓reduceIte, reduceCtorEq, Nat.reduceBEq, Nat.reduceEqDiff, Nat.reduceAdd, Nat.reduceMul, Nat.reduceLeDiff, Nat.reduceLT, Nat.reduceSub]
  refine hK2 _ ?_
  clear hK2
  refine aw_ret ?_
  show resOf zG _ [.tmp 4] = some _
  simp only [amset, amlib, zset, eq_self, ↓reduceIte, reduceCtorEq, Nat.reduceBEq, Nat.reduceEqDiff, Nat.reduceAdd, Nat.reduceMul, Nat.reduceLeDiff, Nat.reduceLT, Nat.reduceSub]
  rw [ixF_ge]
end Go.Proofs.Am
set_option maxRecDepth 100000
set_option maxHeartbeats 4000000
namespace Go.Proofs.Am
theorem len_ge (s : List UInt8) : decide ((s.length : Int) ≥ 1) = !(s == []) := by
  cases s with
  | nil => rfl
  | cons x r => simp; omega
theorem ident_eq (s : List UInt8) : ident s = (bytesOk 0 s && !(s == []) && decide ((s.length : Int) ≤ 32) && !(kws.any fun k => s == k)) := by
  have h : ∀ l : List (List UInt8), (!(l.any fun k => s == k)) = l.all (fun k => !(s == k)) := by
    intro l
    induction l with
    | nil => rfl
    | cons x r ih => rw [List.any_cons, List.all_cons, Bool.not_or, ih]
  rw [h, ident, len_ge]
  cases kws.all (fun k => !(s == k)) <;> cases bytesOk 0 s <;> cases (s == []) <;> cases decide ((s.length : Int) ≤ 32) <;> rfl
theorem prog171 : Tryz.prog.funcs[171]? = some Tryz.f171 := by kernel_rfl
theorem holds171  : Holds Tryz.prog zG 171 [] [.c (.sl 1 (encStrs kws))] := by
  refine holds_of_body zT prog171 rfl rfl rfl (by simp [Tryz.f171]) ?_
  refine aw_ops zT fun K1 hK1 => ?_
  simp only [amset, amlib, zset, eq_self, ↓reduceIte, reduceCtorEq, Nat.reduceBEq, Nat.reduceEqDiff, Nat.reduceAdd, Nat.reduceMul, Nat.reduceLeDiff, Nat.reduceLT, Nat.reduceSub]
  refine hK1 _ ?_
  clear hK1
  refine aw_ops zT fun K2 hK2 => ?_
  simp only [amset, amlib, zset, eq_self, ↓reduceIte, reduceCtorEq, Nat.reduceBEq, Nat.reduceEqDiff, Nat.reduceAdd, Nat.reduceMul, Nat.reduceLeDiff, Nat.reduceLT, Nat.reduceSub]
  refine ⟨_, holds206, ?_⟩
  simp only [later]
  simp only [amset, amlib, zset, eq_self, ↓reduceIte, reduceCtorEq, Nat.reduceBEq, Nat.reduceEqDiff, Nat.reduceAdd, Nat.reduceMul, Nat.reduceLeDiff, Nat.reduceLT, Nat.reduceSub]
  refine hK2 _ ?_
  clear hK2
  refine aw_ret ?_
  show resOf zG _ [.tmp 0] = some _
  simp only [amset, amlib, zset, eq_self, ↓reduceIte, reduceCtorEq, Nat.reduceBEq, Nat.reduceEqDiff, Nat.reduceAdd, Nat.reduceMul, Nat.reduceLeDiff, Nat.reduceLT, Nat.reduceSub]
theorem prog96 : Tryz.prog.funcs[96]? = some Tryz.f96 := by kernel_rfl
theorem holds96 (s : List UInt8) : Holds Tryz.prog zG 96 [.c (.str s)] [.c (.bool (ident s))] := by
  refine holds_of_body zT prog96 rfl rfl rfl (by simp [Tryz.f96]) ?_
  refine aw_ops zT fun K1 hK1 => ?_
  simp only [amset, amlib, zset, eq_self, ↓reduceIte, reduceCtorEq, Nat.reduceBEq, Nat.reduceEqDiff, Nat.reduceAdd, Nat.reduceMul, Nat.reduceLeDiff, Nat.reduceLT, Nat.reduceSub]
  refine hK1 _ ?_
  clear hK1
  refine aw_seq fun K2 hK2 => ?_
  refine aw_ops zT fun K3 hK3 => ?_
  simp only [amset, amlib, zset, eq_self, ↓reduceIte, reduceCtorEq, Nat.reduceBEq, Nat.reduceEqDiff, Nat.reduceAdd, Nat.reduceMul, Nat.reduceLeDiff, Nat.reduceLT, Nat.reduceSub]
  intros
  refine hK3 _ ?_
  clear hK3
  refine aw_block ?_
  refine aw_to ⟨[(0, .cell (.c (.str s))), (7, .cell (.c (.int .i64 s.length))), (8, .cell (.c (.int .i64 0)))], []⟩ ?_ ?_ ?_
  · simp only [amset, amlib, zset, eq_self, ↓reduceIte, reduceCtorEq, Nat.reduceBEq, Nat.reduceEqDiff, Nat.reduceAdd, Nat.reduceMul, Nat.reduceLeDiff, Nat.reduceLT, Nat.reduceSub] <;> simp [eq_self]
  · simp only [amset, amlib, zset, eq_self, ↓reduceIte, reduceCtorEq, Nat.reduceBEq, Nat.reduceEqDiff, Nat.reduceAdd, Nat.reduceMul, Nat.reduceLeDiff, Nat.reduceLT, Nat.reduceSub] <;> simp [eq_self]
  refine aw_range (α := UInt8) (s) (fun dn => bytesOk 0 dn = true) (fun dn => [(8, .cell (.c (.int .i64 dn.length)))]) (fun dn => []) [] [2, 3, 4, 5, 8, 9, 10, 11, 12, 13, 14, 15, 16, 17, 18, 19, 20, 21, 22, 23, 24, 25, 26, 27, 28, 29, 30, 31, 32, 33, 34, 35, 36, 37, 38, 39, 40, 41, 42, 43, 44, 45, 46] [] rfl ?_ ?_ ?_ ?_
  · simp only [amset, amlib, zset, eq_self, ↓reduceIte, reduceCtorEq, Nat.reduceBEq, Nat.reduceEqDiff, Nat.reduceAdd, Nat.reduceMul, Nat.reduceLeDiff, Nat.reduceLT, Nat.reduceSub] <;> simp [eq_self]
  · simp only [amset, amlib, zset, eq_self, ↓reduceIte, reduceCtorEq, Nat.reduceBEq, Nat.reduceEqDiff, Nat.reduceAdd, Nat.reduceMul, Nat.reduceLeDiff, Nat.reduceLT, Nat.reduceSub] <;> simp [eq_self]
  · intro hI R
    refine aw_norm (by simp only [amset, amlib, zset, eq_self, ↓reduceIte, reduceCtorEq, Nat.reduceBEq, Nat.reduceEqDiff, Nat.reduceAdd, Nat.reduceMul, Nat.reduceLeDiff, Nat.reduceLT, Nat.reduceSub]; exact rfl) ?_
    refine aw_ops zT fun K4 hK4 => ?_
    simp only [amset, amlib, zset, eq_self, ↓reduceIte, reduceCtorEq, Nat.reduceBEq, Nat.reduceEqDiff, Nat.reduceAdd, Nat.reduceMul, Nat.reduceLeDiff, Nat.reduceLT, Nat.reduceSub]
    refine hK4 _ ?_
    clear hK4
    refine aw_seq fun K5 hK5 => ?_
    refine aw_cond (t := false) (by simp [evalO, S.get, amLook]) (fun h => nomatch h) (fun _ => ?_)
    refine aw_exit ?_
    simp only [thenQ, blkQ, if_true, reduceIte, Nat.reduceEqDiff, eq_self]
    refine hK2 _ ?_
    clear hK2
    refine aw_ops zT fun K6 hK6 => ?_
    cases f1 : (!(s == [])) with
    | true =>
      cases f2 : decide ((s.length : Int) ≤ 32) with
      | true =>
        simp only [amset, amlib, zset, f1, f2, eq_self, ↓reduceIte, reduceCtorEq, Nat.reduceBEq, Nat.reduceEqDiff, Nat.reduceAdd, Nat.reduceMul, Nat.reduceLeDiff, Nat.reduceLT, Nat.reduceSub]
        intros
        refine ⟨_, holds171, ?_⟩
        simp only [later]
        simp only [amset, amlib, zset, f1, f2, eq_self, ↓reduceIte, reduceCtorEq, Nat.reduceBEq, Nat.reduceEqDiff, Nat.reduceAdd, Nat.reduceMul, Nat.reduceLeDiff, Nat.reduceLT, Nat.reduceSub]
        refine ⟨_, holds170 s kws, ?_⟩
        simp only [later]
        simp only [amset, amlib, zset, f1, f2, eq_self, ↓reduceIte, reduceCtorEq, Nat.reduceBEq, Nat.reduceEqDiff, Nat.reduceAdd, Nat.reduceMul, Nat.reduceLeDiff, Nat.reduceLT, Nat.reduceSub]
        refine hK6 _ ?_
        clear hK6
        refine aw_ret ?_
        show resOf zG _ [.tmp 2] = some _
        simp only [amset, amlib, zset, eq_self, ↓reduceIte, reduceCtorEq, Nat.reduceBEq, Nat.reduceEqDiff, Nat.reduceAdd, Nat.reduceMul, Nat.reduceLeDiff, Nat.reduceLT, Nat.reduceSub]
        simp only [ident_eq, hI, f1, f2, Bool.true_or, Bool.or_true, Bool.false_or, Bool.or_false, Bool.true_and, Bool.and_true, Bool.false_and, Bool.and_false, Bool.not_true, Bool.not_false, if_true, if_false, ↓reduceIte, Bool.false_eq_true]
      | false =>
        simp only [amset, amlib, zset, f1, f2, eq_self, ↓reduceIte, reduceCtorEq, Nat.reduceBEq, Nat.reduceEqDiff, Nat.reduceAdd, Nat.reduceMul, Nat.reduceLeDiff, Nat.reduceLT, Nat.reduceSub]
        intros
        refine hK6 _ ?_
        clear hK6
        refine aw_ret ?_
        show resOf zG _ [.tmp 2] = some _
        simp only [amset, amlib, zset, eq_self, ↓reduceIte, reduceCtorEq, Nat.reduceBEq, Nat.reduceEqDiff, Nat.reduceAdd, Nat.reduceMul, Nat.reduceLeDiff, Nat.reduceLT, Nat.reduceSub]
        simp only [ident_eq, hI, f1, f2, Bool.true_or, Bool.or_true, Bool.false_or, Bool.or_false, Bool.true_and, Bool.and_true, Bool.false_and, Bool.and_false, Bool.not_true, Bool.not_false, if_true, if_false, ↓reduceIte, Bool.false_eq_true]
    | false =>
      simp only [amset, amlib, zset, f1, eq_self, ↓reduceIte, reduceCtorEq, Nat.reduceBEq, Nat.reduceEqDiff, Nat.reduceAdd, Nat.reduceMul, Nat.reduceLeDiff, Nat.reduceLT, Nat.reduceSub]
      refine hK6 _ ?_
      clear hK6
      refine aw_ret ?_
      show resOf zG _ [.tmp 2] = some _
      simp only [amset, amlib, zset, eq_self, ↓reduceIte, reduceCtorEq, Nat.reduceBEq, Nat.reduceEqDiff, Nat.reduceAdd, Nat.reduceMul, Nat.reduceLeDiff, Nat.reduceLT, Nat.reduceSub]
      simp only [ident_eq, hI, f1, Bool.true_or, Bool.or_true, Bool.false_or, Bool.or_false, Bool.true_and, Bool.and_true, Bool.false_and, Bool.and_false, Bool.not_true, Bool.not_false, if_true, if_false, ↓reduceIte, Bool.false_eq_true]
  · intro dn y td harg hI R hR
    have hl : (s).length = dn.length + (td.length + 1) := by rw [harg]; simp
    have hmem : y ∈ s := by rw [harg]; simp
    refine aw_norm (by simp only [amset, amlib, zset, eq_self, ↓reduceIte, reduceCtorEq, Nat.reduceBEq, Nat.reduceEqDiff, Nat.reduceAdd, Nat.reduceMul, Nat.reduceLeDiff, Nat.reduceLT, Nat.reduceSub]; exact rfl) ?_
    have hget : s.getD dn.length 0 = y := by rw [harg]; simp
    refine aw_ops zT fun K7 hK7 => ?_
    simp only [amset, amlib, zset, eq_self, ↓reduceIte, reduceCtorEq, Nat.reduceBEq, Nat.reduceEqDiff, Nat.reduceAdd, Nat.reduceMul, Nat.reduceLeDiff, Nat.reduceLT, Nat.reduceSub]
    refine hK7 _ ?_
    clear hK7
    refine aw_seq fun K8 hK8 => ?_
    refine aw_cond (t := true) (by simp [evalO, S.get, amLook]; omega) (fun _ => ?_) (fun h => nomatch h)
    refine aw_skip ?_
    simp only [thenQ, blkQ, if_true, reduceIte, Nat.reduceEqDiff, eq_self]
    refine hK8 _ ?_
    clear hK8
    refine aw_seq fun K9 hK9 => ?_
    refine aw_block ?_
    refine aw_ops zT fun K10 hK10 => ?_
    simp only [amset, amlib, zset, eq_self, ↓reduceIte, reduceCtorEq, Nat.reduceBEq, Nat.reduceEqDiff, Nat.reduceAdd, Nat.reduceMul, Nat.reduceLeDiff, Nat.reduceLT, Nat.reduceSub]
    refine hK10 _ ?_
    clear hK10
    refine aw_ops zT fun K11 hK11 => ?_
    simp only [amset, amlib, zset, hget, eq_self, ↓reduceIte, reduceCtorEq, Nat.reduceBEq, Nat.reduceEqDiff, Nat.reduceAdd, Nat.reduceMul, Nat.reduceLeDiff, Nat.reduceLT, Nat.reduceSub]
    refine ⟨⟨by omega, by omega⟩, ?_⟩
    refine hK11 _ ?_
    clear hK11
    refine aw_ops zT fun K12 hK12 => ?_
    have keyK12 : ∀ E B, envIn E ([(0, .cell (.c (.str s))), (7, .cell (.c (.int .i64 s.length))), (8, .cell (.c (.int .i64 dn.length))), (3, .cell (.c (.int .i64 dn.length))), (4, .cell (.c (.int .u8 y.toNat))), (5, .cell (.c (.bool (isLetter y))))] : List (Nat × V)) → envIn B ([] : List (Nat × List Cell)) → K12 ⟨E, B⟩ := by
      intro E B he hb
      refine hK12 _ (aw_to ⟨[(0, .cell (.c (.str s))), (7, .cell (.c (.int .i64 s.length))), (8, .cell (.c (.int .i64 dn.length))), (3, .cell (.c (.int .i64 dn.length))), (4, .cell (.c (.int .u8 y.toNat))), (5, .cell (.c (.bool (isLetter y))))], []⟩ he hb ?_)
      refine aw_ops zT fun K13 hK13 => ?_
      cases l : isLetter y with
      | true =>
        simp only [amset, amlib, zset, l, eq_self, ↓reduceIte, reduceCtorEq, Nat.reduceBEq, Nat.reduceEqDiff, Nat.reduceAdd, Nat.reduceMul, Nat.reduceLeDiff, Nat.reduceLT, Nat.reduceSub]
        refine hK13 _ ?_
        clear hK13
        refine aw_cond (t := false) rfl (fun h => nomatch h) (fun _ => ?_)
        refine aw_skip ?_
        simp only [thenQ, blkQ, if_true, reduceIte, Nat.reduceEqDiff, eq_self]
        refine hK9 _ ?_
        clear hK9
        refine aw_region zT ?_
        simp only [amset, amlib, zset, eq_self, ↓reduceIte, reduceCtorEq, Nat.reduceBEq, Nat.reduceEqDiff, Nat.reduceAdd, Nat.reduceMul, Nat.reduceLeDiff, Nat.reduceLT, Nat.reduceSub]
        refine ⟨⟨by omega, by omega⟩, ?_⟩
        refine hR _ (by rw [bytesOk_append, hI]; simp only [bytesOk, okB, Nat.zero_add]; simp only [l]; rfl) ?_
        refine Reach.to ?_ ?_
        · simp only [amset, amlib, zset, eq_self, ↓reduceIte, reduceCtorEq, Nat.reduceBEq, Nat.reduceEqDiff, Nat.reduceAdd, Nat.reduceMul, Nat.reduceLeDiff, Nat.reduceLT, Nat.reduceSub] <;> simp [eq_self]
        · simp only [amset, amlib, zset, eq_self, ↓reduceIte, reduceCtorEq, Nat.reduceBEq, Nat.reduceEqDiff, Nat.reduceAdd, Nat.reduceMul, Nat.reduceLeDiff, Nat.reduceLT, Nat.reduceSub] <;> simp [eq_self]
      | false =>
        cases e1 : ((dn.length : Int) == 0) with
        | true =>
          simp only [amset, amlib, zset, l, e1, eq_self, ↓reduceIte, reduceCtorEq, Nat.reduceBEq, Nat.reduceEqDiff, Nat.reduceAdd, Nat.reduceMul, Nat.reduceLeDiff, Nat.reduceLT, Nat.reduceSub]
          refine hK13 _ ?_
          clear hK13
          refine aw_cond (t := true) rfl (fun _ => ?_) (fun h => nomatch h)
          refine aw_ops zT fun K14 hK14 => ?_
          simp only [amset, amlib, zset, eq_self, ↓reduceIte, reduceCtorEq, Nat.reduceBEq, Nat.reduceEqDiff, Nat.reduceAdd, Nat.reduceMul, Nat.reduceLeDiff, Nat.reduceLT, Nat.reduceSub]
          refine hK14 _ ?_
          clear hK14
          refine aw_ret ?_
          show resOf zG _ [.tmp 2] = some _
          simp only [amset, amlib, zset, eq_self, ↓reduceIte, reduceCtorEq, Nat.reduceBEq, Nat.reduceEqDiff, Nat.reduceAdd, Nat.reduceMul, Nat.reduceLeDiff, Nat.reduceLT, Nat.reduceSub]
          have hb : bytesOk 0 s = false := by
            rw [harg, bytesOk_append]
            simp only [bytesOk, okB, Nat.zero_add, l, e1]
            simp
          simp [ident, hb]
        | false =>
          cases e2 : decide ((y.toNat : Int) < 48) with
          | true =>
            simp only [amset, amlib, zset, l, e1, e2, eq_self, ↓reduceIte, reduceCtorEq, Nat.reduceBEq, Nat.reduceEqDiff, Nat.reduceAdd, Nat.reduceMul, Nat.reduceLeDiff, Nat.reduceLT, Nat.reduceSub]
            refine hK13 _ ?_
            clear hK13
            refine aw_cond (t := true) rfl (fun _ => ?_) (fun h => nomatch h)
            refine aw_ops zT fun K15 hK15 => ?_
            simp only [amset, amlib, zset, eq_self, ↓reduceIte, reduceCtorEq, Nat.reduceBEq, Nat.reduceEqDiff, Nat.reduceAdd, Nat.reduceMul, Nat.reduceLeDiff, Nat.reduceLT, Nat.reduceSub]
            refine hK15 _ ?_
            clear hK15
            refine aw_ret ?_
            show resOf zG _ [.tmp 2] = some _
            simp only [amset, amlib, zset, eq_self, ↓reduceIte, reduceCtorEq, Nat.reduceBEq, Nat.reduceEqDiff, Nat.reduceAdd, Nat.reduceMul, Nat.reduceLeDiff, Nat.reduceLT, Nat.reduceSub]
            have hb : bytesOk 0 s = false := by
              rw [harg, bytesOk_append]
              simp only [bytesOk, okB, Nat.zero_add, l, e1, e2]
              simp
            simp [ident, hb]
          | false =>
            cases e3 : decide ((y.toNat : Int) > 57) with
            | true =>
              simp only [amset, amlib, zset, l, e1, e2, e3, eq_self, ↓reduceIte, reduceCtorEq, Nat.reduceBEq, Nat.reduceEqDiff, Nat.reduceAdd, Nat.reduceMul, Nat.reduceLeDiff, Nat.reduceLT, Nat.reduceSub]
              refine hK13 _ ?_
              clear hK13
              refine aw_cond (t := true) rfl (fun _ => ?_) (fun h => nomatch h)
              refine aw_ops zT fun K16 hK16 => ?_
              simp only [amset, amlib, zset, eq_self, ↓reduceIte, reduceCtorEq, Nat.reduceBEq, Nat.reduceEqDiff, Nat.reduceAdd, Nat.reduceMul, Nat.reduceLeDiff, Nat.reduceLT, Nat.reduceSub]
              refine hK16 _ ?_
              clear hK16
              refine aw_ret ?_
              show resOf zG _ [.tmp 2] = some _
              simp only [amset, amlib, zset, eq_self, ↓reduceIte, reduceCtorEq, Nat.reduceBEq, Nat.reduceEqDiff, Nat.reduceAdd, Nat.reduceMul, Nat.reduceLeDiff, Nat.reduceLT, Nat.reduceSub]
              have hb : bytesOk 0 s = false := by
                rw [harg, bytesOk_append]
                simp only [bytesOk, okB, Nat.zero_add, l, e1, e2, e3]
                simp
              simp [ident, hb]
            | false =>
              simp only [amset, amlib, zset, l, e1, e2, e3, eq_self, ↓reduceIte, reduceCtorEq, Nat.reduceBEq, Nat.reduceEqDiff, Nat.reduceAdd, Nat.reduceMul, Nat.reduceLeDiff, Nat.reduceLT, Nat.reduceSub]
              refine hK13 _ ?_
              clear hK13
              refine aw_cond (t := false) rfl (fun h => nomatch h) (fun _ => ?_)
              refine aw_skip ?_
              simp only [thenQ, blkQ, if_true, reduceIte, Nat.reduceEqDiff, eq_self]
              refine hK9 _ ?_
              clear hK9
              refine aw_region zT ?_
              simp only [amset, amlib, zset, eq_self, ↓reduceIte, reduceCtorEq, Nat.reduceBEq, Nat.reduceEqDiff, Nat.reduceAdd, Nat.reduceMul, Nat.reduceLeDiff, Nat.reduceLT, Nat.reduceSub]
              refine ⟨⟨by omega, by omega⟩, ?_⟩
              refine hR _ (by rw [bytesOk_append, hI]; simp only [bytesOk, okB, Nat.zero_add]; simp only [l, e1, e2, e3]; rfl) ?_
              refine Reach.to ?_ ?_
              · simp only [amset, amlib, zset, eq_self, ↓reduceIte, reduceCtorEq, Nat.reduceBEq, Nat.reduceEqDiff, Nat.reduceAdd, Nat.reduceMul, Nat.reduceLeDiff, Nat.reduceLT, Nat.reduceSub] <;> simp [eq_self]
              · simp only [amset, amlib, zset, eq_self, ↓reduceIte, reduceCtorEq, Nat.reduceBEq, Nat.reduceEqDiff, Nat.reduceAdd, Nat.reduceMul, Nat.reduceLeDiff, Nat.reduceLT, Nat.reduceSub] <;> simp [eq_self]
    cases a1 : decide ((y.toNat : Int) ≥ 97) with
    | true =>
      cases a2 : decide ((y.toNat : Int) ≤ 122) with
      | true =>
        simp only [amset, amlib, zset, a1, a2, eq_self, ↓reduceIte, reduceCtorEq, Nat.reduceBEq, Nat.reduceEqDiff, Nat.reduceAdd, Nat.reduceMul, Nat.reduceLeDiff, Nat.reduceLT, Nat.reduceSub]
        refine keyK12 _ _ ?_ ?_
        · simp only [amset, amlib, zset, eq_self, ↓reduceIte, reduceCtorEq, Nat.reduceBEq, Nat.reduceEqDiff, Nat.reduceAdd, Nat.reduceMul, Nat.reduceLeDiff, Nat.reduceLT, Nat.reduceSub] <;> simp [isLetter, a1, a2]
        · simp only [amset, amlib, zset, eq_self, ↓reduceIte, reduceCtorEq, Nat.reduceBEq, Nat.reduceEqDiff, Nat.reduceAdd, Nat.reduceMul, Nat.reduceLeDiff, Nat.reduceLT, Nat.reduceSub]
      | false =>
        cases b1 : decide ((y.toNat : Int) ≥ 65) with
        | true =>
          cases b2 : decide ((y.toNat : Int) ≤ 90) with
          | true =>
            simp only [amset, amlib, zset, a1, a2, b1, b2, eq_self, ↓reduceIte, reduceCtorEq, Nat.reduceBEq, Nat.reduceEqDiff, Nat.reduceAdd, Nat.reduceMul, Nat.reduceLeDiff, Nat.reduceLT, Nat.reduceSub]
            refine keyK12 _ _ ?_ ?_
            · simp only [amset, amlib, zset, eq_self, ↓reduceIte, reduceCtorEq, Nat.reduceBEq, Nat.reduceEqDiff, Nat.reduceAdd, Nat.reduceMul, Nat.reduceLeDiff, Nat.reduceLT, Nat.reduceSub] <;> simp [isLetter, a1, a2, b1, b2]
            · simp only [amset, amlib, zset, eq_self, ↓reduceIte, reduceCtorEq, Nat.reduceBEq, Nat.reduceEqDiff, Nat.reduceAdd, Nat.reduceMul, Nat.reduceLeDiff, Nat.reduceLT, Nat.reduceSub]
          | false =>
            cases d : ((y.toNat : Int) == 95) with
            | true =>
              simp only [amset, amlib, zset, a1, a2, b1, b2, d, eq_self, ↓reduceIte, reduceCtorEq, Nat.reduceBEq, Nat.reduceEqDiff, Nat.reduceAdd, Nat.reduceMul, Nat.reduceLeDiff, Nat.reduceLT, Nat.reduceSub]
              refine keyK12 _ _ ?_ ?_
              · simp only [amset, amlib, zset, eq_self, ↓reduceIte, reduceCtorEq, Nat.reduceBEq, Nat.reduceEqDiff, Nat.reduceAdd, Nat.reduceMul, Nat.reduceLeDiff, Nat.reduceLT, Nat.reduceSub] <;> simp [isLetter, a1, a2, b1, b2, d]
              · simp only [amset, amlib, zset, eq_self, ↓reduceIte, reduceCtorEq, Nat.reduceBEq, Nat.reduceEqDiff, Nat.reduceAdd, Nat.reduceMul, Nat.reduceLeDiff, Nat.reduceLT, Nat.reduceSub]
            | false =>
              simp only [amset, amlib, zset, a1, a2, b1, b2, d, eq_self, ↓reduceIte, reduceCtorEq, Nat.reduceBEq, Nat.reduceEqDiff, Nat.reduceAdd, Nat.reduceMul, Nat.reduceLeDiff, Nat.reduceLT, Nat.reduceSub]
              refine keyK12 _ _ ?_ ?_
              · simp only [amset, amlib, zset, eq_self, ↓reduceIte, reduceCtorEq, Nat.reduceBEq, Nat.reduceEqDiff, Nat.reduceAdd, Nat.reduceMul, Nat.reduceLeDiff, Nat.reduceLT, Nat.reduceSub] <;> simp [isLetter, a1, a2, b1, b2, d]
              · simp only [amset, amlib, zset, eq_self, ↓reduceIte, reduceCtorEq, Nat.reduceBEq, Nat.reduceEqDiff, Nat.reduceAdd, Nat.reduceMul, Nat.reduceLeDiff, Nat.reduceLT, Nat.reduceSub]
        | false =>
          cases d : ((y.toNat : Int) == 95) with
          | true =>
            simp only [amset, amlib, zset, a1, a2, b1, d, eq_self, ↓reduceIte, reduceCtorEq, Nat.reduceBEq, Nat.reduceEqDiff, Nat.reduceAdd, Nat.reduceMul, Nat.reduceLeDiff, Nat.reduceLT, Nat.reduceSub]
            refine keyK12 _ _ ?_ ?_
            · simp only [amset, amlib, zset, eq_self, ↓reduceIte, reduceCtorEq, Nat.reduceBEq, Nat.reduceEqDiff, Nat.reduceAdd, Nat.reduceMul, Nat.reduceLeDiff, Nat.reduceLT, Nat.reduceSub] <;> simp [isLetter, a1, a2, b1, d]
            · simp only [amset, amlib, zset, eq_self, ↓reduceIte, reduceCtorEq, Nat.reduceBEq, Nat.reduceEqDiff, Nat.reduceAdd, Nat.reduceMul, Nat.reduceLeDiff, Nat.reduceLT, Nat.reduceSub]
          | false =>
            simp only [amset, amlib, zset, a1, a2, b1, d, eq_self, ↓reduceIte, reduceCtorEq, Nat.reduceBEq, Nat.reduceEqDiff, Nat.reduceAdd, Nat.reduceMul, Nat.reduceLeDiff, Nat.reduceLT, Nat.reduceSub]
            refine keyK12 _ _ ?_ ?_
            · simp only [amset, amlib, zset, eq_self, ↓reduceIte, reduceCtorEq, Nat.reduceBEq, Nat.reduceEqDiff, Nat.reduceAdd, Nat.reduceMul, Nat.reduceLeDiff, Nat.reduceLT, Nat.reduceSub] <;> simp [isLetter, a1, a2, b1, d]
            · simp only [amset, amlib, zset, eq_self, ↓reduceIte, reduceCtorEq, Nat.reduceBEq, Nat.reduceEqDiff, Nat.reduceAdd, Nat.reduceMul, Nat.reduceLeDiff, Nat.reduceLT, Nat.reduceSub]
    | false =>
      cases b1 : decide ((y.toNat : Int) ≥ 65) with
      | true =>
        cases b2 : decide ((y.toNat : Int) ≤ 90) with
        | true =>
          simp only [amset, amlib, zset, a1, b1, b2, eq_self, ↓reduceIte, reduceCtorEq, Nat.reduceBEq, Nat.reduceEqDiff, Nat.reduceAdd, Nat.reduceMul, Nat.reduceLeDiff, Nat.reduceLT, Nat.reduceSub]
          refine keyK12 _ _ ?_ ?_
          · simp only [amset, amlib, zset, eq_self, ↓reduceIte, reduceCtorEq, Nat.reduceBEq, Nat.reduceEqDiff, Nat.reduceAdd, Nat.reduceMul, Nat.reduceLeDiff, Nat.reduceLT, Nat.reduceSub] <;> simp [isLetter, a1, b1, b2]
          · simp only [amset, amlib, zset, eq_self, ↓reduceIte, reduceCtorEq, Nat.reduceBEq, Nat.reduceEqDiff, Nat.reduceAdd, Nat.reduceMul, Nat.reduceLeDiff, Nat.reduceLT, Nat.reduceSub]
        | false =>
          cases d : ((y.toNat : Int) == 95) with
          | true =>
            simp only [amset, amlib, zset, a1, b1, b2, d, eq_self, ↓reduceIte, reduceCtorEq, Nat.reduceBEq, Nat.reduceEqDiff, Nat.reduceAdd, Nat.reduceMul, Nat.reduceLeDiff, Nat.reduceLT, Nat.reduceSub]
            refine keyK12 _ _ ?_ ?_
            · simp only [amset, amlib, zset, eq_self, ↓reduceIte, reduceCtorEq, Nat.reduceBEq, Nat.reduceEqDiff, Nat.reduceAdd, Nat.reduceMul, Nat.reduceLeDiff, Nat.reduceLT, Nat.reduceSub] <;> simp [isLetter, a1, b1, b2, d]
            · simp only [amset, amlib, zset, eq_self, ↓reduceIte, reduceCtorEq, Nat.reduceBEq, Nat.reduceEqDiff, Nat.reduceAdd, Nat.reduceMul, Nat.reduceLeDiff, Nat.reduceLT, Nat.reduceSub]
          | false =>
            simp only [amset, amlib, zset, a1, b1, b2, d, eq_self, ↓reduceIte, reduceCtorEq, Nat.reduceBEq, Nat.reduceEqDiff, Nat.reduceAdd, Nat.reduceMul, Nat.reduceLeDiff, Nat.reduceLT, Nat.reduceSub]
            refine keyK12 _ _ ?_ ?_
            · simp only [amset, amlib, zset, eq_self, ↓reduceIte, reduceCtorEq, Nat.reduceBEq, Nat.reduceEqDiff, Nat.reduceAdd, Nat.reduceMul, Nat.reduceLeDiff, Nat.reduceLT, Nat.reduceSub] <;> simp [isLetter, a1, b1, b2, d]
            · simp only [amset, amlib, zset, eq_self, ↓reduceIte, reduceCtorEq, Nat.reduceBEq, Nat.reduceEqDiff, Nat.reduceAdd, Nat.reduceMul, Nat.reduceLeDiff, Nat.reduceLT, Nat.reduceSub]
      | false =>
        cases d : ((y.toNat : Int) == 95) with
        | true =>
          simp only [amset, amlib, zset, a1, b1, d, eq_self, ↓reduceIte, reduceCtorEq, Nat.reduceBEq, Nat.reduceEqDiff, Nat.reduceAdd, Nat.reduceMul, Nat.reduceLeDiff, Nat.reduceLT, Nat.reduceSub]
          refine keyK12 _ _ ?_ ?_
          · simp only [amset, amlib, zset, eq_self, ↓reduceIte, reduceCtorEq, Nat.reduceBEq, Nat.reduceEqDiff, Nat.reduceAdd, Nat.reduceMul, Nat.reduceLeDiff, Nat.reduceLT, Nat.reduceSub] <;> simp [isLetter, a1, b1, d]
          · simp only [amset, amlib, zset, eq_self, ↓reduceIte, reduceCtorEq, Nat.reduceBEq, Nat.reduceEqDiff, Nat.reduceAdd, Nat.reduceMul, Nat.reduceLeDiff, Nat.reduceLT, Nat.reduceSub]
        | false =>
          simp only [amset, amlib, zset, a1, b1, d, eq_self, ↓reduceIte, reduceCtorEq, Nat.reduceBEq, Nat.reduceEqDiff, Nat.reduceAdd, Nat.reduceMul, Nat.reduceLeDiff, Nat.reduceLT, Nat.reduceSub]
          refine keyK12 _ _ ?_ ?_
          · simp only [amset, amlib, zset, eq_self, ↓reduceIte, reduceCtorEq, Nat.reduceBEq, Nat.reduceEqDiff, Nat.reduceAdd, Nat.reduceMul, Nat.reduceLeDiff, Nat.reduceLT, Nat.reduceSub] <;> simp [isLetter, a1, b1, d]
          · simp only [amset, amlib, zset, eq_self, ↓reduceIte, reduceCtorEq, Nat.reduceBEq, Nat.reduceEqDiff, Nat.reduceAdd, Nat.reduceMul, Nat.reduceLeDiff, Nat.reduceLT, Nat.reduceSub]
end Go.Proofs.Am
set_option maxRecDepth 100000
set_option maxHeartbeats 4000000
namespace Go.Proofs.Am
def sameE (x y : Ex) : Bool := x.kind == y.kind && x.name == y.name && x.value == y.value && x.op == y.op
def plainP (x : Ex) : Int × Bool :=
  if x.kind == 1 then (0, decide (x.value ≥ 0) && sameE x (.mk x.kind [] x.value 0 [] 0))
  else if x.kind == 2 || x.kind == 4 then (0, ident x.name && sameE x (.mk x.kind x.name 0 0 [] 0))
  else if x.kind == 3 then (1, ident x.name && sameE x (.mk x.kind x.name 0 0 [] 0))
  else if x.kind == 5 then (1, (decide (x.op ≥ 1) && decide (x.op ≤ 2)) && sameE x (.mk x.kind [] 0 x.op [] 0))
  else if x.kind == 6 then (2, (decide (x.op ≥ 3) && decide (x.op ≤ 15)) && sameE x (.mk x.kind [] 0 x.op [] 0))
  else (0, false)
theorem prog204 : Tryz.prog.funcs[204]? = some Tryz.f204 := by kernel_rfl
theorem holds204 (x y : Ex) : Holds Tryz.prog zG 204 [.agg [.int .i64 y.kind, .str y.name, .int .i16 y.value, .int .i64 y.op, .sl 6 (encEs y.args), .int .i64 y.pos], .ref [.int .i64 x.kind, .str x.name, .int .i16 x.value, .int .i64 x.op, .sl 0 [], .int .i64 0]] [.c (.bool (sameE x y))] := by
  refine holds_of_body zT prog204 rfl rfl rfl (by simp [Tryz.f204]) ?_
  refine aw_ops zT fun K1 hK1 => ?_
  simp only [amset, amlib, zset, eq_self, ↓reduceIte, reduceCtorEq, Nat.reduceBEq, Nat.reduceEqDiff, Nat.reduceAdd, Nat.reduceMul, Nat.reduceLeDiff, Nat.reduceLT, Nat.reduceSub]
  refine hK1 _ ?_
  clear hK1
  refine aw_ops zT fun K2 hK2 => ?_
  cases e0 : (x.kind == y.kind) with
  | true =>
    cases e1 : (x.name == y.name) with
    | true =>
      cases e2 : (x.value == y.value) with
      | true =>
        simp only [amset, amlib, zset, e0, e1, e2, eq_self, ↓reduceIte, reduceCtorEq, Nat.reduceBEq, Nat.reduceEqDiff, Nat.reduceAdd, Nat.reduceMul, Nat.reduceLeDiff, Nat.reduceLT, Nat.reduceSub]
        refine hK2 _ ?_
        clear hK2
        refine aw_ret ?_
        show resOf zG _ [.tmp 3] = some _
        simp only [amset, amlib, zset, eq_self, ↓reduceIte, reduceCtorEq, Nat.reduceBEq, Nat.reduceEqDiff, Nat.reduceAdd, Nat.reduceMul, Nat.reduceLeDiff, Nat.reduceLT, Nat.reduceSub]
        simp only [sameE, e0, e1, e2, Bool.true_or, Bool.or_true, Bool.false_or, Bool.or_false, Bool.true_and, Bool.and_true, Bool.false_and, Bool.and_false, Bool.not_true, Bool.not_false, if_true, if_false, ↓reduceIte, Bool.false_eq_true]
      | false =>
        simp only [amset, amlib, zset, e0, e1, e2, eq_self, ↓reduceIte, reduceCtorEq, Nat.reduceBEq, Nat.reduceEqDiff, Nat.reduceAdd, Nat.reduceMul, Nat.reduceLeDiff, Nat.reduceLT, Nat.reduceSub]
        refine hK2 _ ?_
        clear hK2
        refine aw_ret ?_
        show resOf zG _ [.tmp 3] = some _
        simp only [amset, amlib, zset, eq_self, ↓reduceIte, reduceCtorEq, Nat.reduceBEq, Nat.reduceEqDiff, Nat.reduceAdd, Nat.reduceMul, Nat.reduceLeDiff, Nat.reduceLT, Nat.reduceSub]
        simp only [sameE, e0, e1, e2, Bool.true_or, Bool.or_true, Bool.false_or, Bool.or_false, Bool.true_and, Bool.and_true, Bool.false_and, Bool.and_false, Bool.not_true, Bool.not_false, if_true, if_false, ↓reduceIte, Bool.false_eq_true]
    | false =>
      simp only [amset, amlib, zset, e0, e1, eq_self, ↓reduceIte, reduceCtorEq, Nat.reduceBEq, Nat.reduceEqDiff, Nat.reduceAdd, Nat.reduceMul, Nat.reduceLeDiff, Nat.reduceLT, Nat.reduceSub]
      refine hK2 _ ?_
      clear hK2
      refine aw_ret ?_
      show resOf zG _ [.tmp 3] = some _
      simp only [amset, amlib, zset, eq_self, ↓reduceIte, reduceCtorEq, Nat.reduceBEq, Nat.reduceEqDiff, Nat.reduceAdd, Nat.reduceMul, Nat.reduceLeDiff, Nat.reduceLT, Nat.reduceSub]
      simp only [sameE, e0, e1, Bool.true_or, Bool.or_true, Bool.false_or, Bool.or_false, Bool.true_and, Bool.and_true, Bool.false_and, Bool.and_false, Bool.not_true, Bool.not_false, if_true, if_false, ↓reduceIte, Bool.false_eq_true]
  | false =>
    simp only [amset, amlib, zset, e0, eq_self, ↓reduceIte, reduceCtorEq, Nat.reduceBEq, Nat.reduceEqDiff, Nat.reduceAdd, Nat.reduceMul, Nat.reduceLeDiff, Nat.reduceLT, Nat.reduceSub]
    refine hK2 _ ?_
    clear hK2
    refine aw_ret ?_
    show resOf zG _ [.tmp 3] = some _
    simp only [amset, amlib, zset, eq_self, ↓reduceIte, reduceCtorEq, Nat.reduceBEq, Nat.reduceEqDiff, Nat.reduceAdd, Nat.reduceMul, Nat.reduceLeDiff, Nat.reduceLT, Nat.reduceSub]
    simp only [sameE, e0, Bool.true_or, Bool.or_true, Bool.false_or, Bool.or_false, Bool.true_and, Bool.and_true, Bool.false_and, Bool.and_false, Bool.not_true, Bool.not_false, if_true, if_false, ↓reduceIte, Bool.false_eq_true]
theorem prog163 : Tryz.prog.funcs[163]? = some Tryz.f163 := by kernel_rfl
theorem holds163 (x : Ex) : Holds Tryz.prog zG 163 [.agg [.int .i64 x.kind, .str x.name, .int .i16 x.value, .int .i64 x.op, .sl 6 (encEs x.args), .int .i64 x.pos]] [.c (.int .i64 (plainP x).1), .c (.bool (plainP x).2)] := by
  refine holds_of_body zT prog163 rfl rfl rfl (by simp [Tryz.f163]) ?_
  refine aw_ops zT fun K1 hK1 => ?_
  simp only [amset, amlib, zset, eq_self, ↓reduceIte, reduceCtorEq, Nat.reduceBEq, Nat.reduceEqDiff, Nat.reduceAdd, Nat.reduceMul, Nat.reduceLeDiff, Nat.reduceLT, Nat.reduceSub]
  refine hK1 _ ?_
  clear hK1
  refine aw_ops zT fun K2 hK2 => ?_
  simp only [amset, amlib, zset, eq_self, ↓reduceIte, reduceCtorEq, Nat.reduceBEq, Nat.reduceEqDiff, Nat.reduceAdd, Nat.reduceMul, Nat.reduceLeDiff, Nat.reduceLT, Nat.reduceSub]
  refine ⟨_, holds203 x, ?_⟩
  simp only [later]
  simp only [amset, amlib, zset, eq_self, ↓reduceIte, reduceCtorEq, Nat.reduceBEq, Nat.reduceEqDiff, Nat.reduceAdd, Nat.reduceMul, Nat.reduceLeDiff, Nat.reduceLT, Nat.reduceSub]
  refine hK2 _ ?_
  clear hK2
  refine aw_ops zT fun K3 hK3 => ?_
  simp only [amset, amlib, zset, eq_self, ↓reduceIte, reduceCtorEq, Nat.reduceBEq, Nat.reduceEqDiff, Nat.reduceAdd, Nat.reduceMul, Nat.reduceLeDiff, Nat.reduceLT, Nat.reduceSub]
  refine hK3 _ ?_
  clear hK3
  refine aw_seq fun K4 hK4 => ?_
  refine aw_ops zT fun K5 hK5 => ?_
  simp only [amset, amlib, zset, eq_self, ↓reduceIte, reduceCtorEq, Nat.reduceBEq, Nat.reduceEqDiff, Nat.reduceAdd, Nat.reduceMul, Nat.reduceLeDiff, Nat.reduceLT, Nat.reduceSub]
  refine hK5 _ ?_
  clear hK5
  refine aw_block ?_
  refine aw_ops zT fun K6 hK6 => ?_
  simp only [amset, amlib, zset, eq_self, ↓reduceIte, reduceCtorEq, Nat.reduceBEq, Nat.reduceEqDiff, Nat.reduceAdd, Nat.reduceMul, Nat.reduceLeDiff, Nat.reduceLT, Nat.reduceSub]
  refine hK6 _ ?_
  clear hK6
  refine aw_cond rfl (fun h0 => ?_) (fun h0 => ?_)
  · skip
    refine aw_ops zT fun K7 hK7 => ?_
    cases e0 : decide (x.value ≥ 0) with
    | true =>
      simp only [amset, amlib, zset, e0, eq_self, ↓reduceIte, reduceCtorEq, Nat.reduceBEq, Nat.reduceEqDiff, Nat.reduceAdd, Nat.reduceMul, Nat.reduceLeDiff, Nat.reduceLT, Nat.reduceSub]
      refine ⟨_, holds204 x (.mk x.kind [] x.value 0 [] 0), ?_⟩
      simp only [later]
      simp only [amset, amlib, zset, e0, eq_self, ↓reduceIte, reduceCtorEq, Nat.reduceBEq, Nat.reduceEqDiff, Nat.reduceAdd, Nat.reduceMul, Nat.reduceLeDiff, Nat.reduceLT, Nat.reduceSub]
      refine hK7 _ ?_
      clear hK7
      refine aw_ret ?_
      show resOf zG _ [.tmp 2, .tmp 3] = some _
      simp only [amset, amlib, zset, eq_self, ↓reduceIte, reduceCtorEq, Nat.reduceBEq, Nat.reduceEqDiff, Nat.reduceAdd, Nat.reduceMul, Nat.reduceLeDiff, Nat.reduceLT, Nat.reduceSub]
      simp only [plainP, e0, h0, Bool.true_or, Bool.or_true, Bool.false_or, Bool.or_false, Bool.true_and, Bool.and_true, Bool.false_and, Bool.and_false, Bool.not_true, Bool.not_false, if_true, if_false, ↓reduceIte, Bool.false_eq_true]
    | false =>
      simp only [amset, amlib, zset, e0, eq_self, ↓reduceIte, reduceCtorEq, Nat.reduceBEq, Nat.reduceEqDiff, Nat.reduceAdd, Nat.reduceMul, Nat.reduceLeDiff, Nat.reduceLT, Nat.reduceSub]
      refine hK7 _ ?_
      clear hK7
      refine aw_ret ?_
      show resOf zG _ [.tmp 2, .tmp 3] = some _
      simp only [amset, amlib, zset, eq_self, ↓reduceIte, reduceCtorEq, Nat.reduceBEq, Nat.reduceEqDiff, Nat.reduceAdd, Nat.reduceMul, Nat.reduceLeDiff, Nat.reduceLT, Nat.reduceSub]
      simp only [plainP, e0, h0, Bool.true_or, Bool.or_true, Bool.false_or, Bool.or_false, Bool.true_and, Bool.and_true, Bool.false_and, Bool.and_false, Bool.not_true, Bool.not_false, if_true, if_false, ↓reduceIte, Bool.false_eq_true]
  · skip
    refine aw_seq fun K8 hK8 => ?_
    refine aw_ops zT fun K9 hK9 => ?_
    simp only [amset, amlib, zset, eq_self, ↓reduceIte, reduceCtorEq, Nat.reduceBEq, Nat.reduceEqDiff, Nat.reduceAdd, Nat.reduceMul, Nat.reduceLeDiff, Nat.reduceLT, Nat.reduceSub]
    refine hK9 _ ?_
    clear hK9
    refine aw_cond rfl (fun h1 => ?_) (fun h1 => ?_)
    · skip
      refine aw_norm (by simp only [amset, amlib, zset, h1, eq_self, ↓reduceIte, reduceCtorEq, Nat.reduceBEq, Nat.reduceEqDiff, Nat.reduceAdd, Nat.reduceMul, Nat.reduceLeDiff, Nat.reduceLT, Nat.reduceSub]; exact rfl) ?_
      refine aw_skip ?_
      simp only [thenQ, blkQ, if_true, reduceIte, Nat.reduceEqDiff, eq_self]
      refine hK8 _ ?_
      clear hK8
      refine aw_cond (t := true) rfl (fun _ => ?_) (fun h => nomatch h)
      refine aw_ops zT fun K10 hK10 => ?_
      cases e0 : ident x.name with
      | true =>
        simp only [amset, amlib, zset, e0, eq_self, ↓reduceIte, reduceCtorEq, Nat.reduceBEq, Nat.reduceEqDiff, Nat.reduceAdd, Nat.reduceMul, Nat.reduceLeDiff, Nat.reduceLT, Nat.reduceSub]
        refine ⟨_, holds96 x.name, ?_⟩
        simp only [later]
        simp only [amset, amlib, zset, e0, eq_self, ↓reduceIte, reduceCtorEq, Nat.reduceBEq, Nat.reduceEqDiff, Nat.reduceAdd, Nat.reduceMul, Nat.reduceLeDiff, Nat.reduceLT, Nat.reduceSub]
        refine ⟨_, holds204 x (.mk x.kind x.name 0 0 [] 0), ?_⟩
        simp only [later]
        simp only [amset, amlib, zset, e0, eq_self, ↓reduceIte, reduceCtorEq, Nat.reduceBEq, Nat.reduceEqDiff, Nat.reduceAdd, Nat.reduceMul, Nat.reduceLeDiff, Nat.reduceLT, Nat.reduceSub]
        refine hK10 _ ?_
        clear hK10
        refine aw_ret ?_
        show resOf zG _ [.tmp 2, .tmp 3] = some _
        simp only [amset, amlib, zset, eq_self, ↓reduceIte, reduceCtorEq, Nat.reduceBEq, Nat.reduceEqDiff, Nat.reduceAdd, Nat.reduceMul, Nat.reduceLeDiff, Nat.reduceLT, Nat.reduceSub]
        simp only [plainP, e0, h0, h1, Bool.true_or, Bool.or_true, Bool.false_or, Bool.or_false, Bool.true_and, Bool.and_true, Bool.false_and, Bool.and_false, Bool.not_true, Bool.not_false, if_true, if_false, ↓reduceIte, Bool.false_eq_true]
      | false =>
        simp only [amset, amlib, zset, e0, eq_self, ↓reduceIte, reduceCtorEq, Nat.reduceBEq, Nat.reduceEqDiff, Nat.reduceAdd, Nat.reduceMul, Nat.reduceLeDiff, Nat.reduceLT, Nat.reduceSub]
        refine ⟨_, holds96 x.name, ?_⟩
        simp only [later]
        simp only [amset, amlib, zset, e0, eq_self, ↓reduceIte, reduceCtorEq, Nat.reduceBEq, Nat.reduceEqDiff, Nat.reduceAdd, Nat.reduceMul, Nat.reduceLeDiff, Nat.reduceLT, Nat.reduceSub]
        refine hK10 _ ?_
        clear hK10
        refine aw_ret ?_
        show resOf zG _ [.tmp 2, .tmp 3] = some _
        simp only [amset, amlib, zset, eq_self, ↓reduceIte, reduceCtorEq, Nat.reduceBEq, Nat.reduceEqDiff, Nat.reduceAdd, Nat.reduceMul, Nat.reduceLeDiff, Nat.reduceLT, Nat.reduceSub]
        simp only [plainP, e0, h0, h1, Bool.true_or, Bool.or_true, Bool.false_or, Bool.or_false, Bool.true_and, Bool.and_true, Bool.false_and, Bool.and_false, Bool.not_true, Bool.not_false, if_true, if_false, ↓reduceIte, Bool.false_eq_true]
    · skip
      refine aw_norm (by simp only [amset, amlib, zset, h1, eq_self, ↓reduceIte, reduceCtorEq, Nat.reduceBEq, Nat.reduceEqDiff, Nat.reduceAdd, Nat.reduceMul, Nat.reduceLeDiff, Nat.reduceLT, Nat.reduceSub]; exact rfl) ?_
      refine aw_region zT ?_
      simp only [amset, amlib, zset, eq_self, ↓reduceIte, reduceCtorEq, Nat.reduceBEq, Nat.reduceEqDiff, Nat.reduceAdd, Nat.reduceMul, Nat.reduceLeDiff, Nat.reduceLT, Nat.reduceSub]
      refine hK8 _ ?_
      clear hK8
      refine aw_cond rfl (fun h2 => ?_) (fun h2 => ?_)
      · skip
        refine aw_norm (by simp only [amset, amlib, zset, h2, eq_self, ↓reduceIte, reduceCtorEq, Nat.reduceBEq, Nat.reduceEqDiff, Nat.reduceAdd, Nat.reduceMul, Nat.reduceLeDiff, Nat.reduceLT, Nat.reduceSub]; exact rfl) ?_
        refine aw_ops zT fun K11 hK11 => ?_
        cases e0 : ident x.name with
        | true =>
          simp only [amset, amlib, zset, e0, eq_self, ↓reduceIte, reduceCtorEq, Nat.reduceBEq, Nat.reduceEqDiff, Nat.reduceAdd, Nat.reduceMul, Nat.reduceLeDiff, Nat.reduceLT, Nat.reduceSub]
          refine ⟨_, holds96 x.name, ?_⟩
          simp only [later]
          simp only [amset, amlib, zset, e0, eq_self, ↓reduceIte, reduceCtorEq, Nat.reduceBEq, Nat.reduceEqDiff, Nat.reduceAdd, Nat.reduceMul, Nat.reduceLeDiff, Nat.reduceLT, Nat.reduceSub]
          refine ⟨_, holds204 x (.mk x.kind x.name 0 0 [] 0), ?_⟩
          simp only [later]
          simp only [amset, amlib, zset, e0, eq_self, ↓reduceIte, reduceCtorEq, Nat.reduceBEq, Nat.reduceEqDiff, Nat.reduceAdd, Nat.reduceMul, Nat.reduceLeDiff, Nat.reduceLT, Nat.reduceSub]
          refine hK11 _ ?_
          clear hK11
          refine aw_ret ?_
          show resOf zG _ [.tmp 2, .tmp 3] = some _
          simp only [amset, amlib, zset, eq_self, ↓reduceIte, reduceCtorEq, Nat.reduceBEq, Nat.reduceEqDiff, Nat.reduceAdd, Nat.reduceMul, Nat.reduceLeDiff, Nat.reduceLT, Nat.reduceSub]
          simp only [plainP, e0, h0, h1, h2, Bool.true_or, Bool.or_true, Bool.false_or, Bool.or_false, Bool.true_and, Bool.and_true, Bool.false_and, Bool.and_false, Bool.not_true, Bool.not_false, if_true, if_false, ↓reduceIte, Bool.false_eq_true]
        | false =>
          simp only [amset, amlib, zset, e0, eq_self, ↓reduceIte, reduceCtorEq, Nat.reduceBEq, Nat.reduceEqDiff, Nat.reduceAdd, Nat.reduceMul, Nat.reduceLeDiff, Nat.reduceLT, Nat.reduceSub]
          refine ⟨_, holds96 x.name, ?_⟩
          simp only [later]
          simp only [amset, amlib, zset, e0, eq_self, ↓reduceIte, reduceCtorEq, Nat.reduceBEq, Nat.reduceEqDiff, Nat.reduceAdd, Nat.reduceMul, Nat.reduceLeDiff, Nat.reduceLT, Nat.reduceSub]
          refine hK11 _ ?_
          clear hK11
          refine aw_ret ?_
          show resOf zG _ [.tmp 2, .tmp 3] = some _
          simp only [amset, amlib, zset, eq_self, ↓reduceIte, reduceCtorEq, Nat.reduceBEq, Nat.reduceEqDiff, Nat.reduceAdd, Nat.reduceMul, Nat.reduceLeDiff, Nat.reduceLT, Nat.reduceSub]
          simp only [plainP, e0, h0, h1, h2, Bool.true_or, Bool.or_true, Bool.false_or, Bool.or_false, Bool.true_and, Bool.and_true, Bool.false_and, Bool.and_false, Bool.not_true, Bool.not_false, if_true, if_false, ↓reduceIte, Bool.false_eq_true]
      · skip
        refine aw_norm (by simp only [amset, amlib, zset, h2, eq_self, ↓reduceIte, reduceCtorEq, Nat.reduceBEq, Nat.reduceEqDiff, Nat.reduceAdd, Nat.reduceMul, Nat.reduceLeDiff, Nat.reduceLT, Nat.reduceSub]; exact rfl) ?_
        refine aw_ops zT fun K12 hK12 => ?_
        simp only [amset, amlib, zset, eq_self, ↓reduceIte, reduceCtorEq, Nat.reduceBEq, Nat.reduceEqDiff, Nat.reduceAdd, Nat.reduceMul, Nat.reduceLeDiff, Nat.reduceLT, Nat.reduceSub]
        refine hK12 _ ?_
        clear hK12
        refine aw_cond rfl (fun h3 => ?_) (fun h3 => ?_)
        · skip
          refine aw_ops zT fun K13 hK13 => ?_
          cases e0 : ident x.name with
          | true =>
            simp only [amset, amlib, zset, e0, eq_self, ↓reduceIte, reduceCtorEq, Nat.reduceBEq, Nat.reduceEqDiff, Nat.reduceAdd, Nat.reduceMul, Nat.reduceLeDiff, Nat.reduceLT, Nat.reduceSub]
            refine ⟨_, holds96 x.name, ?_⟩
            simp only [later]
            simp only [amset, amlib, zset, e0, eq_self, ↓reduceIte, reduceCtorEq, Nat.reduceBEq, Nat.reduceEqDiff, Nat.reduceAdd, Nat.reduceMul, Nat.reduceLeDiff, Nat.reduceLT, Nat.reduceSub]
            refine ⟨_, holds204 x (.mk x.kind x.name 0 0 [] 0), ?_⟩
            simp only [later]
            simp only [amset, amlib, zset, e0, eq_self, ↓reduceIte, reduceCtorEq, Nat.reduceBEq, Nat.reduceEqDiff, Nat.reduceAdd, Nat.reduceMul, Nat.reduceLeDiff, Nat.reduceLT, Nat.reduceSub]
            refine hK13 _ ?_
            clear hK13
            refine aw_ret ?_
            show resOf zG _ [.tmp 2, .tmp 3] = some _
            simp only [amset, amlib, zset, eq_self, ↓reduceIte, reduceCtorEq, Nat.reduceBEq, Nat.reduceEqDiff, Nat.reduceAdd, Nat.reduceMul, Nat.reduceLeDiff, Nat.reduceLT, Nat.reduceSub]
            simp only [plainP, e0, h0, h1, h2, h3, Bool.true_or, Bool.or_true, Bool.false_or, Bool.or_false, Bool.true_and, Bool.and_true, Bool.false_and, Bool.and_false, Bool.not_true, Bool.not_false, if_true, if_false, ↓reduceIte, Bool.false_eq_true]
          | false =>
            simp only [amset, amlib, zset, e0, eq_self, ↓reduceIte, reduceCtorEq, Nat.reduceBEq, Nat.reduceEqDiff, Nat.reduceAdd, Nat.reduceMul, Nat.reduceLeDiff, Nat.reduceLT, Nat.reduceSub]
            refine ⟨_, holds96 x.name, ?_⟩
            simp only [later]
            simp only [amset, amlib, zset, e0, eq_self, ↓reduceIte, reduceCtorEq, Nat.reduceBEq, Nat.reduceEqDiff, Nat.reduceAdd, Nat.reduceMul, Nat.reduceLeDiff, Nat.reduceLT, Nat.reduceSub]
            refine hK13 _ ?_
            clear hK13
            refine aw_ret ?_
            show resOf zG _ [.tmp 2, .tmp 3] = some _
            simp only [amset, amlib, zset, eq_self, ↓reduceIte, reduceCtorEq, Nat.reduceBEq, Nat.reduceEqDiff, Nat.reduceAdd, Nat.reduceMul, Nat.reduceLeDiff, Nat.reduceLT, Nat.reduceSub]
            simp only [plainP, e0, h0, h1, h2, h3, Bool.true_or, Bool.or_true, Bool.false_or, Bool.or_false, Bool.true_and, Bool.and_true, Bool.false_and, Bool.and_false, Bool.not_true, Bool.not_false, if_true, if_false, ↓reduceIte, Bool.false_eq_true]
        · skip
          refine aw_ops zT fun K14 hK14 => ?_
          simp only [amset, amlib, zset, eq_self, ↓reduceIte, reduceCtorEq, Nat.reduceBEq, Nat.reduceEqDiff, Nat.reduceAdd, Nat.reduceMul, Nat.reduceLeDiff, Nat.reduceLT, Nat.reduceSub]
          refine hK14 _ ?_
          clear hK14
          refine aw_cond rfl (fun h4 => ?_) (fun h4 => ?_)
          · skip
            refine aw_ops zT fun K15 hK15 => ?_
            cases e0 : decide (x.op ≥ 1) with
            | true =>
              cases e1 : decide (x.op ≤ 2) with
              | true =>
                simp only [amset, amlib, zset, e0, e1, eq_self, ↓reduceIte, reduceCtorEq, Nat.reduceBEq, Nat.reduceEqDiff, Nat.reduceAdd, Nat.reduceMul, Nat.reduceLeDiff, Nat.reduceLT, Nat.reduceSub]
                refine ⟨_, holds204 x (.mk x.kind [] 0 x.op [] 0), ?_⟩
                simp only [later]
                simp only [amset, amlib, zset, e0, e1, eq_self, ↓reduceIte, reduceCtorEq, Nat.reduceBEq, Nat.reduceEqDiff, Nat.reduceAdd, Nat.reduceMul, Nat.reduceLeDiff, Nat.reduceLT, Nat.reduceSub]
                refine hK15 _ ?_
                clear hK15
                refine aw_ret ?_
                show resOf zG _ [.tmp 2, .tmp 3] = some _
                simp only [amset, amlib, zset, eq_self, ↓reduceIte, reduceCtorEq, Nat.reduceBEq, Nat.reduceEqDiff, Nat.reduceAdd, Nat.reduceMul, Nat.reduceLeDiff, Nat.reduceLT, Nat.reduceSub]
                simp only [plainP, e0, e1, h0, h1, h2, h3, h4, Bool.true_or, Bool.or_true, Bool.false_or, Bool.or_false, Bool.true_and, Bool.and_true, Bool.false_and, Bool.and_false, Bool.not_true, Bool.not_false, if_true, if_false, ↓reduceIte, Bool.false_eq_true]
              | false =>
                simp only [amset, amlib, zset, e0, e1, eq_self, ↓reduceIte, reduceCtorEq, Nat.reduceBEq, Nat.reduceEqDiff, Nat.reduceAdd, Nat.reduceMul, Nat.reduceLeDiff, Nat.reduceLT, Nat.reduceSub]
                refine hK15 _ ?_
                clear hK15
                refine aw_ret ?_
                show resOf zG _ [.tmp 2, .tmp 3] = some _
                simp only [amset, amlib, zset, eq_self, ↓reduceIte, reduceCtorEq, Nat.reduceBEq, Nat.reduceEqDiff, Nat.reduceAdd, Nat.reduceMul, Nat.reduceLeDiff, Nat.reduceLT, Nat.reduceSub]
                simp only [plainP, e0, e1, h0, h1, h2, h3, h4, Bool.true_or, Bool.or_true, Bool.false_or, Bool.or_false, Bool.true_and, Bool.and_true, Bool.false_and, Bool.and_false, Bool.not_true, Bool.not_false, if_true, if_false, ↓reduceIte, Bool.false_eq_true]
            | false =>
              simp only [amset, amlib, zset, e0, eq_self, ↓reduceIte, reduceCtorEq, Nat.reduceBEq, Nat.reduceEqDiff, Nat.reduceAdd, Nat.reduceMul, Nat.reduceLeDiff, Nat.reduceLT, Nat.reduceSub]
              refine hK15 _ ?_
              clear hK15
              refine aw_ret ?_
              show resOf zG _ [.tmp 2, .tmp 3] = some _
              simp only [amset, amlib, zset, eq_self, ↓reduceIte, reduceCtorEq, Nat.reduceBEq, Nat.reduceEqDiff, Nat.reduceAdd, Nat.reduceMul, Nat.reduceLeDiff, Nat.reduceLT, Nat.reduceSub]
              simp only [plainP, e0, h0, h1, h2, h3, h4, Bool.true_or, Bool.or_true, Bool.false_or, Bool.or_false, Bool.true_and, Bool.and_true, Bool.false_and, Bool.and_false, Bool.not_true, Bool.not_false, if_true, if_false, ↓reduceIte, Bool.false_eq_true]
          · skip
            refine aw_ops zT fun K16 hK16 => ?_
            simp only [amset, amlib, zset, eq_self, ↓reduceIte, reduceCtorEq, Nat.reduceBEq, Nat.reduceEqDiff, Nat.reduceAdd, Nat.reduceMul, Nat.reduceLeDiff, Nat.reduceLT, Nat.reduceSub]
            refine hK16 _ ?_
            clear hK16
            refine aw_cond rfl (fun h5 => ?_) (fun h5 => ?_)
            · skip
              refine aw_ops zT fun K17 hK17 => ?_
              cases e0 : decide (x.op ≥ 3) with
              | true =>
                cases e1 : decide (x.op ≤ 15) with
                | true =>
                  simp only [amset, amlib, zset, e0, e1, eq_self, ↓reduceIte, reduceCtorEq, Nat.reduceBEq, Nat.reduceEqDiff, Nat.reduceAdd, Nat.reduceMul, Nat.reduceLeDiff, Nat.reduceLT, Nat.reduceSub]
                  refine ⟨_, holds204 x (.mk x.kind [] 0 x.op [] 0), ?_⟩
                  simp only [later]
                  simp only [amset, amlib, zset, e0, e1, eq_self, ↓reduceIte, reduceCtorEq, Nat.reduceBEq, Nat.reduceEqDiff, Nat.reduceAdd, Nat.reduceMul, Nat.reduceLeDiff, Nat.reduceLT, Nat.reduceSub]
                  refine hK17 _ ?_
                  clear hK17
                  refine aw_ret ?_
                  show resOf zG _ [.tmp 2, .tmp 3] = some _
                  simp only [amset, amlib, zset, eq_self, ↓reduceIte, reduceCtorEq, Nat.reduceBEq, Nat.reduceEqDiff, Nat.reduceAdd, Nat.reduceMul, Nat.reduceLeDiff, Nat.reduceLT, Nat.reduceSub]
                  simp only [plainP, e0, e1, h0, h1, h2, h3, h4, h5, Bool.true_or, Bool.or_true, Bool.false_or, Bool.or_false, Bool.true_and, Bool.and_true, Bool.false_and, Bool.and_false, Bool.not_true, Bool.not_false, if_true, if_false, ↓reduceIte, Bool.false_eq_true]
                | false =>
                  simp only [amset, amlib, zset, e0, e1, eq_self, ↓reduceIte, reduceCtorEq, Nat.reduceBEq, Nat.reduceEqDiff, Nat.reduceAdd, Nat.reduceMul, Nat.reduceLeDiff, Nat.reduceLT, Nat.reduceSub]
                  refine hK17 _ ?_
                  clear hK17
                  refine aw_ret ?_
                  show resOf zG _ [.tmp 2, .tmp 3] = some _
                  simp only [amset, amlib, zset, eq_self, ↓reduceIte, reduceCtorEq, Nat.reduceBEq, Nat.reduceEqDiff, Nat.reduceAdd, Nat.reduceMul, Nat.reduceLeDiff, Nat.reduceLT, Nat.reduceSub]
                  simp only [plainP, e0, e1, h0, h1, h2, h3, h4, h5, Bool.true_or, Bool.or_true, Bool.false_or, Bool.or_false, Bool.true_and, Bool.and_true, Bool.false_and, Bool.and_false, Bool.not_true, Bool.not_false, if_true, if_false, ↓reduceIte, Bool.false_eq_true]
              | false =>
                simp only [amset, amlib, zset, e0, eq_self, ↓reduceIte, reduceCtorEq, Nat.reduceBEq, Nat.reduceEqDiff, Nat.reduceAdd, Nat.reduceMul, Nat.reduceLeDiff, Nat.reduceLT, Nat.reduceSub]
                refine hK17 _ ?_
                clear hK17
                refine aw_ret ?_
                show resOf zG _ [.tmp 2, .tmp 3] = some _
                simp only [amset, amlib, zset, eq_self, ↓reduceIte, reduceCtorEq, Nat.reduceBEq, Nat.reduceEqDiff, Nat.reduceAdd, Nat.reduceMul, Nat.reduceLeDiff, Nat.reduceLT, Nat.reduceSub]
                simp only [plainP, e0, h0, h1, h2, h3, h4, h5, Bool.true_or, Bool.or_true, Bool.false_or, Bool.or_false, Bool.true_and, Bool.and_true, Bool.false_and, Bool.and_false, Bool.not_true, Bool.not_false, if_true, if_false, ↓reduceIte, Bool.false_eq_true]
            · skip
              refine aw_skip ?_
              simp only [thenQ, blkQ, if_true, reduceIte, Nat.reduceEqDiff, eq_self]
              refine hK4 _ ?_
              clear hK4
              refine aw_ops zT fun K18 hK18 => ?_
              simp only [amset, amlib, zset, eq_self, ↓reduceIte, reduceCtorEq, Nat.reduceBEq, Nat.reduceEqDiff, Nat.reduceAdd, Nat.reduceMul, Nat.reduceLeDiff, Nat.reduceLT, Nat.reduceSub]
              refine hK18 _ ?_
              clear hK18
              refine aw_ret ?_
              show resOf zG _ [.tmp 2, .tmp 3] = some _
              simp only [amset, amlib, zset, eq_self, ↓reduceIte, reduceCtorEq, Nat.reduceBEq, Nat.reduceEqDiff, Nat.reduceAdd, Nat.reduceMul, Nat.reduceLeDiff, Nat.reduceLT, Nat.reduceSub]
              simp only [plainP, h0, h1, h2, h3, h4, h5, Bool.true_or, Bool.or_true, Bool.false_or, Bool.or_false, Bool.true_and, Bool.and_true, Bool.false_and, Bool.and_false, Bool.not_true, Bool.not_false, if_true, if_false, ↓reduceIte, Bool.false_eq_true]
end Go.Proofs.Am
set_option maxRecDepth 100000
set_option maxHeartbeats 4000000
namespace Go.Proofs.Am
mutual
def wfA : Ex → Bool
  | .mk k n v o a p => (plainP (.mk k n v o a p)).2 && ((a.length : Int) == (plainP (.mk k n v o a p)).1) && wfAs a
def wfAs : List Ex → Bool
  | [] => true
  | x :: r => wfA x && wfAs r
end
theorem wfA_eq (x : Ex) : wfA x = ((plainP x).2 && ((x.args.length : Int) == (plainP x).1) && !(x.args.any fun y => !wfA y)) := by
  have h : ∀ l : List Ex, (!(l.any fun y => !wfA y)) = wfAs l := by
    intro l
    induction l with
    | nil => rfl
    | cons y r ih => rw [List.any_cons, Bool.not_or, ih, wfAs, Bool.not_not]
  rw [h]
  cases x
  rfl
theorem prog164 : Tryz.prog.funcs[164]? = some Tryz.f164 := by kernel_rfl
theorem step164 (x : Ex) (ih : Holds Tryz.prog zG 93 [.agg [.int .i64 x.kind, .str x.name, .int .i16 x.value, .int .i64 x.op, .sl 6 (encEs x.args), .int .i64 x.pos]] [.c (.bool (wfA x))]) : Holds Tryz.prog zG 164 [.agg [.int .i64 x.kind, .str x.name, .int .i16 x.value, .int .i64 x.op, .sl 6 (encEs x.args), .int .i64 x.pos]] [.c (.bool (!wfA x))] := by
  refine holds_of_body zT prog164 rfl rfl rfl (by simp [Tryz.f164]) ?_
  refine aw_ops zT fun K1 hK1 => ?_
  simp only [amset, amlib, zset, eq_self, ↓reduceIte, reduceCtorEq, Nat.reduceBEq, Nat.reduceEqDiff, Nat.reduceAdd, Nat.reduceMul, Nat.reduceLeDiff, Nat.reduceLT, Nat.reduceSub]
  refine hK1 _ ?_
  clear hK1
  refine aw_ops zT fun K2 hK2 => ?_
  simp only [amset, amlib, zset, eq_self, ↓reduceIte, reduceCtorEq, Nat.reduceBEq, Nat.reduceEqDiff, Nat.reduceAdd, Nat.reduceMul, Nat.reduceLeDiff, Nat.reduceLT, Nat.reduceSub]
  refine ⟨_, ih, ?_⟩
  simp only [later]
  simp only [amset, amlib, zset, eq_self, ↓reduceIte, reduceCtorEq, Nat.reduceBEq, Nat.reduceEqDiff, Nat.reduceAdd, Nat.reduceMul, Nat.reduceLeDiff, Nat.reduceLT, Nat.reduceSub]
  refine hK2 _ ?_
  clear hK2
  refine aw_ret ?_
  show resOf zG _ [.tmp 2] = some _
  simp only [amset, amlib, zset, eq_self, ↓reduceIte, reduceCtorEq, Nat.reduceBEq, Nat.reduceEqDiff, Nat.reduceAdd, Nat.reduceMul, Nat.reduceLeDiff, Nat.reduceLT, Nat.reduceSub]
theorem prog93 : Tryz.prog.funcs[93]? = some Tryz.f93 := by kernel_rfl
theorem step93 (x : Ex) (ih : ∀ y ∈ x.args, Holds Tryz.prog zG 164 [.agg [.int .i64 y.kind, .str y.name, .int .i16 y.value, .int .i64 y.op, .sl 6 (encEs y.args), .int .i64 y.pos]] [.c (.bool (!wfA y))]) : Holds Tryz.prog zG 93 [.agg [.int .i64 x.kind, .str x.name, .int .i16 x.value, .int .i64 x.op, .sl 6 (encEs x.args), .int .i64 x.pos]] [.c (.bool (wfA x))] := by
  refine holds_of_body zT prog93 rfl rfl rfl (by simp [Tryz.f93]) ?_
  refine aw_ops zT fun K1 hK1 => ?_
  simp only [amset, amlib, zset, eq_self, ↓reduceIte, reduceCtorEq, Nat.reduceBEq, Nat.reduceEqDiff, Nat.reduceAdd, Nat.reduceMul, Nat.reduceLeDiff, Nat.reduceLT, Nat.reduceSub]
  refine hK1 _ ?_
  clear hK1
  refine aw_ops zT fun K2 hK2 => ?_
  simp only [amset, amlib, zset, eq_self, ↓reduceIte, reduceCtorEq, Nat.reduceBEq, Nat.reduceEqDiff, Nat.reduceAdd, Nat.reduceMul, Nat.reduceLeDiff, Nat.reduceLT, Nat.reduceSub]
  refine ⟨_, holds163 x, ?_⟩
  simp only [later]
  simp only [amset, amlib, zset, eq_self, ↓reduceIte, reduceCtorEq, Nat.reduceBEq, Nat.reduceEqDiff, Nat.reduceAdd, Nat.reduceMul, Nat.reduceLeDiff, Nat.reduceLT, Nat.reduceSub]
  refine hK2 _ ?_
  clear hK2
  refine aw_ops zT fun K3 hK3 => ?_
  cases e0 : (plainP x).2 with
  | true =>
    cases e1 : ((x.args.length : Int) == (plainP x).1) with
    | true =>
      simp only [amset, amlib, zset, e0, e1, eq_self, ↓reduceIte, reduceCtorEq, Nat.reduceBEq, Nat.reduceEqDiff, Nat.reduceAdd, Nat.reduceMul, Nat.reduceLeDiff, Nat.reduceLT, Nat.reduceSub]
      intros
      refine ⟨_, holds79 164 (fun y => !wfA y) x.args ih, ?_⟩
      simp only [later]
      simp only [amset, amlib, zset, e0, e1, eq_self, ↓reduceIte, reduceCtorEq, Nat.reduceBEq, Nat.reduceEqDiff, Nat.reduceAdd, Nat.reduceMul, Nat.reduceLeDiff, Nat.reduceLT, Nat.reduceSub]
      refine hK3 _ ?_
      clear hK3
      refine aw_ret ?_
      show resOf zG _ [.tmp 2] = some _
      simp only [amset, amlib, zset, eq_self, ↓reduceIte, reduceCtorEq, Nat.reduceBEq, Nat.reduceEqDiff, Nat.reduceAdd, Nat.reduceMul, Nat.reduceLeDiff, Nat.reduceLT, Nat.reduceSub]
      rw [wfA_eq]
      simp only [e0, e1, Bool.true_or, Bool.or_true, Bool.false_or, Bool.or_false, Bool.true_and, Bool.and_true, Bool.false_and, Bool.and_false, Bool.not_true, Bool.not_false, if_true, if_false, ↓reduceIte, Bool.false_eq_true]
    | false =>
      simp only [amset, amlib, zset, e0, e1, eq_self, ↓reduceIte, reduceCtorEq, Nat.reduceBEq, Nat.reduceEqDiff, Nat.reduceAdd, Nat.reduceMul, Nat.reduceLeDiff, Nat.reduceLT, Nat.reduceSub]
      intros
      refine hK3 _ ?_
      clear hK3
      refine aw_ret ?_
      show resOf zG _ [.tmp 2] = some _
      simp only [amset, amlib, zset, eq_self, ↓reduceIte, reduceCtorEq, Nat.reduceBEq, Nat.reduceEqDiff, Nat.reduceAdd, Nat.reduceMul, Nat.reduceLeDiff, Nat.reduceLT, Nat.reduceSub]
      rw [wfA_eq]
      simp only [e0, e1, Bool.true_or, Bool.or_true, Bool.false_or, Bool.or_false, Bool.true_and, Bool.and_true, Bool.false_and, Bool.and_false, Bool.not_true, Bool.not_false, if_true, if_false, ↓reduceIte, Bool.false_eq_true]
  | false =>
    simp only [amset, amlib, zset, e0, eq_self, ↓reduceIte, reduceCtorEq, Nat.reduceBEq, Nat.reduceEqDiff, Nat.reduceAdd, Nat.reduceMul, Nat.reduceLeDiff, Nat.reduceLT, Nat.reduceSub]
    refine hK3 _ ?_
    clear hK3
    refine aw_ret ?_
    show resOf zG _ [.tmp 2] = some _
    simp only [amset, amlib, zset, eq_self, ↓reduceIte, reduceCtorEq, Nat.reduceBEq, Nat.reduceEqDiff, Nat.reduceAdd, Nat.reduceMul, Nat.reduceLeDiff, Nat.reduceLT, Nat.reduceSub]
    rw [wfA_eq]
    simp only [e0, Bool.true_or, Bool.or_true, Bool.false_or, Bool.or_false, Bool.true_and, Bool.and_true, Bool.false_and, Bool.and_false, Bool.not_true, Bool.not_false, if_true, if_false, ↓reduceIte, Bool.false_eq_true]
theorem holds93 (x : Ex) : Holds Tryz.prog zG 93 [.agg [.int .i64 x.kind, .str x.name, .int .i16 x.value, .int .i64 x.op, .sl 6 (encEs x.args), .int .i64 x.pos]] [.c (.bool (wfA x))] := step93 x fun y hy => step164 y (holds93 y)
  termination_by SizeOf.sizeOf x
  decreasing_by exact Ex.args_lt hy
end Go.Proofs.Am
set_option maxRecDepth 100000
set_option maxHeartbeats 4000000
namespace Go.Proofs.Am
def levTab : List Int := [0, 0, 0, 4, 4, 5, 5, 5, 3, 3, 3, 3, 3, 3, 2, 1]
def symTab : List (List UInt8) := [[], [45], [33], [43], [45], [42], [47], [37], [61, 61], [33, 61], [60], [60, 61], [62], [62, 61], [38, 38], [124, 124]]
def levI (o : Int) : Int := levTab.getD o.toNat 0
def symI (o : Int) : List UInt8 := symTab.getD o.toNat []
theorem map_drop {α : Type} (f : α → C) (l : List α) (n : Nat) (d : α) (h : n < l.length) : (l.map f).drop (n * 1) = f (l.getD n d) :: (l.map f).drop (n + 1) := by
  rw [Nat.mul_one, List.drop_eq_getElem_cons (by simpa using h)]
  simp [List.getD_eq_getElem?_getD, List.getElem?_eq_getElem h]
theorem lev_at (o : Int) (h : 0 ≤ o ∧ o < 16) : gLevels.drop (o.toNat * 1) = .int .i64 (levI o) :: gLevels.drop (o.toNat + 1) := map_drop (C.int .i64) levTab o.toNat 0 (by simp [levTab]; omega)
theorem sym_at (o : Int) (h : 0 ≤ o ∧ o < 16) : gSymbols.drop (o.toNat * 1) = .str (symI o) :: gSymbols.drop (o.toNat + 1) := map_drop C.str symTab o.toNat [] (by simp [symTab]; omega)
theorem lev_range (o : Int) : 0 ≤ levI o ∧ levI o ≤ 5 := by
  unfold levI
  by_cases h : o.toNat < levTab.length
  · rw [List.getD_eq_getElem?_getD, List.getElem?_eq_getElem h]
    have : ∀ z ∈ levTab, 0 ≤ z ∧ z ≤ 5 := by decide
    exact this _ (List.getElem_mem h)
  · rw [List.getD_eq_getElem?_getD, List.getElem?_eq_none (by omega)]
    decide
theorem sym_len (o : Int) : (symI o).length ≤ 2 := by
  unfold symI
  by_cases h : o.toNat < symTab.length
  · rw [List.getD_eq_getElem?_getD, List.getElem?_eq_getElem h]
    have : ∀ z ∈ symTab, z.length ≤ 2 := by decide
    exact this _ (List.getElem_mem h)
  · rw [List.getD_eq_getElem?_getD, List.getElem?_eq_none (by omega)]
    decide
def lvA (x : Ex) : Int := if x.kind == 6 then levI x.op else if x.kind == 5 then 6 else 7
def opS (p : Int × List UInt8) (least : Int) : List UInt8 := if decide (p.1 < least) then [40] ++ p.2 ++ [41] else p.2
def bnT (o : Int) (a b : Int × List UInt8) : List UInt8 := opS a (if levI o == 3 then levI o + 1 else levI o) ++ [32] ++ symI o ++ [32] ++ opS b (levI o + 1)
mutual
def txA : Ex → List UInt8
  | .mk k n v o a _ => if k == 1 then Lib.itoa v else if k == 2 then n else if k == 3 then n ++ [91] ++ ((txL a).getD 0 (0, [])).2 ++ [93] else if k == 4 then [114, 101, 97, 100, 40] ++ n ++ [41] else if k == 5 then symI o ++ opS ((txL a).getD 0 (0, [])) 6 else bnT o ((txL a).getD 0 (0, [])) ((txL a).getD 1 (0, []))
def txL : List Ex → List (Int × List UInt8)
  | [] => []
  | x :: r => (lvA x, txA x) :: txL r
end
theorem txA_eq (x : Ex) : txA x = if x.kind == 1 then Lib.itoa x.value else if x.kind == 2 then x.name else if x.kind == 3 then x.name ++ [91] ++ ((txL x.args).getD 0 (0, [])).2 ++ [93] else if x.kind == 4 then [114, 101, 97, 100, 40] ++ x.name ++ [41] else if x.kind == 5 then symI x.op ++ opS ((txL x.args).getD 0 (0, [])) 6 else bnT x.op ((txL x.args).getD 0 (0, [])) ((txL x.args).getD 1 (0, [])) := by cases x; rw [txA]; rfl
theorem txL_map (l : List Ex) : txL l = l.map fun y => (lvA y, txA y) := by
  induction l with
  | nil => rfl
  | cons x r ih => simp [txL, ih]
theorem txL_getD (l : List Ex) (n : Nat) (h : n < l.length) : (txL l).getD n (0, []) = (lvA l[n], txA l[n]) := by
  rw [txL_map, List.getD_eq_getElem?_getD, List.getElem?_map, List.getElem?_eq_getElem h]; rfl
theorem ident_len {s : List UInt8} (h : ident s = true) : s.length ≤ 32 := by
  rw [ident_eq] at h
  simp at h
  omega
/-- What a well-formed expression is. -/
theorem wf_facts {x : Ex} (h : wfA x = true) : ((x.kind = 1 ∧ x.args.length = 0 ∧ 0 ≤ x.value ∧ x.name = [] ∧ x.op = 0) ∨ (x.kind = 2 ∧ x.args.length = 0 ∧ ident x.name = true ∧ x.value = 0 ∧ x.op = 0) ∨ (x.kind = 4 ∧ x.args.length = 0 ∧ ident x.name = true ∧ x.value = 0 ∧ x.op = 0) ∨ (x.kind = 3 ∧ x.args.length = 1 ∧ ident x.name = true ∧ x.value = 0 ∧ x.op = 0) ∨ (x.kind = 5 ∧ x.args.length = 1 ∧ (1 ≤ x.op ∧ x.op ≤ 2) ∧ x.name = [] ∧ x.value = 0) ∨ (x.kind = 6 ∧ x.args.length = 2 ∧ (3 ≤ x.op ∧ x.op ≤ 15) ∧ x.name = [] ∧ x.value = 0)) ∧ ∀ y ∈ x.args, wfA y = true := by
  rw [wfA_eq] at h
  simp only [Bool.and_eq_true, Bool.not_eq_true', List.any_eq_false, Bool.not_eq_true, Bool.not_eq_false'] at h
  obtain ⟨⟨h1, h2⟩, h3⟩ := h
  refine ⟨?_, fun y hy => by simpa using h3 y hy⟩
  have h2 : (x.args.length : Int) = (plainP x).1 := by simpa using h2
  clear h3
  obtain ⟨k, n, v, o, a, p⟩ := x
  simp only [plainP, sameE, Ex.kind, Ex.name, Ex.value, Ex.op, Ex.args] at h1 h2 ⊢
  by_cases k1 : k = 1
  · simp [k1] at h1 h2 ⊢; simp [h1, h2]
  · by_cases k2 : k = 2
    · simp [k2] at h1 h2 ⊢; simp [h1, h2]
    · by_cases k4 : k = 4
      · simp [k4] at h1 h2 ⊢; simp [h1, h2]
      · by_cases k3 : k = 3
        · simp [k3] at h1 h2 ⊢; simp [h1]; omega
        · by_cases k5 : k = 5
          · simp [k5] at h1 h2 ⊢; obtain ⟨⟨a1, a2⟩, a3, a4⟩ := h1; have a2 := of_decide_eq_true a2; simp [a1, a2, a3, a4]; omega
          · by_cases k6 : k = 6
            · simp [k6] at h1 h2 ⊢; obtain ⟨⟨a1, a2⟩, a3, a4⟩ := h1; have a2 := of_decide_eq_true a2; simp [a1, a2, a3, a4]; omega
            · simp [k1, k2, k3, k4, k5, k6] at h1
theorem subL_two : ∀ (l : List Ex) (h : l.length = 2), (subL l).length = (subE l[0]).length + (subE l[1]).length
  | [a, b], _ => by simp [subL]
theorem opS_len (p : Int × List UInt8) (l : Int) : (opS p l).length ≤ p.2.length + 2 := by
  unfold opS
  split <;> simp
theorem opS_len' (a : Int) (t : List UInt8) (l : Int) : (opS (a, t) l).length ≤ t.length + 2 := opS_len (a, t) l
theorem txA_len (x : Ex) (h : wfA x = true) (hv : i16r x.value) (hw : wdL x.args) : (txA x).length + 10 ≤ 64 * (subE x).length := by
  obtain ⟨hk, ha⟩ := wf_facts h
  have hs := subE_len x
  have hd := sym_len x.op
  have arg : ∀ n (hn : n < x.args.length), (txA x.args[n]).length + 10 ≤ 64 * (subE x.args[n]).length := fun n hn =>
    have hm := wdL_mem hw (List.getElem_mem hn)
    txA_len x.args[n] (ha _ (List.getElem_mem hn)) (wdE_eq x.args[n] ▸ hm).1 (wdE_eq x.args[n] ▸ hm).2
  rw [txA_eq]
  rcases hk with ⟨k, l, r⟩ | ⟨k, l, r, r2⟩ | ⟨k, l, r, r2⟩ | ⟨k, l, r, r2⟩ | ⟨k, l, r, r2⟩ | ⟨k, l, r, r2⟩ <;> simp only [k, Int.reduceBEq, ↓reduceIte, Bool.false_eq_true]
  · unfold i16r at hv
    have := Lib.itoa_length_le x.value (by omega) (by omega)
    omega
  · have := ident_len r; omega
  · have := ident_len r; simp only [List.length_append, List.length_cons, List.length_nil]; omega
  · have := ident_len r
    have h0 := arg 0 (by omega)
    have h1 := subL_mem (l := x.args) (List.getElem_mem (show 0 < x.args.length by omega))
    rw [txL_getD _ 0 (by omega)]
    simp only [List.length_append, List.length_cons, List.length_nil]
    omega
  · have h0 := arg 0 (by omega)
    have h1 := subL_mem (l := x.args) (List.getElem_mem (show 0 < x.args.length by omega))
    rw [txL_getD _ 0 (by omega)]
    have := opS_len (lvA x.args[0], txA x.args[0]) 6
    simp only [List.length_append] at *
    omega
  · have h0 := arg 0 (by omega)
    have h1 := arg 1 (by omega)
    have h2 := subL_two x.args l
    rw [txL_getD _ 0 (by omega), txL_getD _ 1 (by omega)]
    have e0 := opS_len (lvA x.args[0], txA x.args[0]) (if levI x.op == 3 then levI x.op + 1 else levI x.op)
    have e1 := opS_len (lvA x.args[1], txA x.args[1]) (levI x.op + 1)
    simp only [bnT, List.length_append, List.length_cons, List.length_nil] at *
    omega
  termination_by SizeOf.sizeOf x
  decreasing_by exact Ex.args_lt (List.getElem_mem _)
theorem prog166 : Tryz.prog.funcs[166]? = some Tryz.f166 := by kernel_rfl
theorem holds166 (x : Ex) (hop : x.kind = 6 → 0 ≤ x.op ∧ x.op < 16) : Holds Tryz.prog zG 166 [.agg [.int .i64 x.kind, .str x.name, .int .i16 x.value, .int .i64 x.op, .sl 6 (encEs x.args), .int .i64 x.pos]] [.c (.int .i64 (lvA x))] := by
  refine holds_of_body zT prog166 rfl rfl rfl (by simp [Tryz.f166]) ?_
  refine aw_ops zT fun K1 hK1 => ?_
  simp only [amset, amlib, zset, eq_self, ↓reduceIte, reduceCtorEq, Nat.reduceBEq, Nat.reduceEqDiff, Nat.reduceAdd, Nat.reduceMul, Nat.reduceLeDiff, Nat.reduceLT, Nat.reduceSub]
  refine hK1 _ ?_
  clear hK1
  refine aw_seq fun K2 hK2 => ?_
  refine aw_ops zT fun K3 hK3 => ?_
  simp only [amset, amlib, zset, eq_self, ↓reduceIte, reduceCtorEq, Nat.reduceBEq, Nat.reduceEqDiff, Nat.reduceAdd, Nat.reduceMul, Nat.reduceLeDiff, Nat.reduceLT, Nat.reduceSub]
  refine hK3 _ ?_
  clear hK3
  refine aw_block ?_
  refine aw_ops zT fun K4 hK4 => ?_
  simp only [amset, amlib, zset, eq_self, ↓reduceIte, reduceCtorEq, Nat.reduceBEq, Nat.reduceEqDiff, Nat.reduceAdd, Nat.reduceMul, Nat.reduceLeDiff, Nat.reduceLT, Nat.reduceSub]
  refine hK4 _ ?_
  clear hK4
  refine aw_cond rfl (fun h0 => ?_) (fun h0 => ?_)
  · skip
    have ho := hop (by simpa using h0)
    have hlev := lev_at x.op ho
    refine aw_ops zT fun K5 hK5 => ?_
    simp only [amset, amlib, zset, hlev, eq_self, ↓reduceIte, reduceCtorEq, Nat.reduceBEq, Nat.reduceEqDiff, Nat.reduceAdd, Nat.reduceMul, Nat.reduceLeDiff, Nat.reduceLT, Nat.reduceSub]
    refine ⟨⟨by omega, by omega⟩, ?_⟩
    refine hK5 _ ?_
    clear hK5
    refine aw_ret ?_
    show resOf zG _ [.tmp 2] = some _
    simp only [amset, amlib, zset, eq_self, ↓reduceIte, reduceCtorEq, Nat.reduceBEq, Nat.reduceEqDiff, Nat.reduceAdd, Nat.reduceMul, Nat.reduceLeDiff, Nat.reduceLT, Nat.reduceSub]
    simp only [lvA, h0, Bool.true_or, Bool.or_true, Bool.false_or, Bool.or_false, Bool.true_and, Bool.and_true, Bool.false_and, Bool.and_false, Bool.not_true, Bool.not_false, if_true, if_false, ↓reduceIte, Bool.false_eq_true]
  · skip
    refine aw_ops zT fun K6 hK6 => ?_
    simp only [amset, amlib, zset, eq_self, ↓reduceIte, reduceCtorEq, Nat.reduceBEq, Nat.reduceEqDiff, Nat.reduceAdd, Nat.reduceMul, Nat.reduceLeDiff, Nat.reduceLT, Nat.reduceSub]
    refine hK6 _ ?_
    clear hK6
    refine aw_cond rfl (fun h1 => ?_) (fun h1 => ?_)
    · skip
      refine aw_ops zT fun K7 hK7 => ?_
      simp only [amset, amlib, zset, eq_self, ↓reduceIte, reduceCtorEq, Nat.reduceBEq, Nat.reduceEqDiff, Nat.reduceAdd, Nat.reduceMul, Nat.reduceLeDiff, Nat.reduceLT, Nat.reduceSub]
      refine hK7 _ ?_
      clear hK7
      refine aw_ret ?_
      show resOf zG _ [.tmp 2] = some _
      simp only [amset, amlib, zset, eq_self, ↓reduceIte, reduceCtorEq, Nat.reduceBEq, Nat.reduceEqDiff, Nat.reduceAdd, Nat.reduceMul, Nat.reduceLeDiff, Nat.reduceLT, Nat.reduceSub]
      simp only [lvA, h0, h1, Bool.true_or, Bool.or_true, Bool.false_or, Bool.or_false, Bool.true_and, Bool.and_true, Bool.false_and, Bool.and_false, Bool.not_true, Bool.not_false, if_true, if_false, ↓reduceIte, Bool.false_eq_true]
    · skip
      refine aw_skip ?_
      simp only [thenQ, blkQ, if_true, reduceIte, Nat.reduceEqDiff, eq_self]
      refine hK2 _ ?_
      clear hK2
      refine aw_ops zT fun K8 hK8 => ?_
      simp only [amset, amlib, zset, eq_self, ↓reduceIte, reduceCtorEq, Nat.reduceBEq, Nat.reduceEqDiff, Nat.reduceAdd, Nat.reduceMul, Nat.reduceLeDiff, Nat.reduceLT, Nat.reduceSub]
      refine hK8 _ ?_
      clear hK8
      refine aw_ret ?_
      show resOf zG _ [.tmp 2] = some _
      simp only [amset, amlib, zset, eq_self, ↓reduceIte, reduceCtorEq, Nat.reduceBEq, Nat.reduceEqDiff, Nat.reduceAdd, Nat.reduceMul, Nat.reduceLeDiff, Nat.reduceLT, Nat.reduceSub]
      simp only [lvA, h0, h1, Bool.true_or, Bool.or_true, Bool.false_or, Bool.or_false, Bool.true_and, Bool.and_true, Bool.false_and, Bool.and_false, Bool.not_true, Bool.not_false, if_true, if_false, ↓reduceIte, Bool.false_eq_true]
theorem prog165 : Tryz.prog.funcs[165]? = some Tryz.f165 := by kernel_rfl
theorem step165 (x : Ex) (least : Int) (hop : x.kind = 6 → 0 ≤ x.op ∧ x.op < 16) (hl : (txA x).length ≤ 64000000000000) (ih : Holds Tryz.prog zG 94 [.agg [.int .i64 x.kind, .str x.name, .int .i16 x.value, .int .i64 x.op, .sl 6 (encEs x.args), .int .i64 x.pos]] [.c (.str (txA x))]) : Holds Tryz.prog zG 165 [.agg [.int .i64 x.kind, .str x.name, .int .i16 x.value, .int .i64 x.op, .sl 6 (encEs x.args), .int .i64 x.pos], .c (.int .i64 least)] [.c (.str (opS (lvA x, txA x) least))] := by
  refine holds_of_body zT prog165 rfl rfl rfl (by simp [Tryz.f165]) ?_
  refine aw_ops zT fun K1 hK1 => ?_
  simp only [amset, amlib, zset, eq_self, ↓reduceIte, reduceCtorEq, Nat.reduceBEq, Nat.reduceEqDiff, Nat.reduceAdd, Nat.reduceMul, Nat.reduceLeDiff, Nat.reduceLT, Nat.reduceSub]
  refine hK1 _ ?_
  clear hK1
  refine aw_seq fun K2 hK2 => ?_
  refine aw_ops zT fun K3 hK3 => ?_
  simp only [amset, amlib, zset, eq_self, ↓reduceIte, reduceCtorEq, Nat.reduceBEq, Nat.reduceEqDiff, Nat.reduceAdd, Nat.reduceMul, Nat.reduceLeDiff, Nat.reduceLT, Nat.reduceSub]
  refine ⟨_, holds166 x hop, ?_⟩
  simp only [later]
  simp only [amset, amlib, zset, eq_self, ↓reduceIte, reduceCtorEq, Nat.reduceBEq, Nat.reduceEqDiff, Nat.reduceAdd, Nat.reduceMul, Nat.reduceLeDiff, Nat.reduceLT, Nat.reduceSub]
  refine hK3 _ ?_
  clear hK3
  refine aw_cond rfl (fun h0 => ?_) (fun h0 => ?_)
  · skip
    refine aw_ops zT fun K4 hK4 => ?_
    simp only [amset, amlib, zset, eq_self, ↓reduceIte, reduceCtorEq, Nat.reduceBEq, Nat.reduceEqDiff, Nat.reduceAdd, Nat.reduceMul, Nat.reduceLeDiff, Nat.reduceLT, Nat.reduceSub]
    refine ⟨_, ih, ?_⟩
    simp only [later]
    simp only [amset, amlib, zset, eq_self, ↓reduceIte, reduceCtorEq, Nat.reduceBEq, Nat.reduceEqDiff, Nat.reduceAdd, Nat.reduceMul, Nat.reduceLeDiff, Nat.reduceLT, Nat.reduceSub]
    refine ⟨by omega, ?_⟩
    refine ⟨by omega, ?_⟩
    refine hK4 _ ?_
    clear hK4
    refine aw_ret ?_
    show resOf zG _ [.tmp 4] = some _
    simp only [amset, amlib, zset, eq_self, ↓reduceIte, reduceCtorEq, Nat.reduceBEq, Nat.reduceEqDiff, Nat.reduceAdd, Nat.reduceMul, Nat.reduceLeDiff, Nat.reduceLT, Nat.reduceSub]
    simp only [opS, h0, Bool.true_or, Bool.or_true, Bool.false_or, Bool.or_false, Bool.true_and, Bool.and_true, Bool.false_and, Bool.and_false, Bool.not_true, Bool.not_false, if_true, if_false, ↓reduceIte, Bool.false_eq_true, List.cons_append, List.nil_append]
  · skip
    refine aw_skip ?_
    simp only [thenQ, blkQ, if_true, reduceIte, Nat.reduceEqDiff, eq_self]
    refine hK2 _ ?_
    clear hK2
    refine aw_ops zT fun K5 hK5 => ?_
    simp only [amset, amlib, zset, eq_self, ↓reduceIte, reduceCtorEq, Nat.reduceBEq, Nat.reduceEqDiff, Nat.reduceAdd, Nat.reduceMul, Nat.reduceLeDiff, Nat.reduceLT, Nat.reduceSub]
    refine ⟨_, ih, ?_⟩
    simp only [later]
    simp only [amset, amlib, zset, eq_self, ↓reduceIte, reduceCtorEq, Nat.reduceBEq, Nat.reduceEqDiff, Nat.reduceAdd, Nat.reduceMul, Nat.reduceLeDiff, Nat.reduceLT, Nat.reduceSub]
    refine hK5 _ ?_
    clear hK5
    refine aw_ret ?_
    show resOf zG _ [.tmp 4] = some _
    simp only [amset, amlib, zset, eq_self, ↓reduceIte, reduceCtorEq, Nat.reduceBEq, Nat.reduceEqDiff, Nat.reduceAdd, Nat.reduceMul, Nat.reduceLeDiff, Nat.reduceLT, Nat.reduceSub]
    simp only [opS, h0, Bool.true_or, Bool.or_true, Bool.false_or, Bool.or_false, Bool.true_and, Bool.and_true, Bool.false_and, Bool.and_false, Bool.not_true, Bool.not_false, if_true, if_false, ↓reduceIte, Bool.false_eq_true, List.cons_append, List.nil_append]
theorem prog94 : Tryz.prog.funcs[94]? = some Tryz.f94 := by kernel_rfl
theorem step94 (x : Ex) (hx : wfA x = true) (hv : i16r x.value) (hw : wdL x.args) (hs : (subE x).length ≤ 1000000000000) (ih : ∀ y ∈ x.args, Holds Tryz.prog zG 94 [.agg [.int .i64 y.kind, .str y.name, .int .i16 y.value, .int .i64 y.op, .sl 6 (encEs y.args), .int .i64 y.pos]] [.c (.str (txA y))]) (ihop : ∀ y ∈ x.args, ∀ least : Int, Holds Tryz.prog zG 165 [.agg [.int .i64 y.kind, .str y.name, .int .i16 y.value, .int .i64 y.op, .sl 6 (encEs y.args), .int .i64 y.pos], .c (.int .i64 least)] [.c (.str (opS (lvA y, txA y) least))]) : Holds Tryz.prog zG 94 [.agg [.int .i64 x.kind, .str x.name, .int .i16 x.value, .int .i64 x.op, .sl 6 (encEs x.args), .int .i64 x.pos]] [.c (.str (txA x))] := by
  refine holds_of_body zT prog94 rfl rfl rfl (by simp [Tryz.f94]) ?_
  refine aw_ops zT fun K1 hK1 => ?_
  simp only [amset, amlib, zset, eq_self, ↓reduceIte, reduceCtorEq, Nat.reduceBEq, Nat.reduceEqDiff, Nat.reduceAdd, Nat.reduceMul, Nat.reduceLeDiff, Nat.reduceLT, Nat.reduceSub]
  refine hK1 _ ?_
  clear hK1
  refine aw_seq fun K2 hK2 => ?_
  refine aw_ops zT fun K3 hK3 => ?_
  simp only [amset, amlib, zset, eq_self, ↓reduceIte, reduceCtorEq, Nat.reduceBEq, Nat.reduceEqDiff, Nat.reduceAdd, Nat.reduceMul, Nat.reduceLeDiff, Nat.reduceLT, Nat.reduceSub]
  refine hK3 _ ?_
  clear hK3
  refine aw_block ?_
  refine aw_ops zT fun K4 hK4 => ?_
  simp only [amset, amlib, zset, eq_self, ↓reduceIte, reduceCtorEq, Nat.reduceBEq, Nat.reduceEqDiff, Nat.reduceAdd, Nat.reduceMul, Nat.reduceLeDiff, Nat.reduceLT, Nat.reduceSub]
  refine hK4 _ ?_
  clear hK4
  refine aw_cond rfl (fun h0 => ?_) (fun h0 => ?_)
  · skip
    have ev := i64_same (n := x.value) (by unfold i16r at hv; omega)
    refine aw_ops zT fun K5 hK5 => ?_
    simp only [amset, amlib, zset, ev, eq_self, ↓reduceIte, reduceCtorEq, Nat.reduceBEq, Nat.reduceEqDiff, Nat.reduceAdd, Nat.reduceMul, Nat.reduceLeDiff, Nat.reduceLT, Nat.reduceSub]
    refine ⟨_, holds86 x.value (by unfold i16r at hv; omega) (by unfold i16r at hv; omega), ?_⟩
    simp only [later]
    simp only [amset, amlib, zset, ev, eq_self, ↓reduceIte, reduceCtorEq, Nat.reduceBEq, Nat.reduceEqDiff, Nat.reduceAdd, Nat.reduceMul, Nat.reduceLeDiff, Nat.reduceLT, Nat.reduceSub]
    refine hK5 _ ?_
    clear hK5
    refine aw_ret ?_
    show resOf zG _ [.tmp 2] = some _
    simp only [amset, amlib, zset, eq_self, ↓reduceIte, reduceCtorEq, Nat.reduceBEq, Nat.reduceEqDiff, Nat.reduceAdd, Nat.reduceMul, Nat.reduceLeDiff, Nat.reduceLT, Nat.reduceSub]
    rw [txA_eq x]
    simp only [h0, ↓reduceIte, Bool.false_eq_true, bnT, List.append_assoc, List.cons_append, List.nil_append]
  · skip
    refine aw_ops zT fun K6 hK6 => ?_
    simp only [amset, amlib, zset, eq_self, ↓reduceIte, reduceCtorEq, Nat.reduceBEq, Nat.reduceEqDiff, Nat.reduceAdd, Nat.reduceMul, Nat.reduceLeDiff, Nat.reduceLT, Nat.reduceSub]
    refine hK6 _ ?_
    clear hK6
    refine aw_cond rfl (fun h1 => ?_) (fun h1 => ?_)
    · skip
      refine aw_ops zT fun K7 hK7 => ?_
      simp only [amset, amlib, zset, eq_self, ↓reduceIte, reduceCtorEq, Nat.reduceBEq, Nat.reduceEqDiff, Nat.reduceAdd, Nat.reduceMul, Nat.reduceLeDiff, Nat.reduceLT, Nat.reduceSub]
      refine hK7 _ ?_
      clear hK7
      refine aw_ret ?_
      show resOf zG _ [.tmp 2] = some _
      simp only [amset, amlib, zset, eq_self, ↓reduceIte, reduceCtorEq, Nat.reduceBEq, Nat.reduceEqDiff, Nat.reduceAdd, Nat.reduceMul, Nat.reduceLeDiff, Nat.reduceLT, Nat.reduceSub]
      rw [txA_eq x]
      simp only [h0, h1, ↓reduceIte, Bool.false_eq_true, bnT, List.append_assoc, List.cons_append, List.nil_append]
    · skip
      refine aw_ops zT fun K8 hK8 => ?_
      simp only [amset, amlib, zset, eq_self, ↓reduceIte, reduceCtorEq, Nat.reduceBEq, Nat.reduceEqDiff, Nat.reduceAdd, Nat.reduceMul, Nat.reduceLeDiff, Nat.reduceLT, Nat.reduceSub]
      refine hK8 _ ?_
      clear hK8
      refine aw_cond rfl (fun h2 => ?_) (fun h2 => ?_)
      · skip
        have hwf := wf_facts hx
        have hdl := sym_len x.op
        have hlr := lev_range x.op
        have hsz := subE_len x
        have hk : x.kind = 3 := by simpa using h2
        have ha : x.args.length = 1 := by omega
        have hnl : x.name.length ≤ 32 := ident_len (by rcases hwf.1 with ⟨k, r⟩ | ⟨k, r⟩ | ⟨k, r⟩ | ⟨k, l, r, _⟩ | ⟨k, r⟩ | ⟨k, r⟩ <;> first | exact r | omega)
        have hm0 : x.args[0] ∈ x.args := List.getElem_mem _
        have hget0 : (encEs x.args).getD (Int.toNat 0) [] = encE x.args[0] := encEs_getD _ 0 (by omega)
        have htx0 := txL_getD x.args 0 (by omega)
        have hn0 := txA_len x.args[0] (hwf.2 _ hm0) (wdE_eq x.args[0] ▸ wdL_mem hw hm0).1 (wdE_eq x.args[0] ▸ wdL_mem hw hm0).2
        have hq0 := subL_mem hm0
        have hol0 := fun l => opS_len' (lvA x.args[0]) (txA x.args[0]) l
        refine aw_draw zT prog_mixed fun K9 hK9 => ?_
        simp only [amset, amlib, zset, hget0, eq_self, ↓reduceIte, reduceCtorEq, Nat.reduceBEq, Nat.reduceEqDiff, Nat.reduceAdd, Nat.reduceMul, Nat.reduceLeDiff, Nat.reduceLT, Nat.reduceSub]
        refine ⟨by omega, ?_⟩
        refine ⟨⟨by omega, by omega⟩, ?_⟩
        refine ⟨_, ih _ (List.getElem_mem (h := by omega)), ?_⟩
        simp only [later]
        simp only [amset, amlib, zset, hget0, eq_self, ↓reduceIte, reduceCtorEq, Nat.reduceBEq, Nat.reduceEqDiff, Nat.reduceAdd, Nat.reduceMul, Nat.reduceLeDiff, Nat.reduceLT, Nat.reduceSub]
        refine ⟨by omega, ?_⟩
        refine ⟨by omega, ?_⟩
        refine ⟨by kernel_rfl, ?_⟩
        refine hK9 _ ?_
        clear hK9
        refine aw_ret ?_
        show resOf zG _ [.tmp 2] = some _
        simp only [amset, amlib, zset, eq_self, ↓reduceIte, reduceCtorEq, Nat.reduceBEq, Nat.reduceEqDiff, Nat.reduceAdd, Nat.reduceMul, Nat.reduceLeDiff, Nat.reduceLT, Nat.reduceSub]
        rw [txA_eq x]
        simp only [h0, h1, h2, htx0, ↓reduceIte, Bool.false_eq_true, bnT, List.append_assoc, List.cons_append, List.nil_append]
      · skip
        refine aw_ops zT fun K10 hK10 => ?_
        simp only [amset, amlib, zset, eq_self, ↓reduceIte, reduceCtorEq, Nat.reduceBEq, Nat.reduceEqDiff, Nat.reduceAdd, Nat.reduceMul, Nat.reduceLeDiff, Nat.reduceLT, Nat.reduceSub]
        refine hK10 _ ?_
        clear hK10
        refine aw_cond rfl (fun h3 => ?_) (fun h3 => ?_)
        · skip
          have hwf := wf_facts hx
          have hk : x.kind = 4 := by simpa using h3
          have hnl : x.name.length ≤ 32 := ident_len (by rcases hwf.1 with ⟨k, r⟩ | ⟨k, r⟩ | ⟨k, l, r, _⟩ | ⟨k, r⟩ | ⟨k, r⟩ | ⟨k, r⟩ <;> first | exact r | omega)
          refine aw_ops zT fun K11 hK11 => ?_
          simp only [amset, amlib, zset, eq_self, ↓reduceIte, reduceCtorEq, Nat.reduceBEq, Nat.reduceEqDiff, Nat.reduceAdd, Nat.reduceMul, Nat.reduceLeDiff, Nat.reduceLT, Nat.reduceSub]
          refine ⟨by omega, ?_⟩
          refine ⟨by omega, ?_⟩
          refine hK11 _ ?_
          clear hK11
          refine aw_ret ?_
          show resOf zG _ [.tmp 2] = some _
          simp only [amset, amlib, zset, eq_self, ↓reduceIte, reduceCtorEq, Nat.reduceBEq, Nat.reduceEqDiff, Nat.reduceAdd, Nat.reduceMul, Nat.reduceLeDiff, Nat.reduceLT, Nat.reduceSub]
          rw [txA_eq x]
          simp only [h0, h1, h2, h3, ↓reduceIte, Bool.false_eq_true, bnT, List.append_assoc, List.cons_append, List.nil_append]
        · skip
          refine aw_ops zT fun K12 hK12 => ?_
          simp only [amset, amlib, zset, eq_self, ↓reduceIte, reduceCtorEq, Nat.reduceBEq, Nat.reduceEqDiff, Nat.reduceAdd, Nat.reduceMul, Nat.reduceLeDiff, Nat.reduceLT, Nat.reduceSub]
          refine hK12 _ ?_
          clear hK12
          refine aw_cond rfl (fun h4 => ?_) (fun h4 => ?_)
          · skip
            have hwf := wf_facts hx
            have hdl := sym_len x.op
            have hlr := lev_range x.op
            have hsz := subE_len x
            have hk : x.kind = 5 := by simpa using h4
            have ha : x.args.length = 1 := by omega
            have ho : 1 ≤ x.op ∧ x.op ≤ 2 := by omega
            have hsy := sym_at x.op (by omega)
            have hm0 : x.args[0] ∈ x.args := List.getElem_mem _
            have hget0 : (encEs x.args).getD (Int.toNat 0) [] = encE x.args[0] := encEs_getD _ 0 (by omega)
            have htx0 := txL_getD x.args 0 (by omega)
            have hn0 := txA_len x.args[0] (hwf.2 _ hm0) (wdE_eq x.args[0] ▸ wdL_mem hw hm0).1 (wdE_eq x.args[0] ▸ wdL_mem hw hm0).2
            have hq0 := subL_mem hm0
            have hol0 := fun l => opS_len' (lvA x.args[0]) (txA x.args[0]) l
            have hol := hol0 6
            refine aw_draw zT prog_mixed fun K13 hK13 => ?_
            simp only [amset, amlib, zset, hget0, hsy, eq_self, ↓reduceIte, reduceCtorEq, Nat.reduceBEq, Nat.reduceEqDiff, Nat.reduceAdd, Nat.reduceMul, Nat.reduceLeDiff, Nat.reduceLT, Nat.reduceSub]
            refine ⟨⟨by omega, by omega⟩, ?_⟩
            refine ⟨⟨by omega, by omega⟩, ?_⟩
            refine ⟨_, ihop _ (List.getElem_mem (h := by omega)) _, ?_⟩
            simp only [later]
            simp only [amset, amlib, zset, hget0, hsy, eq_self, ↓reduceIte, reduceCtorEq, Nat.reduceBEq, Nat.reduceEqDiff, Nat.reduceAdd, Nat.reduceMul, Nat.reduceLeDiff, Nat.reduceLT, Nat.reduceSub]
            refine ⟨by omega, ?_⟩
            refine ⟨by kernel_rfl, ?_⟩
            refine hK13 _ ?_
            clear hK13
            refine aw_ret ?_
            show resOf zG _ [.tmp 2] = some _
            simp only [amset, amlib, zset, eq_self, ↓reduceIte, reduceCtorEq, Nat.reduceBEq, Nat.reduceEqDiff, Nat.reduceAdd, Nat.reduceMul, Nat.reduceLeDiff, Nat.reduceLT, Nat.reduceSub]
            rw [txA_eq x]
            simp only [h0, h1, h2, h3, h4, htx0, ↓reduceIte, Bool.false_eq_true, bnT, List.append_assoc, List.cons_append, List.nil_append]
          · skip
            refine aw_skip ?_
            simp only [thenQ, blkQ, if_true, reduceIte, Nat.reduceEqDiff, eq_self]
            refine hK2 _ ?_
            clear hK2
            have hwf := wf_facts hx
            have hdl := sym_len x.op
            have hlr := lev_range x.op
            have hsz := subE_len x
            simp only [beq_eq_false_iff_ne] at h0 h1 h2 h3 h4
            have hk : x.kind = 6 := by omega
            have hlv : lvA x = levI x.op := by simp [lvA, hk]
            have ha : x.args.length = 2 := by omega
            have ho : 3 ≤ x.op ∧ x.op ≤ 15 := by omega
            have hm0 : x.args[0] ∈ x.args := List.getElem_mem _
            have hget0 : (encEs x.args).getD (Int.toNat 0) [] = encE x.args[0] := encEs_getD _ 0 (by omega)
            have htx0 := txL_getD x.args 0 (by omega)
            have hn0 := txA_len x.args[0] (hwf.2 _ hm0) (wdE_eq x.args[0] ▸ wdL_mem hw hm0).1 (wdE_eq x.args[0] ▸ wdL_mem hw hm0).2
            have hq0 := subL_mem hm0
            have hol0 := fun l => opS_len' (lvA x.args[0]) (txA x.args[0]) l
            have hm1 : x.args[1] ∈ x.args := List.getElem_mem _
            have hget1 : (encEs x.args).getD (Int.toNat 1) [] = encE x.args[1] := encEs_getD _ 1 (by omega)
            have htx1 := txL_getD x.args 1 (by omega)
            have hn1 := txA_len x.args[1] (hwf.2 _ hm1) (wdE_eq x.args[1] ▸ wdL_mem hw hm1).1 (wdE_eq x.args[1] ▸ wdL_mem hw hm1).2
            have hq1 := subL_mem hm1
            have hol1 := fun l => opS_len' (lvA x.args[1]) (txA x.args[1]) l
            have hsy := sym_at x.op (by omega)
            have hlev8 : gLevels.drop (Int.toNat 8 * 1) = .int .i64 3 :: gLevels.drop 9 := rfl
            refine aw_ops zT fun K14 hK14 => ?_
            simp only [amset, amlib, zset, eq_self, ↓reduceIte, reduceCtorEq, Nat.reduceBEq, Nat.reduceEqDiff, Nat.reduceAdd, Nat.reduceMul, Nat.reduceLeDiff, Nat.reduceLT, Nat.reduceSub]
            refine ⟨_, holds166 x (fun _ => by omega), ?_⟩
            simp only [later]
            simp only [amset, amlib, zset, eq_self, ↓reduceIte, reduceCtorEq, Nat.reduceBEq, Nat.reduceEqDiff, Nat.reduceAdd, Nat.reduceMul, Nat.reduceLeDiff, Nat.reduceLT, Nat.reduceSub]
            refine hK14 _ ?_
            clear hK14
            refine aw_ops zT fun K15 hK15 => ?_
            simp only [amset, amlib, zset, hlv, eq_self, ↓reduceIte, reduceCtorEq, Nat.reduceBEq, Nat.reduceEqDiff, Nat.reduceAdd, Nat.reduceMul, Nat.reduceLeDiff, Nat.reduceLT, Nat.reduceSub]
            refine hK15 _ ?_
            clear hK15
            refine aw_seq fun K16 hK16 => ?_
            refine aw_ops zT fun K17 hK17 => ?_
            simp only [amset, amlib, zset, hlev8, hlv, eq_self, ↓reduceIte, reduceCtorEq, Nat.reduceBEq, Nat.reduceEqDiff, Nat.reduceAdd, Nat.reduceMul, Nat.reduceLeDiff, Nat.reduceLT, Nat.reduceSub]
            refine ⟨⟨by omega, by omega⟩, ?_⟩
            refine hK17 _ ?_
            clear hK17
            refine aw_cond rfl (fun h5 => ?_) (fun h5 => ?_)
            · skip
              refine aw_region zT ?_
              simp only [amset, amlib, zset, eq_self, ↓reduceIte, reduceCtorEq, Nat.reduceBEq, Nat.reduceEqDiff, Nat.reduceAdd, Nat.reduceMul, Nat.reduceLeDiff, Nat.reduceLT, Nat.reduceSub]
              refine ⟨⟨by omega, by omega⟩, ?_⟩
              refine hK16 _ ?_
              clear hK16
              refine aw_draw zT prog_mixed fun K18 hK18 => ?_
              simp only [amset, amlib, zset, hget0, hget1, hsy, hlv, eq_self, ↓reduceIte, reduceCtorEq, Nat.reduceBEq, Nat.reduceEqDiff, Nat.reduceAdd, Nat.reduceMul, Nat.reduceLeDiff, Nat.reduceLT, Nat.reduceSub]
              refine ⟨⟨by omega, by omega⟩, ?_⟩
              refine ⟨_, ihop _ (List.getElem_mem (h := by omega)) _, ?_⟩
              simp only [later]
              simp only [amset, amlib, zset, hget0, hget1, hsy, hlv, eq_self, ↓reduceIte, reduceCtorEq, Nat.reduceBEq, Nat.reduceEqDiff, Nat.reduceAdd, Nat.reduceMul, Nat.reduceLeDiff, Nat.reduceLT, Nat.reduceSub]
              refine ⟨by have := hol0 (levI x.op); have := hol0 (levI x.op + 1); have := hol1 (levI x.op + 1); omega, ?_⟩
              refine ⟨⟨by omega, by omega⟩, ?_⟩
              refine ⟨by have := hol0 (levI x.op); have := hol0 (levI x.op + 1); have := hol1 (levI x.op + 1); omega, ?_⟩
              refine ⟨by have := hol0 (levI x.op); have := hol0 (levI x.op + 1); have := hol1 (levI x.op + 1); omega, ?_⟩
              refine ⟨⟨by omega, by omega⟩, ?_⟩
              refine ⟨⟨by omega, by omega⟩, ?_⟩
              refine ⟨_, ihop _ (List.getElem_mem (h := by omega)) _, ?_⟩
              simp only [later]
              simp only [amset, amlib, zset, hget0, hget1, hsy, hlv, eq_self, ↓reduceIte, reduceCtorEq, Nat.reduceBEq, Nat.reduceEqDiff, Nat.reduceAdd, Nat.reduceMul, Nat.reduceLeDiff, Nat.reduceLT, Nat.reduceSub]
              refine ⟨by have := hol0 (levI x.op); have := hol0 (levI x.op + 1); have := hol1 (levI x.op + 1); omega, ?_⟩
              refine ⟨by kernel_rfl, ?_⟩
              refine hK18 _ ?_
              clear hK18
              refine aw_ret ?_
              show resOf zG _ [.tmp 2] = some _
              simp only [amset, amlib, zset, eq_self, ↓reduceIte, reduceCtorEq, Nat.reduceBEq, Nat.reduceEqDiff, Nat.reduceAdd, Nat.reduceMul, Nat.reduceLeDiff, Nat.reduceLT, Nat.reduceSub]
              rw [txA_eq x]
              simp only [(show (x.kind == 1) = false by simp [hk]), (show (x.kind == 2) = false by simp [hk]), (show (x.kind == 3) = false by simp [hk]), (show (x.kind == 4) = false by simp [hk]), (show (x.kind == 5) = false by simp [hk]), h5, htx0, htx1, ↓reduceIte, Bool.false_eq_true, bnT, List.append_assoc, List.cons_append, List.nil_append]
            · skip
              refine aw_skip ?_
              simp only [thenQ, blkQ, if_true, reduceIte, Nat.reduceEqDiff, eq_self]
              refine hK16 _ ?_
              clear hK16
              refine aw_draw zT prog_mixed fun K19 hK19 => ?_
              simp only [amset, amlib, zset, hget0, hget1, hsy, hlv, eq_self, ↓reduceIte, reduceCtorEq, Nat.reduceBEq, Nat.reduceEqDiff, Nat.reduceAdd, Nat.reduceMul, Nat.reduceLeDiff, Nat.reduceLT, Nat.reduceSub]
              refine ⟨⟨by omega, by omega⟩, ?_⟩
              refine ⟨_, ihop _ (List.getElem_mem (h := by omega)) _, ?_⟩
              simp only [later]
              simp only [amset, amlib, zset, hget0, hget1, hsy, hlv, eq_self, ↓reduceIte, reduceCtorEq, Nat.reduceBEq, Nat.reduceEqDiff, Nat.reduceAdd, Nat.reduceMul, Nat.reduceLeDiff, Nat.reduceLT, Nat.reduceSub]
              refine ⟨by have := hol0 (levI x.op); have := hol0 (levI x.op + 1); have := hol1 (levI x.op + 1); omega, ?_⟩
              refine ⟨⟨by omega, by omega⟩, ?_⟩
              refine ⟨by have := hol0 (levI x.op); have := hol0 (levI x.op + 1); have := hol1 (levI x.op + 1); omega, ?_⟩
              refine ⟨by have := hol0 (levI x.op); have := hol0 (levI x.op + 1); have := hol1 (levI x.op + 1); omega, ?_⟩
              refine ⟨⟨by omega, by omega⟩, ?_⟩
              refine ⟨⟨by omega, by omega⟩, ?_⟩
              refine ⟨_, ihop _ (List.getElem_mem (h := by omega)) _, ?_⟩
              simp only [later]
              simp only [amset, amlib, zset, hget0, hget1, hsy, hlv, eq_self, ↓reduceIte, reduceCtorEq, Nat.reduceBEq, Nat.reduceEqDiff, Nat.reduceAdd, Nat.reduceMul, Nat.reduceLeDiff, Nat.reduceLT, Nat.reduceSub]
              refine ⟨by have := hol0 (levI x.op); have := hol0 (levI x.op + 1); have := hol1 (levI x.op + 1); omega, ?_⟩
              refine ⟨by kernel_rfl, ?_⟩
              refine hK19 _ ?_
              clear hK19
              refine aw_ret ?_
              show resOf zG _ [.tmp 2] = some _
              simp only [amset, amlib, zset, eq_self, ↓reduceIte, reduceCtorEq, Nat.reduceBEq, Nat.reduceEqDiff, Nat.reduceAdd, Nat.reduceMul, Nat.reduceLeDiff, Nat.reduceLT, Nat.reduceSub]
              rw [txA_eq x]
              simp only [(show (x.kind == 1) = false by simp [hk]), (show (x.kind == 2) = false by simp [hk]), (show (x.kind == 3) = false by simp [hk]), (show (x.kind == 4) = false by simp [hk]), (show (x.kind == 5) = false by simp [hk]), h5, htx0, htx1, ↓reduceIte, Bool.false_eq_true, bnT, List.append_assoc, List.cons_append, List.nil_append]
theorem holds94 (x : Ex) (hx : wfA x = true) (hv : i16r x.value) (hw : wdL x.args) (hs : (subE x).length ≤ 1000000000000) : Holds Tryz.prog zG 94 [.agg [.int .i64 x.kind, .str x.name, .int .i16 x.value, .int .i64 x.op, .sl 6 (encEs x.args), .int .i64 x.pos]] [.c (.str (txA x))] :=
  have hwf := wf_facts hx
  have ih : ∀ y ∈ x.args, Holds Tryz.prog zG 94 [.agg [.int .i64 y.kind, .str y.name, .int .i16 y.value, .int .i64 y.op, .sl 6 (encEs y.args), .int .i64 y.pos]] [.c (.str (txA y))] := fun y hy => holds94 y (hwf.2 y hy) (wdE_eq y ▸ wdL_mem hw hy).1 (wdE_eq y ▸ wdL_mem hw hy).2 (by have := subL_mem hy; have := subE_len x; omega)
  step94 x hx hv hw hs ih fun y hy least => step165 y least (fun hk => by have := (wf_facts (hwf.2 y hy)).1; omega) (by have := txA_len y (hwf.2 y hy) (wdE_eq y ▸ wdL_mem hw hy).1 (wdE_eq y ▸ wdL_mem hw hy).2; have := subL_mem hy; have := subE_len x; omega) (ih y hy)
  termination_by SizeOf.sizeOf x
  decreasing_by exact Ex.args_lt hy
theorem prog34 : Tryz.prog.funcs[34]? = some Tryz.f34 := by kernel_rfl
theorem holds34 (x : Ex) (hv : i16r x.value) (hw : wdL x.args) (hs : (subE x).length ≤ 1000000000000) : Holds Tryz.prog zG 34 [.agg [.int .i64 x.kind, .str x.name, .int .i16 x.value, .int .i64 x.op, .sl 6 (encEs x.args), .int .i64 x.pos]] [.c (.str (if wfA x then txA x else []))] := by
  refine holds_of_body zT prog34 rfl rfl rfl (by simp [Tryz.f34]) ?_
  refine aw_ops zT fun K1 hK1 => ?_
  simp only [amset, amlib, zset, eq_self, ↓reduceIte, reduceCtorEq, Nat.reduceBEq, Nat.reduceEqDiff, Nat.reduceAdd, Nat.reduceMul, Nat.reduceLeDiff, Nat.reduceLT, Nat.reduceSub]
  refine hK1 _ ?_
  clear hK1
  refine aw_seq fun K2 hK2 => ?_
  refine aw_ops zT fun K3 hK3 => ?_
  simp only [amset, amlib, zset, eq_self, ↓reduceIte, reduceCtorEq, Nat.reduceBEq, Nat.reduceEqDiff, Nat.reduceAdd, Nat.reduceMul, Nat.reduceLeDiff, Nat.reduceLT, Nat.reduceSub]
  refine ⟨_, holds93 x, ?_⟩
  simp only [later]
  simp only [amset, amlib, zset, eq_self, ↓reduceIte, reduceCtorEq, Nat.reduceBEq, Nat.reduceEqDiff, Nat.reduceAdd, Nat.reduceMul, Nat.reduceLeDiff, Nat.reduceLT, Nat.reduceSub]
  refine hK3 _ ?_
  clear hK3
  refine aw_cond rfl (fun h0 => ?_) (fun h0 => ?_)
  · skip
    refine aw_ops zT fun K4 hK4 => ?_
    simp only [amset, amlib, zset, eq_self, ↓reduceIte, reduceCtorEq, Nat.reduceBEq, Nat.reduceEqDiff, Nat.reduceAdd, Nat.reduceMul, Nat.reduceLeDiff, Nat.reduceLT, Nat.reduceSub]
    refine hK4 _ ?_
    clear hK4
    refine aw_ret ?_
    show resOf zG _ [.tmp 2] = some _
    simp only [amset, amlib, zset, eq_self, ↓reduceIte, reduceCtorEq, Nat.reduceBEq, Nat.reduceEqDiff, Nat.reduceAdd, Nat.reduceMul, Nat.reduceLeDiff, Nat.reduceLT, Nat.reduceSub]
    have h1 : wfA x = !(!wfA x) := by simp
    rw [h1, h0]
    rfl
  · skip
    refine aw_skip ?_
    simp only [thenQ, blkQ, if_true, reduceIte, Nat.reduceEqDiff, eq_self]
    refine hK2 _ ?_
    clear hK2
    refine aw_ops zT fun K5 hK5 => ?_
    simp only [amset, amlib, zset, eq_self, ↓reduceIte, reduceCtorEq, Nat.reduceBEq, Nat.reduceEqDiff, Nat.reduceAdd, Nat.reduceMul, Nat.reduceLeDiff, Nat.reduceLT, Nat.reduceSub]
    refine ⟨_, holds94 x (by simpa using h0) hv hw hs, ?_⟩
    simp only [later]
    simp only [amset, amlib, zset, eq_self, ↓reduceIte, reduceCtorEq, Nat.reduceBEq, Nat.reduceEqDiff, Nat.reduceAdd, Nat.reduceMul, Nat.reduceLeDiff, Nat.reduceLT, Nat.reduceSub]
    refine hK5 _ ?_
    clear hK5
    refine aw_ret ?_
    show resOf zG _ [.tmp 2] = some _
    simp only [amset, amlib, zset, eq_self, ↓reduceIte, reduceCtorEq, Nat.reduceBEq, Nat.reduceEqDiff, Nat.reduceAdd, Nat.reduceMul, Nat.reduceLeDiff, Nat.reduceLT, Nat.reduceSub]
    have h1 : wfA x = !(!wfA x) := by simp
    rw [h1, h0]
    rfl
end Go.Proofs.Am
set_option maxRecDepth 100000
set_option maxHeartbeats 4000000
namespace Go.Proofs.Am
def dig (d : Nat) : UInt8 := UInt8.ofNat (48 + d)
def numN (n : Nat) : List UInt8 := if h : n < 10 then [dig n] else numN (n / 10) ++ [dig (n % 10)]
  termination_by n
  decreasing_by omega
theorem numN_lt {n : Nat} (h : n < 10) : numN n = [dig n] := by unfold numN; simp [h]
theorem numN_ge {n : Nat} (h : ¬ n < 10) : numN n = numN (n / 10) ++ numN (n % 10) := by
  rw [numN_lt (n := n % 10) (by omega)]
  conv => lhs; unfold numN
  simp [h]
theorem dig_slice : ∀ d < 10, ((([48, 49, 50, 51, 52, 53, 54, 55, 56, 57] : List UInt8).drop d).take 1) = [dig d] := by decide
theorem numN_len (n : Nat) : (numN n).length ≤ n + 1 := by
  induction n using Nat.strongRecOn with
  | _ n ih =>
    unfold numN
    split
    · simp
    · have := ih (n / 10) (by omega)
      simp
      omega
theorem prog91 : Tryz.prog.funcs[91]? = some Tryz.f91 := by kernel_rfl
theorem step91 (n : Nat) (hn : n ≤ 4611686018427387904) (ih : ∀ m, m < n → m ≤ 4611686018427387904 → Holds Tryz.prog zG 91 [.c (.int .i64 (m : Nat))] [.c (.str (numN m))]) : Holds Tryz.prog zG 91 [.c (.int .i64 (n : Nat))] [.c (.str (numN n))] := by
  refine holds_of_body zT prog91 rfl rfl rfl (by simp [Tryz.f91]) ?_
  refine aw_ops zT fun K1 hK1 => ?_
  simp only [amset, amlib, zset, eq_self, ↓reduceIte, reduceCtorEq, Nat.reduceBEq, Nat.reduceEqDiff, Nat.reduceAdd, Nat.reduceMul, Nat.reduceLeDiff, Nat.reduceLT, Nat.reduceSub]
  refine hK1 _ ?_
  clear hK1
  refine aw_seq fun K2 hK2 => ?_
  refine aw_ops zT fun K3 hK3 => ?_
  simp only [amset, amlib, zset, eq_self, ↓reduceIte, reduceCtorEq, Nat.reduceBEq, Nat.reduceEqDiff, Nat.reduceAdd, Nat.reduceMul, Nat.reduceLeDiff, Nat.reduceLT, Nat.reduceSub]
  refine hK3 _ ?_
  clear hK3
  refine aw_cond (t := false) (by simp [evalO, S.get, amLook]) (fun h => nomatch h) (fun _ => ?_)
  refine aw_skip ?_
  simp only [thenQ, blkQ, if_true, reduceIte, Nat.reduceEqDiff, eq_self]
  refine hK2 _ ?_
  clear hK2
  refine aw_seq fun K4 hK4 => ?_
  refine aw_ops zT fun K5 hK5 => ?_
  simp only [amset, amlib, zset, eq_self, ↓reduceIte, reduceCtorEq, Nat.reduceBEq, Nat.reduceEqDiff, Nat.reduceAdd, Nat.reduceMul, Nat.reduceLeDiff, Nat.reduceLT, Nat.reduceSub]
  refine hK5 _ ?_
  clear hK5
  refine aw_cond (t := decide ((n : Int) < 10)) rfl (fun h1 => ?_) (fun h1 => ?_)
  · skip
    have hlt : n < 10 := by simp at h1; omega
    refine aw_ops zT fun K6 hK6 => ?_
    simp only [amset, amlib, zset, eq_self, ↓reduceIte, reduceCtorEq, Nat.reduceBEq, Nat.reduceEqDiff, Nat.reduceAdd, Nat.reduceMul, Nat.reduceLeDiff, Nat.reduceLT, Nat.reduceSub]
    refine ⟨⟨by omega, by omega⟩, ?_⟩
    refine ⟨⟨by omega, by omega, by omega⟩, ?_⟩
    refine hK6 _ ?_
    clear hK6
    refine aw_ret ?_
    show resOf zG _ [.tmp 2] = some _
    simp only [amset, amlib, zset, eq_self, ↓reduceIte, reduceCtorEq, Nat.reduceBEq, Nat.reduceEqDiff, Nat.reduceAdd, Nat.reduceMul, Nat.reduceLeDiff, Nat.reduceLT, Nat.reduceSub]
    rw [numN_lt hlt, ← dig_slice n hlt]
    simp
  · skip
    have hlt : ¬ n < 10 := by simp at h1; omega
    refine aw_skip ?_
    simp only [thenQ, blkQ, if_true, reduceIte, Nat.reduceEqDiff, eq_self]
    refine hK4 _ ?_
    clear hK4
    refine aw_ops zT fun K7 hK7 => ?_
    simp only [amset, amlib, zset, eq_self, ↓reduceIte, reduceCtorEq, Nat.reduceBEq, Nat.reduceEqDiff, Nat.reduceAdd, Nat.reduceMul, Nat.reduceLeDiff, Nat.reduceLT, Nat.reduceSub]
    refine ⟨by decide, ?_⟩
    have hq : ((n : Int).tdiv 10) = ((n / 10 : Nat) : Int) := by rw [Int.tdiv_eq_ediv_of_nonneg (by omega)]; rfl
    have hw : IntKind.i64.wrap ((n / 10 : Nat) : Int) = ((n / 10 : Nat) : Int) := wrap_id _ (by omega) (by omega)
    rw [hq, hw]
    refine ⟨_, ih (n / 10) (by omega) (by omega), ?_⟩
    simp only [later]
    simp only [amset, amlib, zset, eq_self, ↓reduceIte, reduceCtorEq, Nat.reduceBEq, Nat.reduceEqDiff, Nat.reduceAdd, Nat.reduceMul, Nat.reduceLeDiff, Nat.reduceLT, Nat.reduceSub]
    refine ⟨by decide, ?_⟩
    have hr : ((n : Int).tmod 10) = ((n % 10 : Nat) : Int) := by rw [Int.tmod_eq_emod_of_nonneg (by omega)]; rfl
    rw [hr]
    refine ⟨_, ih (n % 10) (by omega) (by omega), ?_⟩
    simp only [later]
    simp only [amset, amlib, zset, eq_self, ↓reduceIte, reduceCtorEq, Nat.reduceBEq, Nat.reduceEqDiff, Nat.reduceAdd, Nat.reduceMul, Nat.reduceLeDiff, Nat.reduceLT, Nat.reduceSub]
    have l1 := numN_len (n / 10)
    have l2 := numN_len (n % 10)
    refine ⟨by omega, ?_⟩
    refine hK7 _ ?_
    clear hK7
    refine aw_ret ?_
    show resOf zG _ [.tmp 2] = some _
    simp only [amset, amlib, zset, eq_self, ↓reduceIte, reduceCtorEq, Nat.reduceBEq, Nat.reduceEqDiff, Nat.reduceAdd, Nat.reduceMul, Nat.reduceLeDiff, Nat.reduceLT, Nat.reduceSub]
    rw [numN_ge hlt]
theorem holds91 (n : Nat) (hn : n ≤ 4611686018427387904) : Holds Tryz.prog zG 91 [.c (.int .i64 (n : Nat))] [.c (.str (numN n))] := step91 n hn fun m hm hb => holds91 m hb
  termination_by n
  decreasing_by exact hm
end Go.Proofs.Am
