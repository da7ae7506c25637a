/- Part 8 of a proof that the law holds of every input of the given bulk. -/
import Derived.Test.YtfflfbhnedkppaaGreatDoorPart06
import Derived.Test.YtfflfbhnedkppaaGreatDoorPart04
import Derived.Test.YtfflfbhnedkppaaGreatDoorPart00
import Derived.ChangeShapes
import Derived.DataReads
import Derived.Test.YtfflfbhnedkppaaGreatDoorPart07
import Derived.Test.YtfflfbhnedkppaaGreatDoorRows
import Derived.RowKit
import Derived.ChangeSame
import Derived.Carry
import Derived.WideKeyArgs
import Derived.Test.YtfflfbhnedkppaaGreatDoorPart05
set_option autoImplicit false
set_option linter.unusedSimpArgs false
set_option linter.unusedVariables false
set_option linter.unusedSectionVars false
set_option maxRecDepth 100000
set_option maxHeartbeats 4000000
namespace Go.Proofs.Am
def allL : List St → List Ex
  | [] => []
  | s :: r => subL s.args ++ allL r
theorem allL_append (a b : List St) : allL (a ++ b) = allL a ++ allL b := by
  induction a with
  | nil => rfl
  | cons x r ih => simp [allL, ih]
theorem prog40 : Tryz.prog.funcs[40]? = some Tryz.f40 := by kernel_rfl
theorem holds40 (l : List St) (hs : (stmL l).length ≤ 1000000000000) (hb : (allL (stmL l)).length ≤ 1000000000000) : Holds Tryz.prog zG 40 [.c (.sl 7 (encSs l))] [.c (.sl 6 (encEs (allL (stmL l))))] := by
  refine holds_of_body zT prog40 rfl rfl rfl (by simp [Tryz.f40]) ?_
  refine aw_ops zT fun K1 hK1 => ?_
  simp only [amset, amlib, zset, eq_self, ↓reduceIte, reduceCtorEq, Nat.reduceBEq, Nat.reduceEqDiff, Nat.reduceAdd, Nat.reduceMul, Nat.reduceLeDiff, Nat.reduceLT, Nat.reduceSub]
  refine hK1 _ ?_
  clear hK1
  refine aw_ops zT fun K2 hK2 => ?_
  simp only [amset, amlib, zset, eq_self, ↓reduceIte, reduceCtorEq, Nat.reduceBEq, Nat.reduceEqDiff, Nat.reduceAdd, Nat.reduceMul, Nat.reduceLeDiff, Nat.reduceLT, Nat.reduceSub]
  refine hK2 _ ?_
  clear hK2
  refine aw_seq fun K3 hK3 => ?_
  refine aw_ops zT fun K4 hK4 => ?_
  simp only [amset, amlib, zset, eq_self, ↓reduceIte, reduceCtorEq, Nat.reduceBEq, Nat.reduceEqDiff, Nat.reduceAdd, Nat.reduceMul, Nat.reduceLeDiff, Nat.reduceLT, Nat.reduceSub]
  refine ⟨_, holds46 l hs, ?_⟩
  simp only [later]
  simp only [amset, amlib, zset, eq_self, ↓reduceIte, reduceCtorEq, Nat.reduceBEq, Nat.reduceEqDiff, Nat.reduceAdd, Nat.reduceMul, Nat.reduceLeDiff, Nat.reduceLT, Nat.reduceSub]
  intros
  refine hK4 _ ?_
  clear hK4
  refine aw_block ?_
  refine aw_retag 3 0 1003 (by simp only [amset, amlib, zset, eq_self, ↓reduceIte, reduceCtorEq, Nat.reduceBEq, Nat.reduceEqDiff, Nat.reduceAdd, Nat.reduceMul, Nat.reduceLeDiff, Nat.reduceLT, Nat.reduceSub]) ?_
  refine aw_norm (by simp only [amset, amlib, zset, eq_self, ↓reduceIte, reduceCtorEq, Nat.reduceBEq, Nat.reduceEqDiff, Nat.reduceAdd, Nat.reduceMul, Nat.reduceLeDiff, Nat.reduceLT, Nat.reduceSub]; exact rfl) ?_
  refine aw_range (α := St) (stmL l) (fun dn => True) (fun dn => [(3, .cell (.own 1003 0 32 6 (encEs (allL dn)))), (11, .cell (.c (.int .i64 dn.length)))]) (fun dn => []) [1003] [3, 5, 7, 11, 12, 13, 14, 15, 16, 17, 18, 19, 20, 21, 22, 23, 24, 25, 26, 27] [5, 7] trivial ?_ ?_ ?_ ?_
  · simp only [amset, amlib, zset, eq_self, ↓reduceIte, reduceCtorEq, Nat.reduceBEq, Nat.reduceEqDiff, Nat.reduceAdd, Nat.reduceMul, Nat.reduceLeDiff, Nat.reduceLT, Nat.reduceSub] <;> simp [allL, allL_append, subL, subL_append, encEs_append, encEs_nil]
  · simp only [amset, amlib, zset, eq_self, ↓reduceIte, reduceCtorEq, Nat.reduceBEq, Nat.reduceEqDiff, Nat.reduceAdd, Nat.reduceMul, Nat.reduceLeDiff, Nat.reduceLT, Nat.reduceSub] <;> simp [allL, allL_append, subL, subL_append, encEs_append, encEs_nil]
  · intro hI R
    refine aw_norm (by simp only [amset, amlib, zset, eq_self, ↓reduceIte, reduceCtorEq, Nat.reduceBEq, Nat.reduceEqDiff, Nat.reduceAdd, Nat.reduceMul, Nat.reduceLeDiff, Nat.reduceLT, Nat.reduceSub]; exact rfl) ?_
    refine aw_ops zT fun K5 hK5 => ?_
    simp only [amset, amlib, zset, eq_self, ↓reduceIte, reduceCtorEq, Nat.reduceBEq, Nat.reduceEqDiff, Nat.reduceAdd, Nat.reduceMul, Nat.reduceLeDiff, Nat.reduceLT, Nat.reduceSub]
    refine hK5 _ ?_
    clear hK5
    refine aw_seq fun K6 hK6 => ?_
    refine aw_cond (t := false) (by simp [evalO, S.get, amLook]) (fun h => nomatch h) (fun _ => ?_)
    refine aw_exit ?_
    simp only [thenQ, blkQ, if_true, reduceIte, Nat.reduceEqDiff, eq_self]
    refine hK3 _ ?_
    clear hK3
    refine aw_ops zT fun K7 hK7 => ?_
    simp only [amset, amlib, zset, eq_self, ↓reduceIte, reduceCtorEq, Nat.reduceBEq, Nat.reduceEqDiff, Nat.reduceAdd, Nat.reduceMul, Nat.reduceLeDiff, Nat.reduceLT, Nat.reduceSub]
    refine hK7 _ ?_
    clear hK7
    refine aw_ret ?_
    show resOf zG _ [.tmp 2] = some _
    simp only [amset, amlib, zset, eq_self, ↓reduceIte, reduceCtorEq, Nat.reduceBEq, Nat.reduceEqDiff, Nat.reduceAdd, Nat.reduceMul, Nat.reduceLeDiff, Nat.reduceLT, Nat.reduceSub]
  · intro dn y td harg hI R hR
    have hl : (stmL l).length = dn.length + (td.length + 1) := by rw [harg]; simp
    have hmem : y ∈ stmL l := by rw [harg]; simp
    refine aw_norm (by simp only [amset, amlib, zset, eq_self, ↓reduceIte, reduceCtorEq, Nat.reduceBEq, Nat.reduceEqDiff, Nat.reduceAdd, Nat.reduceMul, Nat.reduceLeDiff, Nat.reduceLT, Nat.reduceSub]; exact rfl) ?_
    have hget : (encSs (stmL l)).getD dn.length [] = encS y := by rw [harg]; exact encSs_mid dn td y
    have h1 : (allL (stmL l)).length = (allL dn).length + (subL y.args).length + (allL td).length := by
      rw [harg, allL_append]
      simp [allL]
      omega
    refine aw_ops zT fun K8 hK8 => ?_
    simp only [amset, amlib, zset, eq_self, ↓reduceIte, reduceCtorEq, Nat.reduceBEq, Nat.reduceEqDiff, Nat.reduceAdd, Nat.reduceMul, Nat.reduceLeDiff, Nat.reduceLT, Nat.reduceSub]
    refine hK8 _ ?_
    clear hK8
    refine aw_seq fun K9 hK9 => ?_
    refine aw_cond (t := true) (by simp [evalO, S.get, amLook]; omega) (fun _ => ?_) (fun h => nomatch h)
    refine aw_skip ?_
    simp only [thenQ, blkQ, if_true, reduceIte, Nat.reduceEqDiff, eq_self]
    refine hK9 _ ?_
    clear hK9
    refine aw_seq fun K10 hK10 => ?_
    refine aw_block ?_
    refine aw_ops zT fun K11 hK11 => ?_
    simp only [amset, amlib, zset, hget, eq_self, ↓reduceIte, reduceCtorEq, Nat.reduceBEq, Nat.reduceEqDiff, Nat.reduceAdd, Nat.reduceMul, Nat.reduceLeDiff, Nat.reduceLT, Nat.reduceSub]
    refine ⟨⟨by omega, by omega⟩, ?_⟩
    refine hK11 _ ?_
    clear hK11
    refine aw_ops zT fun K12 hK12 => ?_
    simp only [amset, amlib, zset, eq_self, ↓reduceIte, reduceCtorEq, Nat.reduceBEq, Nat.reduceEqDiff, Nat.reduceAdd, Nat.reduceMul, Nat.reduceLeDiff, Nat.reduceLT, Nat.reduceSub]
    intros
    refine hK12 _ ?_
    clear hK12
    refine aw_block ?_
    refine aw_range (α := Ex) (y.args) (fun dn1 => True) (fun dn1 => [(3, .cell (.own 1003 0 32 6 (encEs (allL dn ++ subL dn1)))), (18, .cell (.c (.int .i64 dn1.length)))]) (fun dn1 => []) [1003] [3, 7, 18, 19, 20, 21, 22, 23, 24, 25, 26] [7] trivial ?_ ?_ ?_ ?_
    · simp only [amset, amlib, zset, eq_self, ↓reduceIte, reduceCtorEq, Nat.reduceBEq, Nat.reduceEqDiff, Nat.reduceAdd, Nat.reduceMul, Nat.reduceLeDiff, Nat.reduceLT, Nat.reduceSub] <;> simp [allL, allL_append, subL, subL_append, encEs_append, encEs_nil]
    · simp only [amset, amlib, zset, eq_self, ↓reduceIte, reduceCtorEq, Nat.reduceBEq, Nat.reduceEqDiff, Nat.reduceAdd, Nat.reduceMul, Nat.reduceLeDiff, Nat.reduceLT, Nat.reduceSub] <;> simp [allL, allL_append, subL, subL_append, encEs_append, encEs_nil]
    · intro hI1 R1
      refine aw_norm (by simp only [amset, amlib, zset, eq_self, ↓reduceIte, reduceCtorEq, Nat.reduceBEq, Nat.reduceEqDiff, Nat.reduceAdd, Nat.reduceMul, Nat.reduceLeDiff, Nat.reduceLT, Nat.reduceSub]; exact rfl) ?_
      refine aw_ops zT fun K13 hK13 => ?_
      simp only [amset, amlib, zset, eq_self, ↓reduceIte, reduceCtorEq, Nat.reduceBEq, Nat.reduceEqDiff, Nat.reduceAdd, Nat.reduceMul, Nat.reduceLeDiff, Nat.reduceLT, Nat.reduceSub]
      refine hK13 _ ?_
      clear hK13
      refine aw_seq fun K14 hK14 => ?_
      refine aw_cond (t := false) (by simp [evalO, S.get, amLook]) (fun h => nomatch h) (fun _ => ?_)
      refine aw_exit ?_
      simp only [thenQ, blkQ, if_true, reduceIte, Nat.reduceEqDiff, eq_self]
      refine hK10 _ ?_
      clear hK10
      refine aw_region zT ?_
      simp only [amset, amlib, zset, eq_self, ↓reduceIte, reduceCtorEq, Nat.reduceBEq, Nat.reduceEqDiff, Nat.reduceAdd, Nat.reduceMul, Nat.reduceLeDiff, Nat.reduceLT, Nat.reduceSub]
      refine ⟨⟨by omega, by omega⟩, ?_⟩
      refine hR _ trivial ?_
      refine Reach.to ?_ ?_
      · simp only [amset, amlib, zset, eq_self, ↓reduceIte, reduceCtorEq, Nat.reduceBEq, Nat.reduceEqDiff, Nat.reduceAdd, Nat.reduceMul, Nat.reduceLeDiff, Nat.reduceLT, Nat.reduceSub] <;> simp [allL, allL_append, subL, subL_append, encEs_append, encEs_nil]
      · simp only [amset, amlib, zset, eq_self, ↓reduceIte, reduceCtorEq, Nat.reduceBEq, Nat.reduceEqDiff, Nat.reduceAdd, Nat.reduceMul, Nat.reduceLeDiff, Nat.reduceLT, Nat.reduceSub] <;> simp [allL, allL_append, subL, subL_append, encEs_append, encEs_nil]
    · intro dn1 y1 td1 harg1 hI1 R1 hR1
      have hl1 : (y.args).length = dn1.length + (td1.length + 1) := by rw [harg1]; simp
      have hmem1 : y1 ∈ y.args := by rw [harg1]; simp
      refine aw_norm (by simp only [amset, amlib, zset, eq_self, ↓reduceIte, reduceCtorEq, Nat.reduceBEq, Nat.reduceEqDiff, Nat.reduceAdd, Nat.reduceMul, Nat.reduceLeDiff, Nat.reduceLT, Nat.reduceSub]; exact rfl) ?_
      have hget1 : (encEs (y.args)).getD dn1.length [] = encE y1 := by rw [harg1]; exact encEs_mid dn1 td1 y1
      have h2 : (subL y.args).length = (subL dn1).length + (subE y1).length + (subL td1).length := by
        rw [harg1, subL_append]
        simp [subL]
        omega
      refine aw_ops zT fun K15 hK15 => ?_
      simp only [amset, amlib, zset, eq_self, ↓reduceIte, reduceCtorEq, Nat.reduceBEq, Nat.reduceEqDiff, Nat.reduceAdd, Nat.reduceMul, Nat.reduceLeDiff, Nat.reduceLT, Nat.reduceSub]
      refine hK15 _ ?_
      clear hK15
      refine aw_seq fun K16 hK16 => ?_
      refine aw_cond (t := true) (by simp [evalO, S.get, amLook]; omega) (fun _ => ?_) (fun h => nomatch h)
      refine aw_skip ?_
      simp only [thenQ, blkQ, if_true, reduceIte, Nat.reduceEqDiff, eq_self]
      refine hK16 _ ?_
      clear hK16
      refine aw_seq fun K17 hK17 => ?_
      refine aw_block ?_
      refine aw_ops zT fun K18 hK18 => ?_
      simp only [amset, amlib, zset, hget1, eq_self, ↓reduceIte, reduceCtorEq, Nat.reduceBEq, Nat.reduceEqDiff, Nat.reduceAdd, Nat.reduceMul, Nat.reduceLeDiff, Nat.reduceLT, Nat.reduceSub]
      refine ⟨⟨by omega, by omega⟩, ?_⟩
      refine hK18 _ ?_
      clear hK18
      refine aw_region zT ?_
      simp only [amset, amlib, zset, eq_self, ↓reduceIte, reduceCtorEq, Nat.reduceBEq, Nat.reduceEqDiff, Nat.reduceAdd, Nat.reduceMul, Nat.reduceLeDiff, Nat.reduceLT, Nat.reduceSub]
      refine ⟨_, holds19 y1 (by omega), ?_⟩
      simp only [later]
      simp only [amset, amlib, zset, eq_self, ↓reduceIte, reduceCtorEq, Nat.reduceBEq, Nat.reduceEqDiff, Nat.reduceAdd, Nat.reduceMul, Nat.reduceLeDiff, Nat.reduceLT, Nat.reduceSub]
      refine ⟨⟨encEs_rows _, by omega⟩, ?_⟩
      refine hK17 _ ?_
      clear hK17
      refine aw_region zT ?_
      simp only [amset, amlib, zset, eq_self, ↓reduceIte, reduceCtorEq, Nat.reduceBEq, Nat.reduceEqDiff, Nat.reduceAdd, Nat.reduceMul, Nat.reduceLeDiff, Nat.reduceLT, Nat.reduceSub]
      refine ⟨⟨by omega, by omega⟩, ?_⟩
      refine hR1 _ trivial ?_
      refine Reach.trans (Reach.retag 25 0 1003 ?_) (Reach.to ?_ ?_)
      · simp only [amset, amlib, zset, eq_self, ↓reduceIte, reduceCtorEq, Nat.reduceBEq, Nat.reduceEqDiff, Nat.reduceAdd, Nat.reduceMul, Nat.reduceLeDiff, Nat.reduceLT, Nat.reduceSub]
      · simp only [amset, amlib, zset, eq_self, ↓reduceIte, reduceCtorEq, Nat.reduceBEq, Nat.reduceEqDiff, Nat.reduceAdd, Nat.reduceMul, Nat.reduceLeDiff, Nat.reduceLT, Nat.reduceSub] <;> simp [allL, allL_append, subL, subL_append, encEs_append, encEs_nil]
      · simp only [amset, amlib, zset, eq_self, ↓reduceIte, reduceCtorEq, Nat.reduceBEq, Nat.reduceEqDiff, Nat.reduceAdd, Nat.reduceMul, Nat.reduceLeDiff, Nat.reduceLT, Nat.reduceSub] <;> simp [allL, allL_append, subL, subL_append, encEs_append, encEs_nil]
end Go.Proofs.Am
set_option maxRecDepth 100000
set_option maxHeartbeats 4000000
namespace Go.Proofs.Am
def szB (l : List St) : Nat := (stmL l).length + (allL (stmL l)).length
def szT : List Tk → Nat
  | [] => 0
  | t :: r => szB t.body + szT r
theorem szT_append (a b : List Tk) : szT (a ++ b) = szT a + szT b := by
  induction a with
  | nil => simp [szT]
  | cons x r ih => simp [szT, ih]; omega
theorem prog61 : Tryz.prog.funcs[61]? = some Tryz.f61 := by kernel_rfl
theorem holds61 (p : Pg) (hb : szT p.tasks ≤ 1000000000000) : Holds Tryz.prog zG 61 [.agg [.sl 3 (encCs p.consts), .sl 4 (encGs p.globals), .sl 1 (encStrs p.sensors), .sl 1 (encStrs p.outputs), .sl 3 (encHs p.channels), .sl 8 (encTs p.tasks)]] [.c (.int .i64 (szT p.tasks))] := by
  refine holds_of_body zT prog61 rfl rfl rfl (by simp [Tryz.f61]) ?_
  refine aw_ops zT fun K1 hK1 => ?_
  simp only [amset, amlib, zset, eq_self, ↓reduceIte, reduceCtorEq, Nat.reduceBEq, Nat.reduceEqDiff, Nat.reduceAdd, Nat.reduceMul, Nat.reduceLeDiff, Nat.reduceLT, Nat.reduceSub]
  refine hK1 _ ?_
  clear hK1
  refine aw_ops zT fun K2 hK2 => ?_
  simp only [amset, amlib, zset, eq_self, ↓reduceIte, reduceCtorEq, Nat.reduceBEq, Nat.reduceEqDiff, Nat.reduceAdd, Nat.reduceMul, Nat.reduceLeDiff, Nat.reduceLT, Nat.reduceSub]
  refine hK2 _ ?_
  clear hK2
  refine aw_seq fun K3 hK3 => ?_
  refine aw_ops zT fun K4 hK4 => ?_
  simp only [amset, amlib, zset, eq_self, ↓reduceIte, reduceCtorEq, Nat.reduceBEq, Nat.reduceEqDiff, Nat.reduceAdd, Nat.reduceMul, Nat.reduceLeDiff, Nat.reduceLT, Nat.reduceSub]
  intros
  refine hK4 _ ?_
  clear hK4
  refine aw_block ?_
  refine aw_range (α := Tk) (p.tasks) (fun dn => True) (fun dn => [(3, .cell (.c (.int .i64 (szT dn : Nat)))), (9, .cell (.c (.int .i64 dn.length)))]) (fun dn => []) [] [3, 5, 9, 10, 11, 12, 13, 14, 15, 16, 17, 18, 19, 20, 21, 22, 23, 24] [5] trivial ?_ ?_ ?_ ?_
  · simp only [amset, amlib, zset, eq_self, ↓reduceIte, reduceCtorEq, Nat.reduceBEq, Nat.reduceEqDiff, Nat.reduceAdd, Nat.reduceMul, Nat.reduceLeDiff, Nat.reduceLT, Nat.reduceSub] <;> simp [szT, szT_append, szB, Int.natCast_add, Int.add_assoc]
  · simp only [amset, amlib, zset, eq_self, ↓reduceIte, reduceCtorEq, Nat.reduceBEq, Nat.reduceEqDiff, Nat.reduceAdd, Nat.reduceMul, Nat.reduceLeDiff, Nat.reduceLT, Nat.reduceSub] <;> simp [szT, szT_append, szB, Int.natCast_add, Int.add_assoc]
  · intro hI R
    refine aw_norm (by simp only [amset, amlib, zset, eq_self, ↓reduceIte, reduceCtorEq, Nat.reduceBEq, Nat.reduceEqDiff, Nat.reduceAdd, Nat.reduceMul, Nat.reduceLeDiff, Nat.reduceLT, Nat.reduceSub]; exact rfl) ?_
    refine aw_ops zT fun K5 hK5 => ?_
    simp only [amset, amlib, zset, eq_self, ↓reduceIte, reduceCtorEq, Nat.reduceBEq, Nat.reduceEqDiff, Nat.reduceAdd, Nat.reduceMul, Nat.reduceLeDiff, Nat.reduceLT, Nat.reduceSub]
    refine hK5 _ ?_
    clear hK5
    refine aw_seq fun K6 hK6 => ?_
    refine aw_cond (t := false) (by simp [evalO, S.get, amLook]) (fun h => nomatch h) (fun _ => ?_)
    refine aw_exit ?_
    simp only [thenQ, blkQ, if_true, reduceIte, Nat.reduceEqDiff, eq_self]
    refine hK3 _ ?_
    clear hK3
    refine aw_ops zT fun K7 hK7 => ?_
    simp only [amset, amlib, zset, eq_self, ↓reduceIte, reduceCtorEq, Nat.reduceBEq, Nat.reduceEqDiff, Nat.reduceAdd, Nat.reduceMul, Nat.reduceLeDiff, Nat.reduceLT, Nat.reduceSub]
    refine hK7 _ ?_
    clear hK7
    refine aw_ret ?_
    show resOf zG _ [.tmp 2] = some _
    simp only [amset, amlib, zset, eq_self, ↓reduceIte, reduceCtorEq, Nat.reduceBEq, Nat.reduceEqDiff, Nat.reduceAdd, Nat.reduceMul, Nat.reduceLeDiff, Nat.reduceLT, Nat.reduceSub]
  · intro dn y td harg hI R hR
    have hl : (p.tasks).length = dn.length + (td.length + 1) := by rw [harg]; simp
    have hmem : y ∈ p.tasks := by rw [harg]; simp
    refine aw_norm (by simp only [amset, amlib, zset, eq_self, ↓reduceIte, reduceCtorEq, Nat.reduceBEq, Nat.reduceEqDiff, Nat.reduceAdd, Nat.reduceMul, Nat.reduceLeDiff, Nat.reduceLT, Nat.reduceSub]; exact rfl) ?_
    have hget : (encTs (p.tasks)).getD dn.length [] = encT y := by rw [harg]; exact encTs_mid dn td y
    have h1 : szT p.tasks = szT dn + ((stmL y.body).length + (allL (stmL y.body)).length) + szT td := by
      rw [harg, szT_append]
      simp [szT, szB]
      omega
    refine aw_ops zT fun K8 hK8 => ?_
    simp only [amset, amlib, zset, eq_self, ↓reduceIte, reduceCtorEq, Nat.reduceBEq, Nat.reduceEqDiff, Nat.reduceAdd, Nat.reduceMul, Nat.reduceLeDiff, Nat.reduceLT, Nat.reduceSub]
    refine hK8 _ ?_
    clear hK8
    refine aw_seq fun K9 hK9 => ?_
    refine aw_cond (t := true) (by simp [evalO, S.get, amLook]; omega) (fun _ => ?_) (fun h => nomatch h)
    refine aw_skip ?_
    simp only [thenQ, blkQ, if_true, reduceIte, Nat.reduceEqDiff, eq_self]
    refine hK9 _ ?_
    clear hK9
    refine aw_seq fun K10 hK10 => ?_
    refine aw_block ?_
    refine aw_ops zT fun K11 hK11 => ?_
    simp only [amset, amlib, zset, hget, eq_self, ↓reduceIte, reduceCtorEq, Nat.reduceBEq, Nat.reduceEqDiff, Nat.reduceAdd, Nat.reduceMul, Nat.reduceLeDiff, Nat.reduceLT, Nat.reduceSub]
    refine ⟨⟨by omega, by omega⟩, ?_⟩
    refine hK11 _ ?_
    clear hK11
    refine aw_draw_region zT prog_mixed ?_
    simp only [amset, amlib, zset, eq_self, ↓reduceIte, reduceCtorEq, Nat.reduceBEq, Nat.reduceEqDiff, Nat.reduceAdd, Nat.reduceMul, Nat.reduceLeDiff, Nat.reduceLT, Nat.reduceSub]
    refine ⟨_, holds46 y.body (by omega), ?_⟩
    simp only [later]
    simp only [amset, amlib, zset, eq_self, ↓reduceIte, reduceCtorEq, Nat.reduceBEq, Nat.reduceEqDiff, Nat.reduceAdd, Nat.reduceMul, Nat.reduceLeDiff, Nat.reduceLT, Nat.reduceSub]
    intros
    refine ⟨⟨by omega, by omega⟩, ?_⟩
    refine ⟨_, holds40 y.body (by omega) (by omega), ?_⟩
    simp only [later]
    simp only [amset, amlib, zset, eq_self, ↓reduceIte, reduceCtorEq, Nat.reduceBEq, Nat.reduceEqDiff, Nat.reduceAdd, Nat.reduceMul, Nat.reduceLeDiff, Nat.reduceLT, Nat.reduceSub]
    intros
    refine ⟨⟨by omega, by omega⟩, ?_⟩
    refine ⟨by kernel_rfl, ?_⟩
    refine hK10 _ ?_
    clear hK10
    refine aw_region zT ?_
    simp only [amset, amlib, zset, eq_self, ↓reduceIte, reduceCtorEq, Nat.reduceBEq, Nat.reduceEqDiff, Nat.reduceAdd, Nat.reduceMul, Nat.reduceLeDiff, Nat.reduceLT, Nat.reduceSub]
    refine ⟨⟨by omega, by omega⟩, ?_⟩
    refine hR _ trivial ?_
    refine Reach.to ?_ ?_
    · simp only [amset, amlib, zset, eq_self, ↓reduceIte, reduceCtorEq, Nat.reduceBEq, Nat.reduceEqDiff, Nat.reduceAdd, Nat.reduceMul, Nat.reduceLeDiff, Nat.reduceLT, Nat.reduceSub] <;> simp [szT, szT_append, szB, Int.natCast_add, Int.add_assoc]
    · simp only [amset, amlib, zset, eq_self, ↓reduceIte, reduceCtorEq, Nat.reduceBEq, Nat.reduceEqDiff, Nat.reduceAdd, Nat.reduceMul, Nat.reduceLeDiff, Nat.reduceLT, Nat.reduceSub] <;> simp [szT, szT_append, szB, Int.natCast_add, Int.add_assoc]
end Go.Proofs.Am
set_option maxRecDepth 100000
set_option maxHeartbeats 4000000
namespace Go.Proofs.Am
mutual
def depE : Ex → Nat
  | .mk _ _ _ _ a _ => depL a + 1
def depL : List Ex → Nat
  | [] => 0
  | x :: r => max (depE x) (depL r)
end
theorem depE_eq (x : Ex) : depE x = depL x.args + 1 := by cases x; rfl
theorem depL_append (a b : List Ex) : depL (a ++ b) = max (depL a) (depL b) := by
  induction a with
  | nil => simp [depL]
  | cons x r ih => simp [depL, ih, Nat.max_assoc]
theorem max_nat (a b : Nat) : (if a < b then ((b : Nat) : Int) else ((a : Nat) : Int)) = ((max a b : Nat) : Int) := by
  split <;> omega
theorem max_cast (a b : Nat) : (if (b : Int) > (a : Int) then (b : Int) else (a : Int)) = ((max a b : Nat) : Int) := by
  split <;> omega
theorem max_cast' (a b : Nat) : (if (a : Int) < (b : Int) then (b : Int) else (a : Int)) = ((max a b : Nat) : Int) := by
  split <;> omega
theorem depL_mem {x : Ex} {l : List Ex} (h : x ∈ l) : depE x ≤ depL l := by
  induction l with
  | nil => cases h
  | cons y r ih =>
    rcases List.mem_cons.1 h with rfl | h
    · simp [depL]; omega
    · have := ih h; simp [depL]; omega
theorem prog192 : Tryz.prog.funcs[192]? = some Tryz.f192 := by kernel_rfl
theorem step192 (x : Ex) (hb : depE x ≤ 1000000000000) (ih : ∀ y ∈ x.args, depE y ≤ 1000000000000 → Holds Tryz.prog zG 192 [.agg [.int .i64 y.kind, .str y.name, .int .i16 y.value, .int .i64 y.op, .sl 6 (encEs y.args), .int .i64 y.pos]] [.c (.int .i64 (depE y))]) : Holds Tryz.prog zG 192 [.agg [.int .i64 x.kind, .str x.name, .int .i16 x.value, .int .i64 x.op, .sl 6 (encEs x.args), .int .i64 x.pos]] [.c (.int .i64 (depE x))] := by
  refine holds_of_body zT prog192 rfl rfl rfl (by simp [Tryz.f192]) ?_
  refine aw_ops zT fun K1 hK1 => ?_
  simp only [amset, amlib, zset, eq_self, ↓reduceIte, reduceCtorEq, Nat.reduceBEq, Nat.reduceEqDiff, Nat.reduceAdd, Nat.reduceMul, Nat.reduceLeDiff, Nat.reduceLT, Nat.reduceSub]
  refine hK1 _ ?_
  clear hK1
  refine aw_ops zT fun K2 hK2 => ?_
  simp only [amset, amlib, zset, eq_self, ↓reduceIte, reduceCtorEq, Nat.reduceBEq, Nat.reduceEqDiff, Nat.reduceAdd, Nat.reduceMul, Nat.reduceLeDiff, Nat.reduceLT, Nat.reduceSub]
  refine hK2 _ ?_
  clear hK2
  refine aw_seq fun K3 hK3 => ?_
  refine aw_ops zT fun K4 hK4 => ?_
  simp only [amset, amlib, zset, eq_self, ↓reduceIte, reduceCtorEq, Nat.reduceBEq, Nat.reduceEqDiff, Nat.reduceAdd, Nat.reduceMul, Nat.reduceLeDiff, Nat.reduceLT, Nat.reduceSub]
  intros
  refine hK4 _ ?_
  clear hK4
  refine aw_block ?_
  refine aw_range (α := Ex) (x.args) (fun dn => True) (fun dn => [(3, .cell (.c (.int .i64 (depL dn : Nat)))), (9, .cell (.c (.int .i64 dn.length)))]) (fun dn => []) [] [3, 5, 9, 10, 11, 12, 13, 14, 15, 16, 17] [5] trivial ?_ ?_ ?_ ?_
  · simp only [amset, amlib, zset, eq_self, ↓reduceIte, reduceCtorEq, Nat.reduceBEq, Nat.reduceEqDiff, Nat.reduceAdd, Nat.reduceMul, Nat.reduceLeDiff, Nat.reduceLT, Nat.reduceSub] <;> simp [depL, depL_append, max_cast, max_cast', max_nat, gt_iff_lt]
  · simp only [amset, amlib, zset, eq_self, ↓reduceIte, reduceCtorEq, Nat.reduceBEq, Nat.reduceEqDiff, Nat.reduceAdd, Nat.reduceMul, Nat.reduceLeDiff, Nat.reduceLT, Nat.reduceSub] <;> simp [depL, depL_append, max_cast, max_cast', max_nat, gt_iff_lt]
  · intro hI R
    refine aw_norm (by simp only [amset, amlib, zset, eq_self, ↓reduceIte, reduceCtorEq, Nat.reduceBEq, Nat.reduceEqDiff, Nat.reduceAdd, Nat.reduceMul, Nat.reduceLeDiff, Nat.reduceLT, Nat.reduceSub]; exact rfl) ?_
    refine aw_ops zT fun K5 hK5 => ?_
    simp only [amset, amlib, zset, eq_self, ↓reduceIte, reduceCtorEq, Nat.reduceBEq, Nat.reduceEqDiff, Nat.reduceAdd, Nat.reduceMul, Nat.reduceLeDiff, Nat.reduceLT, Nat.reduceSub]
    refine hK5 _ ?_
    clear hK5
    refine aw_seq fun K6 hK6 => ?_
    refine aw_cond (t := false) (by simp [evalO, S.get, amLook]) (fun h => nomatch h) (fun _ => ?_)
    refine aw_exit ?_
    simp only [thenQ, blkQ, if_true, reduceIte, Nat.reduceEqDiff, eq_self]
    refine hK3 _ ?_
    clear hK3
    refine aw_ops zT fun K7 hK7 => ?_
    simp only [amset, amlib, zset, eq_self, ↓reduceIte, reduceCtorEq, Nat.reduceBEq, Nat.reduceEqDiff, Nat.reduceAdd, Nat.reduceMul, Nat.reduceLeDiff, Nat.reduceLT, Nat.reduceSub]
    rw [depE_eq] at hb
    refine ⟨⟨by omega, by omega⟩, ?_⟩
    refine hK7 _ ?_
    clear hK7
    refine aw_ret ?_
    show resOf zG _ [.tmp 2] = some _
    simp only [amset, amlib, zset, eq_self, ↓reduceIte, reduceCtorEq, Nat.reduceBEq, Nat.reduceEqDiff, Nat.reduceAdd, Nat.reduceMul, Nat.reduceLeDiff, Nat.reduceLT, Nat.reduceSub]
    simp [depE_eq]
  · intro dn y td harg hI R hR
    have hl : (x.args).length = dn.length + (td.length + 1) := by rw [harg]; simp
    have hmem : y ∈ x.args := by rw [harg]; simp
    refine aw_norm (by simp only [amset, amlib, zset, eq_self, ↓reduceIte, reduceCtorEq, Nat.reduceBEq, Nat.reduceEqDiff, Nat.reduceAdd, Nat.reduceMul, Nat.reduceLeDiff, Nat.reduceLT, Nat.reduceSub]; exact rfl) ?_
    have hget : (encEs (x.args)).getD dn.length [] = encE y := by rw [harg]; exact encEs_mid dn td y
    have hy := depL_mem hmem
    rw [depE_eq] at hb
    refine aw_ops zT fun K8 hK8 => ?_
    simp only [amset, amlib, zset, eq_self, ↓reduceIte, reduceCtorEq, Nat.reduceBEq, Nat.reduceEqDiff, Nat.reduceAdd, Nat.reduceMul, Nat.reduceLeDiff, Nat.reduceLT, Nat.reduceSub]
    refine hK8 _ ?_
    clear hK8
    refine aw_seq fun K9 hK9 => ?_
    refine aw_cond (t := true) (by simp [evalO, S.get, amLook]; omega) (fun _ => ?_) (fun h => nomatch h)
    refine aw_skip ?_
    simp only [thenQ, blkQ, if_true, reduceIte, Nat.reduceEqDiff, eq_self]
    refine hK9 _ ?_
    clear hK9
    refine aw_seq fun K10 hK10 => ?_
    refine aw_block ?_
    refine aw_ops zT fun K11 hK11 => ?_
    simp only [amset, amlib, zset, hget, eq_self, ↓reduceIte, reduceCtorEq, Nat.reduceBEq, Nat.reduceEqDiff, Nat.reduceAdd, Nat.reduceMul, Nat.reduceLeDiff, Nat.reduceLT, Nat.reduceSub]
    refine ⟨⟨by omega, by omega⟩, ?_⟩
    refine hK11 _ ?_
    clear hK11
    refine aw_region zT ?_
    simp only [amset, amlib, zset, eq_self, ↓reduceIte, reduceCtorEq, Nat.reduceBEq, Nat.reduceEqDiff, Nat.reduceAdd, Nat.reduceMul, Nat.reduceLeDiff, Nat.reduceLT, Nat.reduceSub]
    refine ⟨_, ih y hmem (by omega), ?_⟩
    simp only [later]
    simp only [amset, amlib, zset, eq_self, ↓reduceIte, reduceCtorEq, Nat.reduceBEq, Nat.reduceEqDiff, Nat.reduceAdd, Nat.reduceMul, Nat.reduceLeDiff, Nat.reduceLT, Nat.reduceSub]
    refine hK10 _ ?_
    clear hK10
    refine aw_region zT ?_
    simp only [amset, amlib, zset, eq_self, ↓reduceIte, reduceCtorEq, Nat.reduceBEq, Nat.reduceEqDiff, Nat.reduceAdd, Nat.reduceMul, Nat.reduceLeDiff, Nat.reduceLT, Nat.reduceSub]
    refine ⟨⟨by omega, by omega⟩, ?_⟩
    refine hR _ trivial ?_
    refine Reach.to ?_ ?_
    · simp only [amset, amlib, zset, eq_self, ↓reduceIte, reduceCtorEq, Nat.reduceBEq, Nat.reduceEqDiff, Nat.reduceAdd, Nat.reduceMul, Nat.reduceLeDiff, Nat.reduceLT, Nat.reduceSub] <;> simp [depL, depL_append, max_cast, max_cast', max_nat, gt_iff_lt]
    · simp only [amset, amlib, zset, eq_self, ↓reduceIte, reduceCtorEq, Nat.reduceBEq, Nat.reduceEqDiff, Nat.reduceAdd, Nat.reduceMul, Nat.reduceLeDiff, Nat.reduceLT, Nat.reduceSub] <;> simp [depL, depL_append, max_cast, max_cast', max_nat, gt_iff_lt]
theorem holds192 (x : Ex) (hb : depE x ≤ 1000000000000) : Holds Tryz.prog zG 192 [.agg [.int .i64 x.kind, .str x.name, .int .i16 x.value, .int .i64 x.op, .sl 6 (encEs x.args), .int .i64 x.pos]] [.c (.int .i64 (depE x))] := step192 x hb fun y hmem hb => holds192 y hb
  termination_by SizeOf.sizeOf x
  decreasing_by exact Ex.args_lt hmem
end Go.Proofs.Am
set_option maxRecDepth 100000
set_option maxHeartbeats 4000000
namespace Go.Proofs.Am
mutual
def depS : St → Nat
  | .mk _ _ _ a b e _ => max (max (depM b) (depM e)) (depL a) + 1
def depM : List St → Nat
  | [] => 0
  | x :: r => max (depS x) (depM r)
end
theorem depS_eq (x : St) : depS x = max (max (depM x.body) (depM x.els)) (depL x.args) + 1 := by cases x; rfl
theorem depM_append (a b : List St) : depM (a ++ b) = max (depM a) (depM b) := by
  induction a with
  | nil => simp [depM]
  | cons x r ih => simp [depM, ih, Nat.max_assoc]
theorem max_cast1 (a b : Nat) : (if ((b : Nat) : Int) + 1 > (a : Int) then (b : Int) + 1 else (a : Int)) = ((max a (b + 1) : Nat) : Int) := by
  split <;> omega
theorem depM_mem {x : St} {l : List St} (h : x ∈ l) : depS x ≤ depM l := by
  induction l with
  | nil => cases h
  | cons y r ih =>
    rcases List.mem_cons.1 h with rfl | h
    · simp [depM]; omega
    · have := ih h; simp [depM]; omega
theorem prog139 : Tryz.prog.funcs[139]? = some Tryz.f139 := by kernel_rfl
theorem step139 (l : List St) (hb : depM l ≤ 1000000000000) (ih : ∀ m : List St, SizeOf.sizeOf m < SizeOf.sizeOf l → depM m ≤ 1000000000000 → Holds Tryz.prog zG 139 [.c (.sl 7 (encSs m))] [.c (.int .i64 (depM m))]) : Holds Tryz.prog zG 139 [.c (.sl 7 (encSs l))] [.c (.int .i64 (depM l))] := by
  refine holds_of_body zT prog139 rfl rfl rfl (by simp [Tryz.f139]) ?_
  refine aw_ops zT fun K1 hK1 => ?_
  simp only [amset, amlib, zset, max_cast, max_cast1, eq_self, ↓reduceIte, reduceCtorEq, Nat.reduceBEq, Nat.reduceEqDiff, Nat.reduceAdd, Nat.reduceMul, Nat.reduceLeDiff, Nat.reduceLT, Nat.reduceSub]
  refine hK1 _ ?_
  clear hK1
  refine aw_ops zT fun K2 hK2 => ?_
  simp only [amset, amlib, zset, max_cast, max_cast1, eq_self, ↓reduceIte, reduceCtorEq, Nat.reduceBEq, Nat.reduceEqDiff, Nat.reduceAdd, Nat.reduceMul, Nat.reduceLeDiff, Nat.reduceLT, Nat.reduceSub]
  refine hK2 _ ?_
  clear hK2
  refine aw_seq fun K3 hK3 => ?_
  refine aw_ops zT fun K4 hK4 => ?_
  simp only [amset, amlib, zset, max_cast, max_cast1, eq_self, ↓reduceIte, reduceCtorEq, Nat.reduceBEq, Nat.reduceEqDiff, Nat.reduceAdd, Nat.reduceMul, Nat.reduceLeDiff, Nat.reduceLT, Nat.reduceSub]
  intros
  refine hK4 _ ?_
  clear hK4
  refine aw_block ?_
  refine aw_range (α := St) (l) (fun dn => True) (fun dn => [(3, .cell (.c (.int .i64 (depM dn : Nat)))), (11, .cell (.c (.int .i64 dn.length)))]) (fun dn => []) [] [3, 5, 6, 8, 11, 12, 13, 14, 15, 16, 17, 18, 19, 20, 21, 22, 23, 24, 25, 26, 27, 28, 29, 30, 31, 32, 33, 34, 35, 36, 37, 38] [5, 8] trivial ?_ ?_ ?_ ?_
  · simp only [amset, amlib, zset, max_cast, max_cast1, eq_self, ↓reduceIte, reduceCtorEq, Nat.reduceBEq, Nat.reduceEqDiff, Nat.reduceAdd, Nat.reduceMul, Nat.reduceLeDiff, Nat.reduceLT, Nat.reduceSub] <;> simp [depM, depM_append, depL, depL_append, depS_eq, Nat.max_assoc, Nat.max_comm, Nat.max_left_comm, max_cast, max_nat]
  · simp only [amset, amlib, zset, max_cast, max_cast1, eq_self, ↓reduceIte, reduceCtorEq, Nat.reduceBEq, Nat.reduceEqDiff, Nat.reduceAdd, Nat.reduceMul, Nat.reduceLeDiff, Nat.reduceLT, Nat.reduceSub] <;> simp [depM, depM_append, depL, depL_append, depS_eq, Nat.max_assoc, Nat.max_comm, Nat.max_left_comm, max_cast, max_nat]
  · intro hI R
    refine aw_norm (by simp only [amset, amlib, zset, max_cast, max_cast1, eq_self, ↓reduceIte, reduceCtorEq, Nat.reduceBEq, Nat.reduceEqDiff, Nat.reduceAdd, Nat.reduceMul, Nat.reduceLeDiff, Nat.reduceLT, Nat.reduceSub]; exact rfl) ?_
    refine aw_ops zT fun K5 hK5 => ?_
    simp only [amset, amlib, zset, max_cast, max_cast1, eq_self, ↓reduceIte, reduceCtorEq, Nat.reduceBEq, Nat.reduceEqDiff, Nat.reduceAdd, Nat.reduceMul, Nat.reduceLeDiff, Nat.reduceLT, Nat.reduceSub]
    refine hK5 _ ?_
    clear hK5
    refine aw_seq fun K6 hK6 => ?_
    refine aw_cond (t := false) (by simp [evalO, S.get, amLook]) (fun h => nomatch h) (fun _ => ?_)
    refine aw_exit ?_
    simp only [thenQ, blkQ, if_true, reduceIte, Nat.reduceEqDiff, eq_self]
    refine hK3 _ ?_
    clear hK3
    refine aw_ops zT fun K7 hK7 => ?_
    simp only [amset, amlib, zset, max_cast, max_cast1, eq_self, ↓reduceIte, reduceCtorEq, Nat.reduceBEq, Nat.reduceEqDiff, Nat.reduceAdd, Nat.reduceMul, Nat.reduceLeDiff, Nat.reduceLT, Nat.reduceSub]
    refine hK7 _ ?_
    clear hK7
    refine aw_ret ?_
    show resOf zG _ [.tmp 2] = some _
    simp only [amset, amlib, zset, max_cast, max_cast1, eq_self, ↓reduceIte, reduceCtorEq, Nat.reduceBEq, Nat.reduceEqDiff, Nat.reduceAdd, Nat.reduceMul, Nat.reduceLeDiff, Nat.reduceLT, Nat.reduceSub]
  · intro dn y td harg hI R hR
    have hl : (l).length = dn.length + (td.length + 1) := by rw [harg]; simp
    have hmem : y ∈ l := by rw [harg]; simp
    refine aw_norm (by simp only [amset, amlib, zset, max_cast, max_cast1, eq_self, ↓reduceIte, reduceCtorEq, Nat.reduceBEq, Nat.reduceEqDiff, Nat.reduceAdd, Nat.reduceMul, Nat.reduceLeDiff, Nat.reduceLT, Nat.reduceSub]; exact rfl) ?_
    have hget : (encSs (l)).getD dn.length [] = encS y := by rw [harg]; exact encSs_mid dn td y
    have hy := depM_mem hmem
    rw [depS_eq] at hy
    refine aw_ops zT fun K8 hK8 => ?_
    simp only [amset, amlib, zset, max_cast, max_cast1, eq_self, ↓reduceIte, reduceCtorEq, Nat.reduceBEq, Nat.reduceEqDiff, Nat.reduceAdd, Nat.reduceMul, Nat.reduceLeDiff, Nat.reduceLT, Nat.reduceSub]
    refine hK8 _ ?_
    clear hK8
    refine aw_seq fun K9 hK9 => ?_
    refine aw_cond (t := true) (by simp [evalO, S.get, amLook]; omega) (fun _ => ?_) (fun h => nomatch h)
    refine aw_skip ?_
    simp only [thenQ, blkQ, if_true, reduceIte, Nat.reduceEqDiff, eq_self]
    refine hK9 _ ?_
    clear hK9
    refine aw_seq fun K10 hK10 => ?_
    refine aw_block ?_
    refine aw_ops zT fun K11 hK11 => ?_
    simp only [amset, amlib, zset, hget, max_cast, max_cast1, eq_self, ↓reduceIte, reduceCtorEq, Nat.reduceBEq, Nat.reduceEqDiff, Nat.reduceAdd, Nat.reduceMul, Nat.reduceLeDiff, Nat.reduceLT, Nat.reduceSub]
    refine ⟨⟨by omega, by omega⟩, ?_⟩
    refine hK11 _ ?_
    clear hK11
    refine aw_draw zT prog_mixed fun K12 hK12 => ?_
    simp only [amset, amlib, zset, max_cast, max_cast1, eq_self, ↓reduceIte, reduceCtorEq, Nat.reduceBEq, Nat.reduceEqDiff, Nat.reduceAdd, Nat.reduceMul, Nat.reduceLeDiff, Nat.reduceLT, Nat.reduceSub]
    refine ⟨_, ih y.body (sizeOf_body hmem) (by omega), ?_⟩
    simp only [later]
    simp only [amset, amlib, zset, max_cast, max_cast1, eq_self, ↓reduceIte, reduceCtorEq, Nat.reduceBEq, Nat.reduceEqDiff, Nat.reduceAdd, Nat.reduceMul, Nat.reduceLeDiff, Nat.reduceLT, Nat.reduceSub]
    refine ⟨_, ih y.els (sizeOf_els hmem) (by omega), ?_⟩
    simp only [later]
    simp only [amset, amlib, zset, max_cast, max_cast1, eq_self, ↓reduceIte, reduceCtorEq, Nat.reduceBEq, Nat.reduceEqDiff, Nat.reduceAdd, Nat.reduceMul, Nat.reduceLeDiff, Nat.reduceLT, Nat.reduceSub]
    refine ⟨by kernel_rfl, ?_⟩
    refine hK12 _ ?_
    clear hK12
    refine aw_seq fun K13 hK13 => ?_
    refine aw_ops zT fun K14 hK14 => ?_
    simp only [amset, amlib, zset, max_cast, max_cast1, eq_self, ↓reduceIte, reduceCtorEq, Nat.reduceBEq, Nat.reduceEqDiff, Nat.reduceAdd, Nat.reduceMul, Nat.reduceLeDiff, Nat.reduceLT, Nat.reduceSub]
    intros
    refine hK14 _ ?_
    clear hK14
    refine aw_block ?_
    refine aw_range (α := Ex) (y.args) (fun dn1 => True) (fun dn1 => [(6, .cell (.c (.int .i64 (max (max (depM y.body) (depM y.els)) (depL dn1) : Nat)))), (25, .cell (.c (.int .i64 dn1.length)))]) (fun dn1 => []) [] [6, 8, 25, 26, 27, 28, 29, 30, 31, 32, 33] [8] trivial ?_ ?_ ?_ ?_
    · simp only [amset, amlib, zset, max_cast, max_cast1, eq_self, ↓reduceIte, reduceCtorEq, Nat.reduceBEq, Nat.reduceEqDiff, Nat.reduceAdd, Nat.reduceMul, Nat.reduceLeDiff, Nat.reduceLT, Nat.reduceSub] <;> simp [depM, depM_append, depL, depL_append, depS_eq, Nat.max_assoc, Nat.max_comm, Nat.max_left_comm, max_cast, max_nat]
    · simp only [amset, amlib, zset, max_cast, max_cast1, eq_self, ↓reduceIte, reduceCtorEq, Nat.reduceBEq, Nat.reduceEqDiff, Nat.reduceAdd, Nat.reduceMul, Nat.reduceLeDiff, Nat.reduceLT, Nat.reduceSub] <;> simp [depM, depM_append, depL, depL_append, depS_eq, Nat.max_assoc, Nat.max_comm, Nat.max_left_comm, max_cast, max_nat]
    · intro hI1 R1
      refine aw_norm (by simp only [amset, amlib, zset, max_cast, max_cast1, eq_self, ↓reduceIte, reduceCtorEq, Nat.reduceBEq, Nat.reduceEqDiff, Nat.reduceAdd, Nat.reduceMul, Nat.reduceLeDiff, Nat.reduceLT, Nat.reduceSub]; exact rfl) ?_
      refine aw_ops zT fun K15 hK15 => ?_
      simp only [amset, amlib, zset, max_cast, max_cast1, eq_self, ↓reduceIte, reduceCtorEq, Nat.reduceBEq, Nat.reduceEqDiff, Nat.reduceAdd, Nat.reduceMul, Nat.reduceLeDiff, Nat.reduceLT, Nat.reduceSub]
      refine hK15 _ ?_
      clear hK15
      refine aw_seq fun K16 hK16 => ?_
      refine aw_cond (t := false) (by simp [evalO, S.get, amLook]) (fun h => nomatch h) (fun _ => ?_)
      refine aw_exit ?_
      simp only [thenQ, blkQ, if_true, reduceIte, Nat.reduceEqDiff, eq_self]
      refine hK13 _ ?_
      clear hK13
      refine aw_region zT ?_
      simp only [amset, amlib, zset, max_cast, max_cast1, eq_self, ↓reduceIte, reduceCtorEq, Nat.reduceBEq, Nat.reduceEqDiff, Nat.reduceAdd, Nat.reduceMul, Nat.reduceLeDiff, Nat.reduceLT, Nat.reduceSub]
      refine ⟨⟨by omega, by omega⟩, ?_⟩
      refine hK10 _ ?_
      clear hK10
      refine aw_region zT ?_
      simp only [amset, amlib, zset, max_cast, max_cast1, eq_self, ↓reduceIte, reduceCtorEq, Nat.reduceBEq, Nat.reduceEqDiff, Nat.reduceAdd, Nat.reduceMul, Nat.reduceLeDiff, Nat.reduceLT, Nat.reduceSub]
      refine ⟨⟨by omega, by omega⟩, ?_⟩
      refine hR _ trivial ?_
      refine Reach.to ?_ ?_
      · simp only [amset, amlib, zset, max_cast, max_cast1, eq_self, ↓reduceIte, reduceCtorEq, Nat.reduceBEq, Nat.reduceEqDiff, Nat.reduceAdd, Nat.reduceMul, Nat.reduceLeDiff, Nat.reduceLT, Nat.reduceSub] <;> simp [depM, depM_append, depL, depL_append, depS_eq, Nat.max_assoc, Nat.max_comm, Nat.max_left_comm, max_cast, max_nat]
      · simp only [amset, amlib, zset, max_cast, max_cast1, eq_self, ↓reduceIte, reduceCtorEq, Nat.reduceBEq, Nat.reduceEqDiff, Nat.reduceAdd, Nat.reduceMul, Nat.reduceLeDiff, Nat.reduceLT, Nat.reduceSub] <;> simp [depM, depM_append, depL, depL_append, depS_eq, Nat.max_assoc, Nat.max_comm, Nat.max_left_comm, max_cast, max_nat]
    · intro dn1 y1 td1 harg1 hI1 R1 hR1
      have hl1 : (y.args).length = dn1.length + (td1.length + 1) := by rw [harg1]; simp
      have hmem1 : y1 ∈ y.args := by rw [harg1]; simp
      refine aw_norm (by simp only [amset, amlib, zset, max_cast, max_cast1, eq_self, ↓reduceIte, reduceCtorEq, Nat.reduceBEq, Nat.reduceEqDiff, Nat.reduceAdd, Nat.reduceMul, Nat.reduceLeDiff, Nat.reduceLT, Nat.reduceSub]; exact rfl) ?_
      have hget1 : (encEs (y.args)).getD dn1.length [] = encE y1 := by rw [harg1]; exact encEs_mid dn1 td1 y1
      have hy1 := depL_mem hmem1
      refine aw_ops zT fun K17 hK17 => ?_
      simp only [amset, amlib, zset, max_cast, max_cast1, eq_self, ↓reduceIte, reduceCtorEq, Nat.reduceBEq, Nat.reduceEqDiff, Nat.reduceAdd, Nat.reduceMul, Nat.reduceLeDiff, Nat.reduceLT, Nat.reduceSub]
      refine hK17 _ ?_
      clear hK17
      refine aw_seq fun K18 hK18 => ?_
      refine aw_cond (t := true) (by simp [evalO, S.get, amLook]; omega) (fun _ => ?_) (fun h => nomatch h)
      refine aw_skip ?_
      simp only [thenQ, blkQ, if_true, reduceIte, Nat.reduceEqDiff, eq_self]
      refine hK18 _ ?_
      clear hK18
      refine aw_seq fun K19 hK19 => ?_
      refine aw_block ?_
      refine aw_ops zT fun K20 hK20 => ?_
      simp only [amset, amlib, zset, hget1, max_cast, max_cast1, eq_self, ↓reduceIte, reduceCtorEq, Nat.reduceBEq, Nat.reduceEqDiff, Nat.reduceAdd, Nat.reduceMul, Nat.reduceLeDiff, Nat.reduceLT, Nat.reduceSub]
      refine ⟨⟨by omega, by omega⟩, ?_⟩
      refine hK20 _ ?_
      clear hK20
      refine aw_region zT ?_
      simp only [amset, amlib, zset, max_cast, max_cast1, eq_self, ↓reduceIte, reduceCtorEq, Nat.reduceBEq, Nat.reduceEqDiff, Nat.reduceAdd, Nat.reduceMul, Nat.reduceLeDiff, Nat.reduceLT, Nat.reduceSub]
      refine ⟨_, holds192 y1 (by omega), ?_⟩
      simp only [later]
      simp only [amset, amlib, zset, max_cast, max_cast1, eq_self, ↓reduceIte, reduceCtorEq, Nat.reduceBEq, Nat.reduceEqDiff, Nat.reduceAdd, Nat.reduceMul, Nat.reduceLeDiff, Nat.reduceLT, Nat.reduceSub]
      refine hK19 _ ?_
      clear hK19
      refine aw_region zT ?_
      simp only [amset, amlib, zset, max_cast, max_cast1, eq_self, ↓reduceIte, reduceCtorEq, Nat.reduceBEq, Nat.reduceEqDiff, Nat.reduceAdd, Nat.reduceMul, Nat.reduceLeDiff, Nat.reduceLT, Nat.reduceSub]
      refine ⟨⟨by omega, by omega⟩, ?_⟩
      refine hR1 _ trivial ?_
      refine Reach.to ?_ ?_
      · simp only [amset, amlib, zset, max_cast, max_cast1, eq_self, ↓reduceIte, reduceCtorEq, Nat.reduceBEq, Nat.reduceEqDiff, Nat.reduceAdd, Nat.reduceMul, Nat.reduceLeDiff, Nat.reduceLT, Nat.reduceSub] <;> simp [depM, depM_append, depL, depL_append, depS_eq, Nat.max_assoc, Nat.max_comm, Nat.max_left_comm, max_cast, max_nat]
      · simp only [amset, amlib, zset, max_cast, max_cast1, eq_self, ↓reduceIte, reduceCtorEq, Nat.reduceBEq, Nat.reduceEqDiff, Nat.reduceAdd, Nat.reduceMul, Nat.reduceLeDiff, Nat.reduceLT, Nat.reduceSub] <;> simp [depM, depM_append, depL, depL_append, depS_eq, Nat.max_assoc, Nat.max_comm, Nat.max_left_comm, max_cast, max_nat]
theorem holds139 (l : List St) (hb : depM l ≤ 1000000000000) : Holds Tryz.prog zG 139 [.c (.sl 7 (encSs l))] [.c (.int .i64 (depM l))] := step139 l hb fun m hm hb => holds139 m hb
  termination_by SizeOf.sizeOf l
  decreasing_by exact hm
end Go.Proofs.Am
set_option maxRecDepth 100000
set_option maxHeartbeats 4000000
namespace Go.Proofs.Am
def depT : List Tk → Nat
  | [] => 0
  | t :: r => max (depM t.body) (depT r)
theorem depT_append (a b : List Tk) : depT (a ++ b) = max (depT a) (depT b) := by
  induction a with
  | nil => simp [depT]
  | cons x r ih => simp [depT, ih, Nat.max_assoc]
theorem depT_mem {x : Tk} {l : List Tk} (h : x ∈ l) : depM x.body ≤ depT l := by
  induction l with
  | nil => cases h
  | cons y r ih =>
    rcases List.mem_cons.1 h with rfl | h
    · simp [depT]; omega
    · have := ih h; simp [depT]; omega
theorem prog62 : Tryz.prog.funcs[62]? = some Tryz.f62 := by kernel_rfl
theorem holds62 (p : Pg) (hb : depT p.tasks ≤ 1000000000000) : Holds Tryz.prog zG 62 [.agg [.sl 3 (encCs p.consts), .sl 4 (encGs p.globals), .sl 1 (encStrs p.sensors), .sl 1 (encStrs p.outputs), .sl 3 (encHs p.channels), .sl 8 (encTs p.tasks)]] [.c (.int .i64 (depT p.tasks))] := by
  refine holds_of_body zT prog62 rfl rfl rfl (by simp [Tryz.f62]) ?_
  refine aw_ops zT fun K1 hK1 => ?_
  simp only [amset, amlib, zset, max_cast, max_cast1, eq_self, ↓reduceIte, reduceCtorEq, Nat.reduceBEq, Nat.reduceEqDiff, Nat.reduceAdd, Nat.reduceMul, Nat.reduceLeDiff, Nat.reduceLT, Nat.reduceSub]
  refine hK1 _ ?_
  clear hK1
  refine aw_ops zT fun K2 hK2 => ?_
  simp only [amset, amlib, zset, max_cast, max_cast1, eq_self, ↓reduceIte, reduceCtorEq, Nat.reduceBEq, Nat.reduceEqDiff, Nat.reduceAdd, Nat.reduceMul, Nat.reduceLeDiff, Nat.reduceLT, Nat.reduceSub]
  refine hK2 _ ?_
  clear hK2
  refine aw_seq fun K3 hK3 => ?_
  refine aw_ops zT fun K4 hK4 => ?_
  simp only [amset, amlib, zset, max_cast, max_cast1, eq_self, ↓reduceIte, reduceCtorEq, Nat.reduceBEq, Nat.reduceEqDiff, Nat.reduceAdd, Nat.reduceMul, Nat.reduceLeDiff, Nat.reduceLT, Nat.reduceSub]
  intros
  refine hK4 _ ?_
  clear hK4
  refine aw_block ?_
  refine aw_range (α := Tk) (p.tasks) (fun dn => True) (fun dn => [(3, .cell (.c (.int .i64 (depT dn : Nat)))), (9, .cell (.c (.int .i64 dn.length)))]) (fun dn => []) [] [3, 5, 9, 10, 11, 12, 13, 14, 15, 16, 17, 18] [5] trivial ?_ ?_ ?_ ?_
  · simp only [amset, amlib, zset, max_cast, max_cast1, eq_self, ↓reduceIte, reduceCtorEq, Nat.reduceBEq, Nat.reduceEqDiff, Nat.reduceAdd, Nat.reduceMul, Nat.reduceLeDiff, Nat.reduceLT, Nat.reduceSub] <;> simp [depT, depT_append, max_cast, max_nat, Nat.max_comm]
  · simp only [amset, amlib, zset, max_cast, max_cast1, eq_self, ↓reduceIte, reduceCtorEq, Nat.reduceBEq, Nat.reduceEqDiff, Nat.reduceAdd, Nat.reduceMul, Nat.reduceLeDiff, Nat.reduceLT, Nat.reduceSub] <;> simp [depT, depT_append, max_cast, max_nat, Nat.max_comm]
  · intro hI R
    refine aw_norm (by simp only [amset, amlib, zset, max_cast, max_cast1, eq_self, ↓reduceIte, reduceCtorEq, Nat.reduceBEq, Nat.reduceEqDiff, Nat.reduceAdd, Nat.reduceMul, Nat.reduceLeDiff, Nat.reduceLT, Nat.reduceSub]; exact rfl) ?_
    refine aw_ops zT fun K5 hK5 => ?_
    simp only [amset, amlib, zset, max_cast, max_cast1, eq_self, ↓reduceIte, reduceCtorEq, Nat.reduceBEq, Nat.reduceEqDiff, Nat.reduceAdd, Nat.reduceMul, Nat.reduceLeDiff, Nat.reduceLT, Nat.reduceSub]
    refine hK5 _ ?_
    clear hK5
    refine aw_seq fun K6 hK6 => ?_
    refine aw_cond (t := false) (by simp [evalO, S.get, amLook]) (fun h => nomatch h) (fun _ => ?_)
    refine aw_exit ?_
    simp only [thenQ, blkQ, if_true, reduceIte, Nat.reduceEqDiff, eq_self]
    refine hK3 _ ?_
    clear hK3
    refine aw_ops zT fun K7 hK7 => ?_
    simp only [amset, amlib, zset, max_cast, max_cast1, eq_self, ↓reduceIte, reduceCtorEq, Nat.reduceBEq, Nat.reduceEqDiff, Nat.reduceAdd, Nat.reduceMul, Nat.reduceLeDiff, Nat.reduceLT, Nat.reduceSub]
    refine hK7 _ ?_
    clear hK7
    refine aw_ret ?_
    show resOf zG _ [.tmp 2] = some _
    simp only [amset, amlib, zset, max_cast, max_cast1, eq_self, ↓reduceIte, reduceCtorEq, Nat.reduceBEq, Nat.reduceEqDiff, Nat.reduceAdd, Nat.reduceMul, Nat.reduceLeDiff, Nat.reduceLT, Nat.reduceSub]
  · intro dn y td harg hI R hR
    have hl : (p.tasks).length = dn.length + (td.length + 1) := by rw [harg]; simp
    have hmem : y ∈ p.tasks := by rw [harg]; simp
    refine aw_norm (by simp only [amset, amlib, zset, max_cast, max_cast1, eq_self, ↓reduceIte, reduceCtorEq, Nat.reduceBEq, Nat.reduceEqDiff, Nat.reduceAdd, Nat.reduceMul, Nat.reduceLeDiff, Nat.reduceLT, Nat.reduceSub]; exact rfl) ?_
    have hget : (encTs (p.tasks)).getD dn.length [] = encT y := by rw [harg]; exact encTs_mid dn td y
    have hy := depT_mem hmem
    refine aw_ops zT fun K8 hK8 => ?_
    simp only [amset, amlib, zset, max_cast, max_cast1, eq_self, ↓reduceIte, reduceCtorEq, Nat.reduceBEq, Nat.reduceEqDiff, Nat.reduceAdd, Nat.reduceMul, Nat.reduceLeDiff, Nat.reduceLT, Nat.reduceSub]
    refine hK8 _ ?_
    clear hK8
    refine aw_seq fun K9 hK9 => ?_
    refine aw_cond (t := true) (by simp [evalO, S.get, amLook]; omega) (fun _ => ?_) (fun h => nomatch h)
    refine aw_skip ?_
    simp only [thenQ, blkQ, if_true, reduceIte, Nat.reduceEqDiff, eq_self]
    refine hK9 _ ?_
    clear hK9
    refine aw_seq fun K10 hK10 => ?_
    refine aw_block ?_
    refine aw_ops zT fun K11 hK11 => ?_
    simp only [amset, amlib, zset, hget, max_cast, max_cast1, eq_self, ↓reduceIte, reduceCtorEq, Nat.reduceBEq, Nat.reduceEqDiff, Nat.reduceAdd, Nat.reduceMul, Nat.reduceLeDiff, Nat.reduceLT, Nat.reduceSub]
    refine ⟨⟨by omega, by omega⟩, ?_⟩
    refine hK11 _ ?_
    clear hK11
    refine aw_region zT ?_
    simp only [amset, amlib, zset, max_cast, max_cast1, eq_self, ↓reduceIte, reduceCtorEq, Nat.reduceBEq, Nat.reduceEqDiff, Nat.reduceAdd, Nat.reduceMul, Nat.reduceLeDiff, Nat.reduceLT, Nat.reduceSub]
    refine ⟨_, holds139 y.body (by omega), ?_⟩
    simp only [later]
    simp only [amset, amlib, zset, max_cast, max_cast1, eq_self, ↓reduceIte, reduceCtorEq, Nat.reduceBEq, Nat.reduceEqDiff, Nat.reduceAdd, Nat.reduceMul, Nat.reduceLeDiff, Nat.reduceLT, Nat.reduceSub]
    refine hK10 _ ?_
    clear hK10
    refine aw_region zT ?_
    simp only [amset, amlib, zset, max_cast, max_cast1, eq_self, ↓reduceIte, reduceCtorEq, Nat.reduceBEq, Nat.reduceEqDiff, Nat.reduceAdd, Nat.reduceMul, Nat.reduceLeDiff, Nat.reduceLT, Nat.reduceSub]
    refine ⟨⟨by omega, by omega⟩, ?_⟩
    refine hR _ trivial ?_
    refine Reach.to ?_ ?_
    · simp only [amset, amlib, zset, max_cast, max_cast1, eq_self, ↓reduceIte, reduceCtorEq, Nat.reduceBEq, Nat.reduceEqDiff, Nat.reduceAdd, Nat.reduceMul, Nat.reduceLeDiff, Nat.reduceLT, Nat.reduceSub] <;> simp [depT, depT_append, max_cast, max_nat, Nat.max_comm]
    · simp only [amset, amlib, zset, max_cast, max_cast1, eq_self, ↓reduceIte, reduceCtorEq, Nat.reduceBEq, Nat.reduceEqDiff, Nat.reduceAdd, Nat.reduceMul, Nat.reduceLeDiff, Nat.reduceLT, Nat.reduceSub] <;> simp [depT, depT_append, max_cast, max_nat, Nat.max_comm]
end Go.Proofs.Am
set_option maxRecDepth 100000
set_option maxHeartbeats 4000000
namespace Go.Proofs.Am
def smallP (p : Pg) : Bool := decide ((p.consts.length : Int) ≤ 20) && decide ((p.globals.length : Int) ≤ 20) && decide ((p.sensors.length : Int) ≤ 20) && decide ((p.outputs.length : Int) ≤ 20) && decide ((p.channels.length : Int) ≤ 20) && decide ((p.tasks.length : Int) ≤ 6) && decide ((szT p.tasks : Int) ≤ 300) && decide ((depT p.tasks : Int) ≤ 30)
theorem prog18 : Tryz.prog.funcs[18]? = some Tryz.f18 := by kernel_rfl
theorem holds18 (p : Pg) (hb : szT p.tasks ≤ 1000000000000) (hd : depT p.tasks ≤ 1000000000000) : Holds Tryz.prog zG 18 [.agg [.sl 3 (encCs p.consts), .sl 4 (encGs p.globals), .sl 1 (encStrs p.sensors), .sl 1 (encStrs p.outputs), .sl 3 (encHs p.channels), .sl 8 (encTs p.tasks)]] [.c (.bool (smallP p))] := by
  refine holds_of_body zT prog18 rfl rfl rfl (by simp [Tryz.f18]) ?_
  refine aw_ops zT fun K1 hK1 => ?_
  simp only [amset, amlib, zset, eq_self, ↓reduceIte, reduceCtorEq, Nat.reduceBEq, Nat.reduceEqDiff, Nat.reduceAdd, Nat.reduceMul, Nat.reduceLeDiff, Nat.reduceLT, Nat.reduceSub]
  refine hK1 _ ?_
  clear hK1
  cases g0 : decide ((p.consts.length : Int) ≤ 20) with
  | true =>
    cases g1 : decide ((p.globals.length : Int) ≤ 20) with
    | true =>
      cases g2 : decide ((p.sensors.length : Int) ≤ 20) with
      | true =>
        cases g3 : decide ((p.outputs.length : Int) ≤ 20) with
        | true =>
          cases g4 : decide ((p.channels.length : Int) ≤ 20) with
          | true =>
            cases g5 : decide ((p.tasks.length : Int) ≤ 6) with
            | true =>
              cases g6 : decide ((szT p.tasks : Int) ≤ 300) with
              | true =>
                cases g7 : decide ((depT p.tasks : Int) ≤ 30) with
                | true =>
                  refine aw_ops zT fun K2 hK2 => ?_
                  simp only [amset, amlib, zset, g0, g1, g2, g3, g4, g5, g6, g7, eq_self, ↓reduceIte, reduceCtorEq, Nat.reduceBEq, Nat.reduceEqDiff, Nat.reduceAdd, Nat.reduceMul, Nat.reduceLeDiff, Nat.reduceLT, Nat.reduceSub]
                  intros
                  intros
                  intros
                  intros
                  intros
                  intros
                  refine ⟨_, holds61 p hb, ?_⟩
                  simp only [later]
                  simp only [amset, amlib, zset, g0, g1, g2, g3, g4, g5, g6, g7, eq_self, ↓reduceIte, reduceCtorEq, Nat.reduceBEq, Nat.reduceEqDiff, Nat.reduceAdd, Nat.reduceMul, Nat.reduceLeDiff, Nat.reduceLT, Nat.reduceSub]
                  refine ⟨_, holds62 p hd, ?_⟩
                  simp only [later]
                  simp only [amset, amlib, zset, g0, g1, g2, g3, g4, g5, g6, g7, eq_self, ↓reduceIte, reduceCtorEq, Nat.reduceBEq, Nat.reduceEqDiff, Nat.reduceAdd, Nat.reduceMul, Nat.reduceLeDiff, Nat.reduceLT, Nat.reduceSub]
                  refine hK2 _ ?_
                  clear hK2
                  refine aw_ret ?_
                  show resOf zG _ [.tmp 2] = some _
                  simp only [amset, amlib, zset, eq_self, ↓reduceIte, reduceCtorEq, Nat.reduceBEq, Nat.reduceEqDiff, Nat.reduceAdd, Nat.reduceMul, Nat.reduceLeDiff, Nat.reduceLT, Nat.reduceSub]
                  simp only [smallP, g0, g1, g2, g3, g4, g5, g6, g7, Bool.and_true, Bool.true_and, Bool.and_false, Bool.false_and]
                | false =>
                  refine aw_ops zT fun K2 hK2 => ?_
                  simp only [amset, amlib, zset, g0, g1, g2, g3, g4, g5, g6, g7, eq_self, ↓reduceIte, reduceCtorEq, Nat.reduceBEq, Nat.reduceEqDiff, Nat.reduceAdd, Nat.reduceMul, Nat.reduceLeDiff, Nat.reduceLT, Nat.reduceSub]
                  intros
                  intros
                  intros
                  intros
                  intros
                  intros
                  refine ⟨_, holds61 p hb, ?_⟩
                  simp only [later]
                  simp only [amset, amlib, zset, g0, g1, g2, g3, g4, g5, g6, g7, eq_self, ↓reduceIte, reduceCtorEq, Nat.reduceBEq, Nat.reduceEqDiff, Nat.reduceAdd, Nat.reduceMul, Nat.reduceLeDiff, Nat.reduceLT, Nat.reduceSub]
                  refine ⟨_, holds62 p hd, ?_⟩
                  simp only [later]
                  simp only [amset, amlib, zset, g0, g1, g2, g3, g4, g5, g6, g7, eq_self, ↓reduceIte, reduceCtorEq, Nat.reduceBEq, Nat.reduceEqDiff, Nat.reduceAdd, Nat.reduceMul, Nat.reduceLeDiff, Nat.reduceLT, Nat.reduceSub]
                  refine hK2 _ ?_
                  clear hK2
                  refine aw_ret ?_
                  show resOf zG _ [.tmp 2] = some _
                  simp only [amset, amlib, zset, eq_self, ↓reduceIte, reduceCtorEq, Nat.reduceBEq, Nat.reduceEqDiff, Nat.reduceAdd, Nat.reduceMul, Nat.reduceLeDiff, Nat.reduceLT, Nat.reduceSub]
                  simp only [smallP, g0, g1, g2, g3, g4, g5, g6, g7, Bool.and_true, Bool.true_and, Bool.and_false, Bool.false_and]
              | false =>
                refine aw_ops zT fun K2 hK2 => ?_
                simp only [amset, amlib, zset, g0, g1, g2, g3, g4, g5, g6, eq_self, ↓reduceIte, reduceCtorEq, Nat.reduceBEq, Nat.reduceEqDiff, Nat.reduceAdd, Nat.reduceMul, Nat.reduceLeDiff, Nat.reduceLT, Nat.reduceSub]
                intros
                intros
                intros
                intros
                intros
                intros
                refine ⟨_, holds61 p hb, ?_⟩
                simp only [later]
                simp only [amset, amlib, zset, g0, g1, g2, g3, g4, g5, g6, eq_self, ↓reduceIte, reduceCtorEq, Nat.reduceBEq, Nat.reduceEqDiff, Nat.reduceAdd, Nat.reduceMul, Nat.reduceLeDiff, Nat.reduceLT, Nat.reduceSub]
                refine hK2 _ ?_
                clear hK2
                refine aw_ret ?_
                show resOf zG _ [.tmp 2] = some _
                simp only [amset, amlib, zset, eq_self, ↓reduceIte, reduceCtorEq, Nat.reduceBEq, Nat.reduceEqDiff, Nat.reduceAdd, Nat.reduceMul, Nat.reduceLeDiff, Nat.reduceLT, Nat.reduceSub]
                simp only [smallP, g0, g1, g2, g3, g4, g5, g6, Bool.and_true, Bool.true_and, Bool.and_false, Bool.false_and]
            | false =>
              refine aw_ops zT fun K2 hK2 => ?_
              simp only [amset, amlib, zset, g0, g1, g2, g3, g4, g5, eq_self, ↓reduceIte, reduceCtorEq, Nat.reduceBEq, Nat.reduceEqDiff, Nat.reduceAdd, Nat.reduceMul, Nat.reduceLeDiff, Nat.reduceLT, Nat.reduceSub]
              intros
              intros
              intros
              intros
              intros
              intros
              refine hK2 _ ?_
              clear hK2
              refine aw_ret ?_
              show resOf zG _ [.tmp 2] = some _
              simp only [amset, amlib, zset, eq_self, ↓reduceIte, reduceCtorEq, Nat.reduceBEq, Nat.reduceEqDiff, Nat.reduceAdd, Nat.reduceMul, Nat.reduceLeDiff, Nat.reduceLT, Nat.reduceSub]
              simp only [smallP, g0, g1, g2, g3, g4, g5, Bool.and_true, Bool.true_and, Bool.and_false, Bool.false_and]
          | false =>
            refine aw_ops zT fun K2 hK2 => ?_
            simp only [amset, amlib, zset, g0, g1, g2, g3, g4, eq_self, ↓reduceIte, reduceCtorEq, Nat.reduceBEq, Nat.reduceEqDiff, Nat.reduceAdd, Nat.reduceMul, Nat.reduceLeDiff, Nat.reduceLT, Nat.reduceSub]
            intros
            intros
            intros
            intros
            intros
            intros
            refine hK2 _ ?_
            clear hK2
            refine aw_ret ?_
            show resOf zG _ [.tmp 2] = some _
            simp only [amset, amlib, zset, eq_self, ↓reduceIte, reduceCtorEq, Nat.reduceBEq, Nat.reduceEqDiff, Nat.reduceAdd, Nat.reduceMul, Nat.reduceLeDiff, Nat.reduceLT, Nat.reduceSub]
            simp only [smallP, g0, g1, g2, g3, g4, Bool.and_true, Bool.true_and, Bool.and_false, Bool.false_and]
        | false =>
          refine aw_ops zT fun K2 hK2 => ?_
          simp only [amset, amlib, zset, g0, g1, g2, g3, eq_self, ↓reduceIte, reduceCtorEq, Nat.reduceBEq, Nat.reduceEqDiff, Nat.reduceAdd, Nat.reduceMul, Nat.reduceLeDiff, Nat.reduceLT, Nat.reduceSub]
          intros
          intros
          intros
          intros
          intros
          intros
          refine hK2 _ ?_
          clear hK2
          refine aw_ret ?_
          show resOf zG _ [.tmp 2] = some _
          simp only [amset, amlib, zset, eq_self, ↓reduceIte, reduceCtorEq, Nat.reduceBEq, Nat.reduceEqDiff, Nat.reduceAdd, Nat.reduceMul, Nat.reduceLeDiff, Nat.reduceLT, Nat.reduceSub]
          simp only [smallP, g0, g1, g2, g3, Bool.and_true, Bool.true_and, Bool.and_false, Bool.false_and]
      | false =>
        refine aw_ops zT fun K2 hK2 => ?_
        simp only [amset, amlib, zset, g0, g1, g2, eq_self, ↓reduceIte, reduceCtorEq, Nat.reduceBEq, Nat.reduceEqDiff, Nat.reduceAdd, Nat.reduceMul, Nat.reduceLeDiff, Nat.reduceLT, Nat.reduceSub]
        intros
        intros
        intros
        intros
        intros
        intros
        refine hK2 _ ?_
        clear hK2
        refine aw_ret ?_
        show resOf zG _ [.tmp 2] = some _
        simp only [amset, amlib, zset, eq_self, ↓reduceIte, reduceCtorEq, Nat.reduceBEq, Nat.reduceEqDiff, Nat.reduceAdd, Nat.reduceMul, Nat.reduceLeDiff, Nat.reduceLT, Nat.reduceSub]
        simp only [smallP, g0, g1, g2, Bool.and_true, Bool.true_and, Bool.and_false, Bool.false_and]
    | false =>
      refine aw_ops zT fun K2 hK2 => ?_
      simp only [amset, amlib, zset, g0, g1, eq_self, ↓reduceIte, reduceCtorEq, Nat.reduceBEq, Nat.reduceEqDiff, Nat.reduceAdd, Nat.reduceMul, Nat.reduceLeDiff, Nat.reduceLT, Nat.reduceSub]
      intros
      intros
      intros
      intros
      intros
      intros
      refine hK2 _ ?_
      clear hK2
      refine aw_ret ?_
      show resOf zG _ [.tmp 2] = some _
      simp only [amset, amlib, zset, eq_self, ↓reduceIte, reduceCtorEq, Nat.reduceBEq, Nat.reduceEqDiff, Nat.reduceAdd, Nat.reduceMul, Nat.reduceLeDiff, Nat.reduceLT, Nat.reduceSub]
      simp only [smallP, g0, g1, Bool.and_true, Bool.true_and, Bool.and_false, Bool.false_and]
  | false =>
    refine aw_ops zT fun K2 hK2 => ?_
    simp only [amset, amlib, zset, g0, eq_self, ↓reduceIte, reduceCtorEq, Nat.reduceBEq, Nat.reduceEqDiff, Nat.reduceAdd, Nat.reduceMul, Nat.reduceLeDiff, Nat.reduceLT, Nat.reduceSub]
    intros
    intros
    intros
    intros
    intros
    intros
    refine hK2 _ ?_
    clear hK2
    refine aw_ret ?_
    show resOf zG _ [.tmp 2] = some _
    simp only [amset, amlib, zset, eq_self, ↓reduceIte, reduceCtorEq, Nat.reduceBEq, Nat.reduceEqDiff, Nat.reduceAdd, Nat.reduceMul, Nat.reduceLeDiff, Nat.reduceLT, Nat.reduceSub]
    simp only [smallP, g0, Bool.and_true, Bool.true_and, Bool.and_false, Bool.false_and]
end Go.Proofs.Am
namespace Go.Proofs.Am
open Go.RowKit
/-! From the row's own reading of an argument to the machine's. -/
abbrev anyB : Nat → Prop := fun _ => True
theorem mapM_some {α β : Type} {f : α → Option β} : ∀ {l : List α} {r : List β}, l.mapM f = some r → r.length = l.length ∧ ∀ (i : Nat) a, l[i]? = some a → ∃ b, r[i]? = some b ∧ f a = some b := by
  intro l
  induction l with
  | nil => intro r h; simp at h; subst h; exact ⟨rfl, by simp⟩
  | cons a l ih =>
    intro r h
    simp only [List.mapM_cons, Option.bind_eq_bind, Option.bind_eq_some_iff, Option.pure_def, Option.some.injEq] at h
    obtain ⟨b, hb, r', hr, rfl⟩ := h
    obtain ⟨h1, h2⟩ := ih hr
    refine ⟨by simp [h1], fun i x hx => ?_⟩
    cases i with
    | zero => simp at hx; subst hx; exact ⟨b, rfl, hb⟩
    | succ i => simp at hx; simpa using h2 i x hx
inductive All2 {α β : Type} (R : α → β → Prop) : List α → List β → Prop
  | nil : All2 R [] []
  | cons {a : α} {b : β} {l : List α} {m : List β} (h : R a b) (r : All2 R l m) : All2 R (a :: l) (b :: m)
theorem All2.length_eq {α β : Type} {R : α → β → Prop} {l : List α} {m : List β} (h : All2 R l m) : l.length = m.length := by
  induction h with
  | nil => rfl
  | cons _ _ ih => simp [ih]
section
variable {H : Type} {enc : TypeId × Value → H} {P : Program} {W : World} {base : Nat} {spare : Nat → Bool} {held : Bool}
theorem trod_int {t : TypeId} {k : IntKind} {f : Nat} {v : Value} {d : DataW H} {p : List MemPlace} (ht : P.underlying t = some (.int k)) (h : DataW.trod enc P W base spare held f t [v] = some (d, p)) : ∃ n, v = .int k n ∧ d = .lit (.int k n) ∧ (Lit.int k n).wf = true := by
  cases f with
  | zero => simp [DataW.trod] at h
  | succ f =>
    cases v <;> simp [DataW.trod, ht] at h
    obtain ⟨⟨rfl, h1⟩, rfl, rfl⟩ := h
    exact ⟨_, rfl, rfl, h1⟩
theorem trod_str {t : TypeId} {f : Nat} {v : Value} {d : DataW H} {p : List MemPlace} (ht : P.underlying t = some .string) (h : DataW.trod enc P W base spare held f t [v] = some (d, p)) : ∃ s : List UInt8, v = .string ⟨s.toArray⟩ ∧ d = .lit (.string s) ∧ s.length ≤ maxLen := by
  cases f with
  | zero => simp [DataW.trod] at h
  | succ f =>
    cases v <;> simp [DataW.trod, ht] at h
    rename_i s
    obtain ⟨h1, rfl, rfl⟩ := h
    refine ⟨s.data.toList, by simp, by simp, ?_⟩
    rw [Array.length_toList]
    exact h1
theorem trod_struct {t : TypeId} {fs : Array Field} {f : Nat} {cs : List Value} {d : DataW H} {p : List MemPlace} (ht : P.underlying t = some (.struct fs)) (h : DataW.trod enc P W base spare held f t cs = some (d, p)) :
    ∃ f' xs, f = f' + 1 ∧ cs.length = P.cellsOf t ∧ (fs.toList.map (fun x => (x.offset, x.type))).mapM (fun x => DataW.trod enc P W base spare held f' x.2 ((cs.drop x.1).take (P.cellsOf x.2))) = some xs ∧ d = .agg (xs.map (·.1)) := by
  cases f with
  | zero => simp [DataW.trod] at h
  | succ f =>
    have h2 : (if cs.length = P.cellsOf t then (fs.toList.mapM fun x => DataW.trod enc P W base spare held f x.type ((cs.drop x.offset).take (P.cellsOf x.type))).map fun xs => (DataW.agg (xs.map (·.1)), xs.flatMap (·.2)) else none) = some (d, p) := by
      rw [← h]
      rcases cs with _ | ⟨c, _ | ⟨c', r⟩⟩ <;> simp [DataW.trod, ht]
    split at h2
    · rename_i hl
      rw [Option.map_eq_some_iff] at h2
      obtain ⟨xs, h3, h4⟩ := h2
      injection h4 with h4 h5
      refine ⟨f, xs, rfl, hl, ?_, h4.symm⟩
      rw [List.mapM_map]
      exact h3
    · cases h2
/-- A slice of things that read as an α each. -/
theorem trod_rows {α : Type} {t e : TypeId} {sz f : Nat} {v : Value} {d : DataW H} {p : List MemPlace} (en : α → List C) (R : α → DataW H → Prop) (ht : P.underlying t = some (.slice e)) (hsz : P.cellsOf e = sz) (hpos : 0 < sz) (hlen : ∀ x, (en x).length = sz)
    (h : DataW.trod enc P W base spare held f t [v] = some (d, p)) (ih : ∀ f', f = f' + 1 → ∀ cs d p, DataW.trod enc P W base spare held f' e cs = some (d, p) → ∃ x, RepL W anyB (en x) cs ∧ R x d) :
    ∃ xs ds, RepC W anyB (.sl sz (xs.map en)) v ∧ All2 R xs ds ∧ ((d = .nil ∧ ds = []) ∨ ∃ rest, d = .slice ds rest) := by
  cases f with
  | zero => simp [DataW.trod] at h
  | succ f =>
    have ih := ih f rfl
    cases v <;> try (simp [DataW.trod, ht] at h; done)
    rename_i A len cap
    cases A with
    | none =>
      have : len = 0 ∧ cap = 0 ∧ d = .nil := by
        simp only [DataW.trod, ht] at h
        split at h <;> simp_all
      obtain ⟨rfl, rfl, rfl⟩ := this
      exact ⟨[], [], ⟨none, 0, 0, rfl, rfl, by simp [maxLen], .inl rfl⟩, .nil, .inl ⟨rfl, rfl⟩⟩
    | some a =>
      simp only [DataW.trod, ht] at h
      split at h
      · rename_i hc
        obtain ⟨hb, hlc, hcm⟩ := hc
        rw [Option.bind_eq_some_iff] at h
        obtain ⟨elems, he, h⟩ := h
        rw [Option.map_eq_some_iff] at h
        obtain ⟨rest, hr, h⟩ := h
        injection h with h1 h2
        obtain ⟨hel, hget⟩ := mapM_some he
        rw [List.length_range] at hel
        have hget' : ∀ i (hi : i < elems.length), ∃ cs, cs.length = sz ∧ (∀ j u, cs[j]? = some u → W.cell? (a.add ((0 + i) * sz + j)) = some u) ∧ DataW.trod enc P W base spare held f e cs = some elems[i] := by
          intro i hi
          obtain ⟨b, hb1, hb2⟩ := hget i i (by rw [List.getElem?_range (by omega)])
          rw [List.getElem?_eq_getElem hi] at hb1
          injection hb1 with hb1
          rw [Option.bind_eq_some_iff] at hb2
          obtain ⟨cs, hcs, ht2⟩ := hb2
          rw [hsz] at hcs
          unfold World.cells? at hcs
          rw [if_pos (by rw [ablock]; exact hb)] at hcs
          obtain ⟨hl2, hg2⟩ := mapM_some hcs
          rw [List.length_range] at hl2
          refine ⟨cs, hl2, fun j u hu => ?_, by rw [ht2, hb1]⟩
          have hj : j < sz := by rw [← hl2]; exact (List.getElem?_eq_some_iff.1 hu).1
          obtain ⟨u', hu1, hu2⟩ := hg2 j j (by rw [List.getElem?_range hj])
          rw [hu] at hu1
          injection hu1 with hu1
          rw [hu1, ← hu2, aadd, Nat.zero_add]
        have go : ∀ (l : List (DataW H × List MemPlace)) (o : Nat), (∀ i (hi : i < l.length), ∃ cs, cs.length = sz ∧ (∀ j u, cs[j]? = some u → W.cell? (a.add ((o + i) * sz + j)) = some u) ∧ DataW.trod enc P W base spare held f e cs = some l[i]) →
            ∃ xs, RepRows W anyB sz a (o * sz) (xs.map en) ∧ All2 R xs (l.map (·.1)) := by
          intro l
          induction l with
          | nil => intro o _; exact ⟨[], trivial, .nil⟩
          | cons y l ihl =>
            intro o hy
            obtain ⟨cs, c1, c2, c3⟩ := hy 0 (by simp)
            obtain ⟨x, x1, x2⟩ := ih cs y.1 y.2 c3
            obtain ⟨xs, h3, h4⟩ := ihl (o + 1) (fun i hi => by
              obtain ⟨cs, c1, c2, c3⟩ := hy (i + 1) (by simp; omega)
              exact ⟨cs, c1, by rw [show o + 1 + i = o + (i + 1) by omega]; exact c2, c3⟩)
            refine ⟨x :: xs, ⟨hlen x, RepCells.of x1 (fun j u hu => c2 j u hu), ?_⟩, .cons x2 h4⟩
            rw [Nat.succ_mul] at h3
            exact h3
        obtain ⟨xs, h3, h4⟩ := go elems 0 hget'
        rw [Nat.zero_mul] at h3
        refine ⟨xs, elems.map (·.1), ⟨some a, len, cap, rfl, ?_, ⟨hlc, hcm⟩, ?_⟩, h4, .inr ⟨_, h1.symm⟩⟩
        · have := h4.length_eq
          simp at this ⊢
          omega
        · cases helem : elems with
          | nil => subst helem; cases h4; exact .inl rfl
          | cons y l =>
            refine .inr ⟨a, rfl, trivial, ?_, h3⟩
            obtain ⟨cs, c1, c2, _⟩ := hget' 0 (by rw [helem]; simp)
            have hc0 : 0 < cs.length := by omega
            have := c2 0 cs[0] (List.getElem?_eq_getElem hc0)
            have := lt_of_cell this
            rwa [ablock] at this
      · cases h
end
end Go.Proofs.Am
set_option maxRecDepth 100000
set_option maxHeartbeats 4000000
namespace Go.Proofs.Am
open Go.Proofs.YtfflfbhnedkppaaGreatDoor.Rows (uptoBulk uptoBulkAll uptoSmall)
theorem bulk_one {H : Type} (d : DataW H) : 1 ≤ uptoBulk d := by
  cases d with
  | lit l => cases l <;> simp [uptoBulk]
  | nil => simp [uptoBulk]
  | ptr d => simp [uptoBulk]
  | slice elems spare => simp [uptoBulk]
  | agg parts => simp [uptoBulk]
  | iface t d => simp [uptoBulk]
  | map entries => simp [uptoBulk]
  | held h => simp [uptoBulk]
theorem wf_i16 {n : Int} (h : (Lit.int .i16 n).wf = true) : i16r n := by
  simp only [Lit.wf, IntKind.min, IntKind.max, IntKind.signed, IntKind.bits, Bool.and_eq_true, decide_eq_true_eq, if_true] at h
  unfold i16r
  omega
section
variable {H : Type} {enc : TypeId × Value → H} {W : World} {base : Nat} {spare : Nat → Bool} {held : Bool}
def Flds (enc : TypeId × Value → H) (W : World) (base : Nat) (spare : Nat → Bool) (held : Bool) (f : Nat) : List TypeId → List Value → List (DataW H) → Prop
  | [], [], [] => True
  | t :: ts, v :: vs, d :: ds => (∃ p, DataW.trod enc Tryz.prog W base spare held f t [v] = some (d, p)) ∧ Flds enc W base spare held f ts vs ds
  | _, _, _ => False
theorem Flds.cons {f : Nat} {t : TypeId} {ts : List TypeId} {cs : List Value} {ds : List (DataW H)} (h : Flds enc W base spare held f (t :: ts) cs ds) :
    ∃ v vs d ds' p, cs = v :: vs ∧ ds = d :: ds' ∧ DataW.trod enc Tryz.prog W base spare held f t [v] = some (d, p) ∧ Flds enc W base spare held f ts vs ds' := by
  cases cs with
  | nil => cases ds <;> exact h.elim
  | cons v vs => cases ds with
    | nil => exact h.elim
    | cons d ds => obtain ⟨⟨p, hp⟩, hr⟩ := h; exact ⟨v, vs, d, ds, p, rfl, rfl, hp, hr⟩
theorem Flds.nil {f : Nat} {cs : List Value} {ds : List (DataW H)} (h : Flds enc W base spare held f [] cs ds) : cs = [] ∧ ds = [] := by
  cases cs <;> cases ds <;> first | exact ⟨rfl, rfl⟩ | exact h.elim
theorem flds_of {f : Nat} : ∀ (tys : List TypeId) (k : Nat) (cs : List Value) (xs : List (DataW H × List MemPlace)), (∀ t ∈ tys, Tryz.prog.cellsOf t = 1) → cs.length = k + tys.length →
    ((tys.zipIdx k).map fun p => (p.2, p.1)).mapM (fun x => DataW.trod enc Tryz.prog W base spare held f x.2 ((cs.drop x.1).take (Tryz.prog.cellsOf x.2))) = some xs → Flds enc W base spare held f tys (cs.drop k) (xs.map (·.1)) := by
  intro tys
  induction tys with
  | nil =>
    intro k cs xs _ hl h
    simp at h
    subst h
    rw [List.drop_of_length_le (by simpa using Nat.le_of_eq hl)]
    trivial
  | cons t ts ih =>
    intro k cs xs ht hl h
    simp only [List.zipIdx_cons, List.map_cons, List.mapM_cons, Option.bind_eq_bind, Option.bind_eq_some_iff, Option.pure_def, Option.some.injEq] at h
    obtain ⟨b, hb, r, hr, rfl⟩ := h
    have hk : k < cs.length := by simp at hl; omega
    rw [List.drop_eq_getElem_cons hk]
    have h1 := ih (k + 1) cs r (fun u hu => ht u (by simp [hu])) (by simp at hl; omega) hr
    rw [ht t (by simp), List.drop_eq_getElem_cons hk] at hb
    exact ⟨⟨b.2, hb⟩, h1⟩
theorem open_agg {t : TypeId} {fs : Array Field} {tys : List TypeId} {f : Nat} {cs : List Value} {d : DataW H} {p : List MemPlace} (ht : Tryz.prog.underlying t = some (.struct fs)) (hf : fs.toList.map (fun x => (x.offset, x.type)) = (tys.zipIdx 0).map fun p => (p.2, p.1))
    (hc : Tryz.prog.cellsOf t = tys.length) (ho : tys.all (fun u => Tryz.prog.cellsOf u == 1) = true) (h : DataW.trod enc Tryz.prog W base spare held f t cs = some (d, p)) : ∃ f' ds, f = f' + 1 ∧ d = .agg ds ∧ Flds enc W base spare held f' tys cs ds := by
  obtain ⟨f', xs, h1, h2, h3, h4⟩ := trod_struct ht h
  rw [hf] at h3
  exact ⟨f', _, h1, h4, flds_of tys 0 cs xs (fun u hu => by simpa using List.all_eq_true.1 ho u hu) (by rw [h2, hc]; simp) h3⟩
theorem cells32 : Tryz.prog.cellsOf 32 = 6 := by kernel_rfl
theorem cells56 : Tryz.prog.cellsOf 56 = 7 := by kernel_rfl
theorem cells65 : Tryz.prog.cellsOf 65 = 3 := by kernel_rfl
theorem cells67 : Tryz.prog.cellsOf 67 = 4 := by kernel_rfl
theorem cells69 : Tryz.prog.cellsOf 69 = 3 := by kernel_rfl
theorem cells41 : Tryz.prog.cellsOf 41 = 8 := by kernel_rfl
theorem cells28 : Tryz.prog.cellsOf 28 = 6 := by kernel_rfl
theorem cells9 : Tryz.prog.cellsOf 9 = 1 := by kernel_rfl
theorem wdL_all {ds : List (DataW H)} {xs : List Ex} (h : All2 (fun x d => wdE x ∧ (subE x).length ≤ uptoBulk d) xs ds) : wdL xs ∧ (subL xs).length ≤ uptoBulkAll ds := by
  induction h with
  | nil => exact ⟨by rw [wdL]; trivial, by simp [subL, uptoBulkAll]⟩
  | cons h _ ih => exact ⟨by rw [wdL]; exact ⟨h.1, ih.1⟩, by rw [subL, List.length_append, uptoBulkAll]; omega⟩
theorem bulk_sl {d : DataW H} {ds : List (DataW H)} (h : (d = .nil ∧ ds = []) ∨ ∃ rest, d = .slice ds rest) : uptoBulkAll ds + 1 ≤ uptoBulk d := by
  rcases h with ⟨rfl, rfl⟩ | ⟨rest, rfl⟩ <;> simp [uptoBulk, uptoBulkAll]
theorem br_E : ∀ (f : Nat) (cs : List Value) (d : DataW H) (p : List MemPlace), DataW.trod enc Tryz.prog W base spare held f 32 cs = some (d, p) → ∃ x : Ex, RepL W anyB (encE x) cs ∧ (wdE x ∧ (subE x).length ≤ uptoBulk d) := by
  intro f
  induction f using Nat.strongRecOn with
  | ind f ih =>
    intro cs d p h
    obtain ⟨f', ds, rfl, rfl, hF⟩ := open_agg (tys := [3, 9, 29, 3, 30, 3]) Tryz.underlying32 rfl cells32 (by kernel_rfl) h
    obtain ⟨v0, _, d0, _, p0, rfl, rfl, h0, hF⟩ := hF.cons
    obtain ⟨v1, _, d1, _, p1, rfl, rfl, h1, hF⟩ := hF.cons
    obtain ⟨v2, _, d2, _, p2, rfl, rfl, h2, hF⟩ := hF.cons
    obtain ⟨v3, _, d3, _, p3, rfl, rfl, h3, hF⟩ := hF.cons
    obtain ⟨v4, _, d4, _, p4, rfl, rfl, h4, hF⟩ := hF.cons
    obtain ⟨v5, _, d5, _, p5, rfl, rfl, h5, hF⟩ := hF.cons
    obtain ⟨rfl, rfl⟩ := hF.nil
    obtain ⟨k, rfl, rfl, _⟩ := trod_int Tryz.underlying3 h0
    obtain ⟨n, rfl, rfl, hn⟩ := trod_str Tryz.underlying9 h1
    obtain ⟨v, rfl, rfl, hv⟩ := trod_int Tryz.underlying29 h2
    obtain ⟨o, rfl, rfl, _⟩ := trod_int Tryz.underlying3 h3
    obtain ⟨q, rfl, rfl, _⟩ := trod_int Tryz.underlying3 h5
    obtain ⟨xs, es, hx, hA, hd⟩ := trod_rows encE (fun x d => wdE x ∧ (subE x).length ≤ uptoBulk d) Tryz.underlying30 cells32 (by omega) encE_len h4 (fun g hg => ih g (by omega))
    obtain ⟨hw, hs⟩ := wdL_all hA
    have hb := bulk_sl hd
    refine ⟨.mk k n v o xs q, .cons rfl (.cons ⟨rfl, hn⟩ (.cons rfl (.cons rfl (.cons ?_ (.cons rfl .nil))))), ?_, ?_⟩
    · rw [encEs_map]; exact hx
    · rw [wdE]; exact ⟨wf_i16 hv, hw⟩
    · rw [subE_len]
      simp only [Ex.args, uptoBulk, uptoBulkAll]
      omega
mutual
def cntS : St → Nat
  | .mk _ _ _ a b e _ => 1 + (subL a).length + cntM b + cntM e
def cntM : List St → Nat
  | [] => 0
  | x :: r => cntS x + cntM r
end
mutual
def wdS : St → Prop
  | .mk _ _ _ a b e _ => wdL a ∧ wdM b ∧ wdM e
def wdM : List St → Prop
  | [] => True
  | x :: r => wdS x ∧ wdM r
end
theorem wdM_all {ds : List (DataW H)} {xs : List St} (h : All2 (fun x d => wdS x ∧ cntS x ≤ uptoBulk d) xs ds) : wdM xs ∧ cntM xs ≤ uptoBulkAll ds := by
  induction h with
  | nil => exact ⟨by rw [wdM]; trivial, by simp [cntM, uptoBulkAll]⟩
  | cons h _ ih => exact ⟨by rw [wdM]; exact ⟨h.1, ih.1⟩, by rw [cntM, uptoBulkAll]; omega⟩
theorem br_S : ∀ (f : Nat) (cs : List Value) (d : DataW H) (p : List MemPlace), DataW.trod enc Tryz.prog W base spare held f 56 cs = some (d, p) → ∃ x : St, RepL W anyB (encS x) cs ∧ (wdS x ∧ cntS x ≤ uptoBulk d) := by
  intro f
  induction f using Nat.strongRecOn with
  | ind f ih =>
    intro cs d p h
    obtain ⟨f', ds, rfl, rfl, hF⟩ := open_agg (tys := [3, 9, 3, 30, 39, 39, 3]) Tryz.underlying56 rfl cells56 (by kernel_rfl) h
    obtain ⟨v0, _, d0, _, p0, rfl, rfl, h0, hF⟩ := hF.cons
    obtain ⟨v1, _, d1, _, p1, rfl, rfl, h1, hF⟩ := hF.cons
    obtain ⟨v2, _, d2, _, p2, rfl, rfl, h2, hF⟩ := hF.cons
    obtain ⟨v3, _, d3, _, p3, rfl, rfl, h3, hF⟩ := hF.cons
    obtain ⟨v4, _, d4, _, p4, rfl, rfl, h4, hF⟩ := hF.cons
    obtain ⟨v5, _, d5, _, p5, rfl, rfl, h5, hF⟩ := hF.cons
    obtain ⟨v6, _, d6, _, p6, rfl, rfl, h6, hF⟩ := hF.cons
    obtain ⟨rfl, rfl⟩ := hF.nil
    obtain ⟨k, rfl, rfl, _⟩ := trod_int Tryz.underlying3 h0
    obtain ⟨n, rfl, rfl, hn⟩ := trod_str Tryz.underlying9 h1
    obtain ⟨v, rfl, rfl, _⟩ := trod_int Tryz.underlying3 h2
    obtain ⟨q, rfl, rfl, _⟩ := trod_int Tryz.underlying3 h6
    obtain ⟨xs, es, hx, hA, hd⟩ := trod_rows encE (fun x d => wdE x ∧ (subE x).length ≤ uptoBulk d) Tryz.underlying30 cells32 (by omega) encE_len h3 (fun g _ => br_E g)
    obtain ⟨bs, fs, hx2, hA2, hd2⟩ := trod_rows encS (fun x d => wdS x ∧ cntS x ≤ uptoBulk d) Tryz.underlying39 cells56 (by omega) encS_len h4 (fun g hg => ih g (by omega))
    obtain ⟨cs, gs, hx3, hA3, hd3⟩ := trod_rows encS (fun x d => wdS x ∧ cntS x ≤ uptoBulk d) Tryz.underlying39 cells56 (by omega) encS_len h5 (fun g hg => ih g (by omega))
    obtain ⟨hw, hs⟩ := wdL_all hA
    obtain ⟨hw2, hs2⟩ := wdM_all hA2
    obtain ⟨hw3, hs3⟩ := wdM_all hA3
    have hb := bulk_sl hd
    have hb2 := bulk_sl hd2
    have hb3 := bulk_sl hd3
    refine ⟨.mk k n v xs bs cs q, .cons rfl (.cons ⟨rfl, hn⟩ (.cons rfl (.cons ?_ (.cons ?_ (.cons ?_ (.cons rfl .nil)))))), ?_, ?_⟩
    · rw [encEs_map]; exact hx
    · rw [encSs_map]; exact hx2
    · rw [encSs_map]; exact hx3
    · rw [wdS]; exact ⟨hw, hw2, hw3⟩
    · rw [cntS]
      simp only [uptoBulk, uptoBulkAll]
      omega
end
end Go.Proofs.Am
set_option maxRecDepth 100000
set_option maxHeartbeats 4000000
namespace Go.Proofs.Am
open Go.Proofs.YtfflfbhnedkppaaGreatDoor.Rows (uptoBulk uptoBulkAll uptoSmall)
section
variable {H : Type} {enc : TypeId × Value → H} {W : World} {base : Nat} {spare : Nat → Bool} {held : Bool}
theorem All2.mem {α β : Type} {R : α → β → Prop} {l : List α} {m : List β} (h : All2 R l m) : ∀ x ∈ l, ∃ y ∈ m, R x y := by
  induction h with
  | nil => intro x hx; cases hx
  | cons h _ ih =>
    intro x hx
    rcases List.mem_cons.1 hx with rfl | hx
    · exact ⟨_, List.mem_cons_self .., h⟩
    · obtain ⟨y, hy, hr⟩ := ih x hx; exact ⟨y, List.mem_cons_of_mem _ hy, hr⟩
theorem br_C (f : Nat) (cs : List Value) (d : DataW H) (p : List MemPlace) (h : DataW.trod enc Tryz.prog W base spare held f 65 cs = some (d, p)) : ∃ x : Cn, RepL W anyB (encC x) cs ∧ i16r x.value := by
  obtain ⟨f', ds, rfl, rfl, hF⟩ := open_agg (tys := [9, 29, 3]) Tryz.underlying65 rfl cells65 (by kernel_rfl) h
  obtain ⟨v0, _, d0, _, p0, rfl, rfl, h0, hF⟩ := hF.cons
  obtain ⟨v1, _, d1, _, p1, rfl, rfl, h1, hF⟩ := hF.cons
  obtain ⟨v2, _, d2, _, p2, rfl, rfl, h2, hF⟩ := hF.cons
  obtain ⟨rfl, rfl⟩ := hF.nil
  obtain ⟨n, rfl, rfl, hn⟩ := trod_str Tryz.underlying9 h0
  obtain ⟨v, rfl, rfl, hv⟩ := trod_int Tryz.underlying29 h1
  obtain ⟨q, rfl, rfl, _⟩ := trod_int Tryz.underlying3 h2
  exact ⟨⟨n, v, q⟩, .cons ⟨rfl, hn⟩ (.cons rfl (.cons rfl .nil)), wf_i16 hv⟩
theorem br_G (f : Nat) (cs : List Value) (d : DataW H) (p : List MemPlace) (h : DataW.trod enc Tryz.prog W base spare held f 67 cs = some (d, p)) : ∃ x : Gl, RepL W anyB (encG x) cs ∧ i16r x.init := by
  obtain ⟨f', ds, rfl, rfl, hF⟩ := open_agg (tys := [9, 3, 29, 3]) Tryz.underlying67 rfl cells67 (by kernel_rfl) h
  obtain ⟨v0, _, d0, _, p0, rfl, rfl, h0, hF⟩ := hF.cons
  obtain ⟨v1, _, d1, _, p1, rfl, rfl, h1, hF⟩ := hF.cons
  obtain ⟨v2, _, d2, _, p2, rfl, rfl, h2, hF⟩ := hF.cons
  obtain ⟨v3, _, d3, _, p3, rfl, rfl, h3, hF⟩ := hF.cons
  obtain ⟨rfl, rfl⟩ := hF.nil
  obtain ⟨n, rfl, rfl, hn⟩ := trod_str Tryz.underlying9 h0
  obtain ⟨l, rfl, rfl, _⟩ := trod_int Tryz.underlying3 h1
  obtain ⟨v, rfl, rfl, hv⟩ := trod_int Tryz.underlying29 h2
  obtain ⟨q, rfl, rfl, _⟩ := trod_int Tryz.underlying3 h3
  exact ⟨⟨n, l, v, q⟩, .cons ⟨rfl, hn⟩ (.cons rfl (.cons rfl (.cons rfl .nil))), wf_i16 hv⟩
theorem br_H (f : Nat) (cs : List Value) (d : DataW H) (p : List MemPlace) (h : DataW.trod enc Tryz.prog W base spare held f 69 cs = some (d, p)) : ∃ x : Ch, RepL W anyB (encH x) cs ∧ True := by
  obtain ⟨f', ds, rfl, rfl, hF⟩ := open_agg (tys := [9, 3, 3]) Tryz.underlying69 rfl cells69 (by kernel_rfl) h
  obtain ⟨v0, _, d0, _, p0, rfl, rfl, h0, hF⟩ := hF.cons
  obtain ⟨v1, _, d1, _, p1, rfl, rfl, h1, hF⟩ := hF.cons
  obtain ⟨v2, _, d2, _, p2, rfl, rfl, h2, hF⟩ := hF.cons
  obtain ⟨rfl, rfl⟩ := hF.nil
  obtain ⟨n, rfl, rfl, hn⟩ := trod_str Tryz.underlying9 h0
  obtain ⟨v, rfl, rfl, hv⟩ := trod_int Tryz.underlying3 h1
  obtain ⟨q, rfl, rfl, _⟩ := trod_int Tryz.underlying3 h2
  exact ⟨⟨n, v, q⟩, .cons ⟨rfl, hn⟩ (.cons rfl (.cons rfl .nil)), trivial⟩
theorem br_str (f : Nat) (cs : List Value) (d : DataW H) (p : List MemPlace) (h : DataW.trod enc Tryz.prog W base spare held f 9 cs = some (d, p)) : ∃ x : List UInt8, RepL W anyB (encStr x) cs ∧ True := by
  match cs, h with
  | [v], h => obtain ⟨n, rfl, rfl, hn⟩ := trod_str Tryz.underlying9 h; exact ⟨n, .cons ⟨rfl, hn⟩ .nil, trivial⟩
  | [], h => cases f <;> simp [DataW.trod, Tryz.underlying9] at h
  | _ :: _ :: _, h => cases f <;> simp [DataW.trod, Tryz.underlying9] at h
theorem br_T (f : Nat) (cs : List Value) (d : DataW H) (p : List MemPlace) (h : DataW.trod enc Tryz.prog W base spare held f 41 cs = some (d, p)) : ∃ x : Tk, RepL W anyB (encT x) cs ∧ (wdM x.body ∧ cntM x.body ≤ uptoBulk d) := by
  obtain ⟨f', ds, rfl, rfl, hF⟩ := open_agg (tys := [9, 3, 3, 9, 9, 3, 39, 3]) Tryz.underlying41 rfl cells41 (by kernel_rfl) h
  obtain ⟨v0, _, d0, _, p0, rfl, rfl, h0, hF⟩ := hF.cons
  obtain ⟨v1, _, d1, _, p1, rfl, rfl, h1, hF⟩ := hF.cons
  obtain ⟨v2, _, d2, _, p2, rfl, rfl, h2, hF⟩ := hF.cons
  obtain ⟨v3, _, d3, _, p3, rfl, rfl, h3, hF⟩ := hF.cons
  obtain ⟨v4, _, d4, _, p4, rfl, rfl, h4, hF⟩ := hF.cons
  obtain ⟨v5, _, d5, _, p5, rfl, rfl, h5, hF⟩ := hF.cons
  obtain ⟨v6, _, d6, _, p6, rfl, rfl, h6, hF⟩ := hF.cons
  obtain ⟨v7, _, d7, _, p7, rfl, rfl, h7, hF⟩ := hF.cons
  obtain ⟨rfl, rfl⟩ := hF.nil
  obtain ⟨n, rfl, rfl, hn⟩ := trod_str Tryz.underlying9 h0
  obtain ⟨a, rfl, rfl, _⟩ := trod_int Tryz.underlying3 h1
  obtain ⟨b, rfl, rfl, _⟩ := trod_int Tryz.underlying3 h2
  obtain ⟨c, rfl, rfl, hc⟩ := trod_str Tryz.underlying9 h3
  obtain ⟨e, rfl, rfl, he⟩ := trod_str Tryz.underlying9 h4
  obtain ⟨g, rfl, rfl, _⟩ := trod_int Tryz.underlying3 h5
  obtain ⟨q, rfl, rfl, _⟩ := trod_int Tryz.underlying3 h7
  obtain ⟨bs, fs, hx2, hA2, hd2⟩ := trod_rows encS (fun x d => wdS x ∧ cntS x ≤ uptoBulk d) Tryz.underlying39 cells56 (by omega) encS_len h6 (fun g _ => br_S g)
  obtain ⟨hw2, hs2⟩ := wdM_all hA2
  have hb2 := bulk_sl hd2
  refine ⟨⟨n, a, b, c, e, g, bs, q⟩, .cons ⟨rfl, hn⟩ (.cons rfl (.cons rfl (.cons ⟨rfl, hc⟩ (.cons ⟨rfl, he⟩ (.cons rfl (.cons ?_ (.cons rfl .nil))))))), hw2, ?_⟩
  · rw [encSs_map]; exact hx2
  · simp only [uptoBulk, uptoBulkAll]
    omega
def cntT : List Tk → Nat
  | [] => 0
  | t :: r => cntM t.body + cntT r
theorem cntT_all {ds : List (DataW H)} {xs : List Tk} (h : All2 (fun x d => wdM x.body ∧ cntM x.body ≤ uptoBulk d) xs ds) : (∀ t ∈ xs, wdM t.body) ∧ cntT xs ≤ uptoBulkAll ds := by
  induction h with
  | nil => exact ⟨by simp, by simp [cntT, uptoBulkAll]⟩
  | cons h _ ih => exact ⟨fun t ht => by rcases List.mem_cons.1 ht with rfl | ht; exact h.1; exact ih.1 t ht, by rw [cntT, uptoBulkAll]; omega⟩
theorem br_P (f : Nat) (cs : List Value) (d : DataW H) (p : List MemPlace) (h : DataW.trod enc Tryz.prog W base spare held f 28 cs = some (d, p)) : ∃ x : Pg, RepL W anyB (encP x) cs ∧ (∀ c ∈ x.consts, i16r c.value) ∧ (∀ g ∈ x.globals, i16r g.init) ∧ (∀ t ∈ x.tasks, wdM t.body) ∧ cntT x.tasks ≤ uptoBulk d := by
  obtain ⟨f', ds, rfl, rfl, hF⟩ := open_agg (tys := [22, 23, 24, 24, 25, 26]) Tryz.underlying28 rfl cells28 (by kernel_rfl) h
  obtain ⟨v0, _, d0, _, p0, rfl, rfl, h0, hF⟩ := hF.cons
  obtain ⟨v1, _, d1, _, p1, rfl, rfl, h1, hF⟩ := hF.cons
  obtain ⟨v2, _, d2, _, p2, rfl, rfl, h2, hF⟩ := hF.cons
  obtain ⟨v3, _, d3, _, p3, rfl, rfl, h3, hF⟩ := hF.cons
  obtain ⟨v4, _, d4, _, p4, rfl, rfl, h4, hF⟩ := hF.cons
  obtain ⟨v5, _, d5, _, p5, rfl, rfl, h5, hF⟩ := hF.cons
  obtain ⟨rfl, rfl⟩ := hF.nil
  obtain ⟨cn, _, hx0, hA0, hd0⟩ := trod_rows encC (fun (x : Cn) _ => i16r x.value) Tryz.underlying22 cells65 (by omega) encC_len h0 (fun g _ => br_C g)
  obtain ⟨gl, _, hx1, hA1, hd1⟩ := trod_rows encG (fun (x : Gl) _ => i16r x.init) Tryz.underlying23 cells67 (by omega) encG_len h1 (fun g _ => br_G g)
  obtain ⟨se, _, hx2, hA2, hd2⟩ := trod_rows encStr (fun _ _ => True) Tryz.underlying24 cells9 (by omega) encStr_len h2 (fun g _ => br_str g)
  obtain ⟨ou, _, hx3, hA3, hd3⟩ := trod_rows encStr (fun _ _ => True) Tryz.underlying24 cells9 (by omega) encStr_len h3 (fun g _ => br_str g)
  obtain ⟨ch, _, hx4, hA4, hd4⟩ := trod_rows encH (fun _ _ => True) Tryz.underlying25 cells69 (by omega) encH_len h4 (fun g _ => br_H g)
  obtain ⟨tk, ts, hx5, hA5, hd5⟩ := trod_rows encT (fun x d => wdM x.body ∧ cntM x.body ≤ uptoBulk d) Tryz.underlying26 cells41 (by omega) encT_len h5 (fun g _ => br_T g)
  obtain ⟨hw, hc⟩ := cntT_all hA5
  have hb := bulk_sl hd5
  refine ⟨⟨cn, gl, se, ou, ch, tk⟩, .cons hx0 (.cons hx1 (.cons hx2 (.cons hx3 (.cons hx4 (.cons hx5 .nil))))), fun c hc => ?_, fun c hc => ?_, hw, ?_⟩
  · obtain ⟨_, _, h⟩ := hA0.mem c hc; exact h
  · obtain ⟨_, _, h⟩ := hA1.mem c hc; exact h
  · simp only [uptoBulk, uptoBulkAll]
    omega
/-- The pure bounds. -/
theorem allL_append' (a b : List St) : (allL (a ++ b)).length = (allL a).length + (allL b).length := by rw [allL_append, List.length_append]
mutual
theorem cntS_eq : ∀ x : St, (stmS x).length + (allL (stmS x)).length = cntS x
  | .mk k n v a b e p => by
    have h1 := cntM_eq b
    have h2 := cntM_eq e
    rw [stmS, cntS, List.length_cons, allL, List.length_append, List.length_append, allL_append']
    simp only [St.args]
    omega
theorem cntM_eq : ∀ l : List St, (stmL l).length + (allL (stmL l)).length = cntM l
  | [] => rfl
  | x :: r => by
    have h1 := cntS_eq x
    have h2 := cntM_eq r
    rw [stmL, cntM, List.length_append, allL_append']
    omega
end
theorem szT_cnt (l : List Tk) : szT l = cntT l := by
  induction l with
  | nil => rfl
  | cons t r ih => rw [szT, cntT, ih, ← cntM_eq]; rfl
mutual
theorem depE_le : ∀ x : Ex, depE x ≤ (subE x).length
  | .mk k n v o a p => by have := depL_le a; rw [depE, subE, List.length_cons]; omega
theorem depL_le : ∀ l : List Ex, depL l ≤ (subL l).length
  | [] => by simp [depL]
  | x :: r => by have := depE_le x; have := depL_le r; rw [depL, subL, List.length_append]; omega
end
mutual
theorem depS_le : ∀ x : St, depS x ≤ cntS x
  | .mk k n v a b e p => by have := depL_le a; have := depM_le b; have := depM_le e; rw [depS, cntS]; omega
theorem depM_le : ∀ l : List St, depM l ≤ cntM l
  | [] => by simp [depM]
  | x :: r => by have := depS_le x; have := depM_le r; rw [depM, cntM]; omega
end
theorem depT_le (l : List Tk) : depT l ≤ cntT l := by
  induction l with
  | nil => simp [depT]
  | cons t r ih => have := depM_le t.body; rw [depT, cntT]; omega
/-- An argument of a struct's type. -/
theorem agg_of {t : TypeId} {fs : Array Field} (ht : Tryz.prog.underlying t = some (.struct fs)) {r : Go.Reach} {b : Nat} {v : Value} (h : Value.okWide Tryz.prog W r b t v) : ∃ cs : Array Value, v = .agg cs := by
  unfold Value.okWide at h
  rw [ht] at h
  obtain ⟨cs, h1, _⟩ := h
  exact ⟨cs, h1⟩
theorem arg_P {v : Value} {d : DataW H} {ps : List MemPlace} {r : Go.Reach} {b : Nat} (hv : Value.okWide Tryz.prog W r b 28 v) (h : DataW.Trod enc Tryz.prog W base spare held 28 v d ps) :
    ∃ p : Pg, RepA W anyB (.agg (encP p)) v ∧ (∀ c ∈ p.consts, i16r c.value) ∧ (∀ g ∈ p.globals, i16r g.init) ∧ (∀ t ∈ p.tasks, wdM t.body) ∧ cntT p.tasks ≤ uptoBulk d := by
  obtain ⟨cs, rfl⟩ := agg_of Tryz.underlying28 hv
  obtain ⟨f, hf⟩ := h
  obtain ⟨x, hx, h2⟩ := br_P f _ d ps hf
  exact ⟨x, ⟨cs.toList, by simp, hx⟩, h2⟩
theorem arg_E {v : Value} {d : DataW H} {ps : List MemPlace} {r : Go.Reach} {b : Nat} (hv : Value.okWide Tryz.prog W r b 32 v) (h : DataW.Trod enc Tryz.prog W base spare held 32 v d ps) :
    ∃ x : Ex, RepA W anyB (.agg (encE x)) v ∧ wdE x ∧ (subE x).length ≤ uptoBulk d := by
  obtain ⟨cs, rfl⟩ := agg_of Tryz.underlying32 hv
  obtain ⟨f, hf⟩ := h
  obtain ⟨x, hx, h2⟩ := br_E f _ d ps hf
  exact ⟨x, ⟨cs.toList, by simp, hx⟩, h2⟩
theorem arg_M {v : Value} {d : DataW H} {ps : List MemPlace} {r : Go.Reach} {b : Nat} (hv : Value.okWide Tryz.prog W r b 39 v) (h : DataW.Trod enc Tryz.prog W base spare held 39 v d ps) :
    ∃ l : List St, RepA W anyB (.c (.sl 7 (encSs l))) v ∧ wdM l ∧ cntM l ≤ uptoBulk d := by
  obtain ⟨f, hf⟩ := h
  have hone : v.cells.toList = [v] := by
    unfold Value.okWide at hv
    rw [Tryz.underlying39] at hv
    cases v <;> first | rfl | (simp [Cell.okWide, Cell.ok, Tryz.underlying39] at hv; done)
  rw [hone] at hf
  obtain ⟨bs, fs, hx2, hA2, hd2⟩ := trod_rows encS (fun x d => wdS x ∧ cntS x ≤ uptoBulk d) Tryz.underlying39 cells56 (by omega) encS_len hf (fun g _ => br_S g)
  obtain ⟨hw2, hs2⟩ := wdM_all hA2
  have hb2 := bulk_sl hd2
  exact ⟨bs, by rw [encSs_map]; exact hx2, hw2, by omega⟩
end
end Go.Proofs.Am
set_option maxRecDepth 100000
set_option maxHeartbeats 4000000
namespace Go.Proofs.Am
open Go.Proofs.YtfflfbhnedkppaaGreatDoor Go.RowKit
section
variable {H : Type} {enc : TypeId × Value → H} {W : World} {base : Nat} {spare : Nat → Bool} {held : Bool} {F : Nat → Prop}
abbrev noB : Nat → Prop := fun _ => False
/-- The cells of a datum that lies in no other block. -/
def datC : DataW Unit → Option (List C)
  | .lit (.int k z) => some [.int k z]
  | .lit (.string s) => some [.str s]
  | .lit (.bool b) => some [.bool b]
  | _ => none
theorem leaf_rep {e : TypeId} (he : (∃ k, Tryz.prog.underlying e = some (.int k)) ∨ Tryz.prog.underlying e = some .string ∨ Tryz.prog.underlying e = some .bool) (f : Nat) (cs : List Value) (d : DataW Unit) (p : List MemPlace) (h : DataW.trod (fun _ => ()) Tryz.prog W base spare held f e cs = some (d, p)) (l : List C) (hl : datC d = some l) : RepL W F l cs := by
  cases f with
  | zero => simp [DataW.trod] at h
  | succ f =>
    rcases he with ⟨k, he⟩ | he | he
    · match cs, h with
      | [v], h =>
        obtain ⟨n, rfl, rfl, _⟩ := trod_int he h
        injection hl with hl
        subst hl
        exact .cons rfl .nil
      | [], h => simp [DataW.trod, he] at h
      | _ :: _ :: _, h => simp [DataW.trod, he] at h
    · match cs, h with
      | [v], h =>
        obtain ⟨n, rfl, rfl, hn⟩ := trod_str he h
        injection hl with hl
        subst hl
        exact .cons ⟨rfl, hn⟩ .nil
      | [], h => simp [DataW.trod, he] at h
      | _ :: _ :: _, h => simp [DataW.trod, he] at h
    · match cs, h with
      | [v], h =>
        cases v <;> simp [DataW.trod, he] at h
        obtain ⟨rfl, rfl⟩ := h
        injection hl with hl
        subst hl
        exact .cons rfl .nil
      | [], h => simp [DataW.trod, he] at h
      | _ :: _ :: _, h => simp [DataW.trod, he] at h
theorem flat_rep {sz : Nat} : ∀ (rows : List (List C)) (cs : List Value), cs.length = rows.length * sz → (∀ i (hi : i < rows.length), RepL W F rows[i] ((cs.drop (i * sz)).take sz)) → RepL W F rows.flatten cs := by
  intro rows
  induction rows with
  | nil => intro cs hl _; simp at hl; subst hl; exact .nil
  | cons r rest ih =>
    intro cs hl h
    have h0 := h 0 (by simp)
    simp only [List.getElem_cons_zero, Nat.zero_mul, List.drop_zero] at h0
    have h1 := ih (cs.drop sz) (by rw [List.length_drop, hl, List.length_cons, Nat.succ_mul]; omega) fun i hi => by
      have := h (i + 1) (by simpa using hi)
      rw [List.getElem_cons_succ, Nat.succ_mul, Nat.add_comm (i * sz) sz] at this
      rw [List.drop_drop]
      exact this
    have := h0.append h1
    rwa [List.take_append_drop] at this
theorem arr_rep {t e : TypeId} {n sz : Nat} (ht : Tryz.prog.underlying t = some (.array n e)) (hsz : Tryz.prog.cellsOf e = sz) (hct : Tryz.prog.cellsOf t = n * sz) {f : Nat} {cs : List Value} {ds : List (DataW Unit)} {p : List MemPlace}
    (h : DataW.trod (fun _ => ()) Tryz.prog W base spare held f t cs = some (.agg ds, p)) (rows : List (List C)) (hn : rows.length = n)
    (hrow : ∀ (i : Nat) (hi : i < rows.length) f cs d p, DataW.trod (fun _ => ()) Tryz.prog W base spare held f e cs = some (d, p) → ds[i]? = some d → RepL W F rows[i] cs) : RepL W F rows.flatten cs := by
  cases f with
  | zero => simp [DataW.trod] at h
  | succ f =>
    have h2 : (if cs.length = Tryz.prog.cellsOf t then ((List.range n).mapM fun i => DataW.trod (fun _ => ()) Tryz.prog W base spare held f e ((cs.drop (i * Tryz.prog.cellsOf e)).take (Tryz.prog.cellsOf e))).map fun xs => (DataW.agg (xs.map (·.1)), xs.flatMap (·.2)) else none) = some (.agg ds, p) := by
      rw [← h]
      rcases cs with _ | ⟨c, _ | ⟨c', r⟩⟩ <;> simp [DataW.trod, ht]
    split at h2
    · rename_i hl
      rw [Option.map_eq_some_iff] at h2
      obtain ⟨xs, h3, h4⟩ := h2
      injection h4 with h4 h5
      injection h4 with h4
      obtain ⟨hxl, hx⟩ := mapM_some h3
      refine flat_rep rows cs (by rw [hl, hct, hn]) fun i hi => ?_
      obtain ⟨b, hb1, hb2⟩ := hx i i (by rw [List.getElem?_range (by omega)])
      rw [hsz] at hb2
      exact hrow i hi f _ b.1 b.2 hb2 (by rw [← h4, List.getElem?_map, hb1]; rfl)
    · cases h2
theorem leafs_rep {t e : TypeId} {n : Nat} (ht : Tryz.prog.underlying t = some (.array n e)) (hsz : Tryz.prog.cellsOf e = 1) (hct : Tryz.prog.cellsOf t = n) (he : (∃ k, Tryz.prog.underlying e = some (.int k)) ∨ Tryz.prog.underlying e = some .string ∨ Tryz.prog.underlying e = some .bool) {f : Nat} {cs : List Value} {ds : List (DataW Unit)} {p : List MemPlace}
    (h : DataW.trod (fun _ => ()) Tryz.prog W base spare held f t cs = some (.agg ds, p)) (g : List C) (hn : g.length = n) (hd : ds.map datC = g.map fun c => some [c]) : RepL W F g cs := by
  have h1 : (g.map fun c => [c]).flatten = g := by
    clear hn hd
    induction g with
    | nil => rfl
    | cons c r ih => rw [List.map_cons, List.flatten_cons, ih]; rfl
  rw [← h1]
  refine arr_rep ht hsz (by rw [hct, Nat.mul_one]) h _ (by simpa using hn) fun i hi f cs d p h2 h3 => ?_
  refine leaf_rep he f cs d p h2 _ ?_
  have h4 : (ds.map datC)[i]? = some (datC d) := by rw [List.getElem?_map, h3]; rfl
  rw [hd] at h4
  rw [List.getElem?_map] at h4
  simp only [List.length_map] at hi
  rw [List.getElem?_eq_getElem hi] at h4
  simp only [Option.map_some, Option.some.injEq] at h4
  rw [← h4]
  simp
theorem fields_rep {f : Nat} : ∀ (tys : List TypeId) (cs : List Value) (ds : List (DataW Unit)), Flds (fun _ => ()) W base spare held f tys cs ds → (∀ t ∈ tys, (∃ k, Tryz.prog.underlying t = some (.int k)) ∨ Tryz.prog.underlying t = some .string ∨ Tryz.prog.underlying t = some .bool) → ∀ g : List C, ds.map datC = g.map (fun c => some [c]) → RepL W F g cs := by
  intro tys
  induction tys with
  | nil =>
    intro cs ds h _ g hg
    obtain ⟨rfl, rfl⟩ := h.nil
    cases g with
    | nil => exact .nil
    | cons => simp at hg
  | cons t ts ih =>
    intro cs ds h ht g hg
    obtain ⟨v, vs, d, ds', p, rfl, rfl, h1, h2⟩ := h.cons
    cases g with
    | nil => simp at hg
    | cons c r =>
      simp only [List.map_cons, List.cons.injEq] at hg
      have h3 := leaf_rep (F := F) (ht t (by simp)) f [v] d p h1 [c] hg.1
      cases h3 with
      | cons h3 _ => exact .cons h3 (ih vs ds' h2 (fun u hu => ht u (by simp [hu])) r hg.2)
def stmtRows : List (List C) := [0, 1, 2, 3, 4, 5, 6, 7, 8, 9, 10, 11, 12, 13].map fun i => (gStatements.drop (i * 5)).take 5
theorem stmtRows_flat : stmtRows.flatten = gStatements := by kernel_rfl
def aggs : DataW Unit → Option (List (Option (List C)))
  | .agg ds => some (ds.map datC)
  | _ => none
def stDs : List (DataW Unit) := match (Rows.laid_trickle_ast_statements : DataW Unit) with | .agg ds => ds | _ => []
theorem stmt_aggs : stDs.map aggs = stmtRows.map fun r => some (r.map fun c => some [c]) := by kernel_rfl
theorem var_block {n : String} {g : Nat} {cs : Array Value} (hg : Tryz.prog.globalNamed n = some g) (h : W.var? Tryz.prog n = some cs) : g < W.heap.size ∧ ∃ ty fz, W.heap[g]? = some (.cells cs ty fz) := by
  unfold World.var? at h
  rw [hg] at h
  simp only [Option.bind_some] at h
  split at h
  · rename_i c ty fz hh
    injection h with h
    subst h
    exact ⟨(Array.getElem?_eq_some_iff.1 hh).1, ty, fz, hh⟩
  · cases h
def laidL : List (String × DataW Unit) := [("math/bits.deBruijn32tab", Rows.laid_math_bits_deBruijn32tab), ("math/bits.deBruijn64tab", Rows.laid_math_bits_deBruijn64tab), ("internal/strconv.uint64pow10", Rows.laid_internal_strconv_uint64pow10), ("unicode.White_Space", Rows.laid_unicode_White_Space), ("strings.asciiSpace", Rows.laid_strings_asciiSpace), ("trickle/ast.symbols", Rows.laid_trickle_ast_symbols), ("trickle/ast.levels", Rows.laid_trickle_ast_levels), ("trickle/ast.statements", Rows.laid_trickle_ast_statements)]
theorem glob_ok (h : laidMetH Tryz.prog laidL W) : GlobOk zG W := by
  have h : laidMet Tryz.prog laidL W := h
  obtain ⟨ps, hL, _⟩ := h
  obtain ⟨_, _, _, _, _, _, _, _, _, _, hL, _⟩ := hL
  obtain ⟨_, _, _, _, _, _, _, _, _, _, hL, _⟩ := hL
  obtain ⟨g4, t4, c4, f4, p4, _, n4, y4, v4, r4, hL, _⟩ := hL
  obtain ⟨_, _, _, _, _, _, _, _, _, _, hL, _⟩ := hL
  obtain ⟨g3, t3, c3, f3, p3, _, n3, y3, v3, r3, hL, _⟩ := hL
  obtain ⟨g0, t0, c0, f0, p0, _, n0, y0, v0, r0, hL, _⟩ := hL
  obtain ⟨g1, t1, c1, f1, p1, _, n1, y1, v1, r1, hL, _⟩ := hL
  obtain ⟨g2, t2, c2, f2, p2, _, n2, y2, v2, r2, hL, _⟩ := hL
  have e0 : g0 = 0 := Option.some.inj (n0.symm.trans (by kernel_rfl))
  have e1 : g1 = 1 := Option.some.inj (n1.symm.trans (by kernel_rfl))
  have e2 : g2 = 2 := Option.some.inj (n2.symm.trans (by kernel_rfl))
  have e3 : g3 = 3 := Option.some.inj (n3.symm.trans (by kernel_rfl))
  have e4 : g4 = 4 := Option.some.inj (n4.symm.trans (by kernel_rfl))
  subst e0 e1 e2 e3 e4
  have u0 : t0 = 199 := Option.some.inj (y0.symm.trans (by kernel_rfl))
  have u1 : t1 = 202 := Option.some.inj (y1.symm.trans (by kernel_rfl))
  have u2 : t2 = 227 := Option.some.inj (y2.symm.trans (by kernel_rfl))
  have u3 : t3 = 251 := Option.some.inj (y3.symm.trans (by kernel_rfl))
  have u4 : t4 = 262 := Option.some.inj (y4.symm.trans (by kernel_rfl))
  subst u0 u1 u2 u3 u4
  have b0 : RepL W noB gSymbols c0.toList := leafs_rep Tryz.underlying199 (by kernel_rfl) (by kernel_rfl) (.inr (.inl Tryz.underlying9)) r0 gSymbols (by kernel_rfl) (by kernel_rfl)
  have b1 : RepL W noB gLevels c1.toList := leafs_rep Tryz.underlying202 (by kernel_rfl) (by kernel_rfl) (.inl ⟨_, Tryz.underlying3⟩) r1 gLevels (by kernel_rfl) (by kernel_rfl)
  have b3 : RepL W noB gSpace c3.toList := leafs_rep Tryz.underlying251 (by kernel_rfl) (by kernel_rfl) (.inl ⟨_, Tryz.underlying5⟩) r3 gSpace (by kernel_rfl) (by kernel_rfl)
  have b4 : RepL W noB gPow c4.toList := leafs_rep Tryz.underlying262 (by kernel_rfl) (by kernel_rfl) (.inl ⟨_, Tryz.underlying246⟩) r4 gPow (by kernel_rfl) (by kernel_rfl)
  have b2 : RepL W noB gStatements c2.toList := by
    rw [← stmtRows_flat]
    refine arr_rep (sz := 5) (ds := stDs) Tryz.underlying227 (by kernel_rfl) (by kernel_rfl) r2 stmtRows (by kernel_rfl) fun i hi f cs d p h2 h3 => ?_
    obtain ⟨f', ds, rfl, rfl, hF⟩ := open_agg (tys := [4, 4, 4, 4, 3]) Tryz.underlying226 rfl (by kernel_rfl) (by kernel_rfl) h2
    refine fields_rep [4, 4, 4, 4, 3] cs ds hF ?_ _ ?_
    · intro t ht
      simp only [List.mem_cons, List.not_mem_nil, or_false] at ht
      rcases ht with rfl | rfl | rfl | rfl | rfl
      · exact .inr (.inr Tryz.underlying4)
      · exact .inr (.inr Tryz.underlying4)
      · exact .inr (.inr Tryz.underlying4)
      · exact .inr (.inr Tryz.underlying4)
      · exact .inl ⟨_, Tryz.underlying3⟩
    · have h4 := congrArg (fun l : List (Option (List (Option (List C)))) => l[i]?) stmt_aggs
      simp only [List.getElem?_map] at h4
      rw [List.getElem?_eq_getElem hi] at h4
      have h5 : (Option.map aggs (some (DataW.agg ds))) = some (some (ds.map datC)) := rfl
      have h6 := h4.symm.trans ((congrArg (Option.map aggs) h3).trans h5)
      simp only [Option.map_some, Option.some.injEq] at h6
      exact h6.symm
  intro g cs hg
  match g, hg with
  | 0, hg => obtain rfl := Option.some.inj hg; obtain ⟨a, ty, fz, b⟩ := var_block n0 v0; exact ⟨by decide, a, c0, ty, fz, b, b0⟩
  | 1, hg => obtain rfl := Option.some.inj hg; obtain ⟨a, ty, fz, b⟩ := var_block n1 v1; exact ⟨by decide, a, c1, ty, fz, b, b1⟩
  | 2, hg => obtain rfl := Option.some.inj hg; obtain ⟨a, ty, fz, b⟩ := var_block n2 v2; exact ⟨by decide, a, c2, ty, fz, b, b2⟩
  | 3, hg => obtain rfl := Option.some.inj hg; obtain ⟨a, ty, fz, b⟩ := var_block n3 v3; exact ⟨by decide, a, c3, ty, fz, b, b3⟩
  | 4, hg => obtain rfl := Option.some.inj hg; obtain ⟨a, ty, fz, b⟩ := var_block n4 v4; exact ⟨by decide, a, c4, ty, fz, b, b4⟩
  | n + 5, hg => cases hg
/-- What is read as an argument is read so in a world that has grown. -/
theorem args_stay {sp : Nat → Bool} (hl : laidOutB Tryz.prog = true) {W' : World} (hb : Below W.heap.size W W') : ∀ {ts : List TypeId} {vs : List Value} {ds : List (DataW H)} {ps : List MemPlace}, (∀ t ∈ ts, t < Tryz.prog.types.size ∧ Tryz.prog.readableRec t = true) → DataW.TrodAll enc Tryz.prog W 0 (fun _ => true) true ts vs ds ps →
    (∀ x ∈ ps, x.block < W.heap.size) → (∀ x ∈ ps, sp x.block = true) → DataW.TrodAll enc Tryz.prog W' 0 sp true ts vs ds ps := by
  intro ts
  induction ts with
  | nil =>
    intro vs ds ps _ h _ _
    cases vs <;> cases ds <;> exact h
  | cons t ts ih =>
    intro vs ds ps ht h hlt hs
    cases vs with
    | nil => exact h
    | cons v vs => cases ds with
      | nil => exact h
      | cons d ds =>
        obtain ⟨p, q, h1, h2, rfl⟩ := h
        obtain ⟨a1, a2⟩ := ht t (by simp)
        exact ⟨p, q, WideElems.Trod_stays hl a2 a1 h1 (fun x hx => hb.same (hlt x (by simp [hx]))) (fun x hx => hs x (by simp [hx])), ih (fun u hu => ht u (by simp [hu])) h2 (fun x hx => hlt x (by simp [hx])) (fun x hx => hs x (by simp [hx])), rfl⟩
theorem all_append {W' : World} {b : Nat} {sp : Nat → Bool} {hd : Bool} : ∀ {ts ts' : List TypeId} {vs vs' : List Value} {ds ds' : List (DataW H)} {p q : List MemPlace}, DataW.TrodAll enc Tryz.prog W' b sp hd ts vs ds p → DataW.TrodAll enc Tryz.prog W' b sp hd ts' vs' ds' q → DataW.TrodAll enc Tryz.prog W' b sp hd (ts ++ ts') (vs ++ vs') (ds ++ ds') (p ++ q) := by
  intro ts
  induction ts with
  | nil =>
    intro ts' vs vs' ds ds' p q h1 h2
    cases vs <;> cases ds <;> first | exact h1.elim | (have h1 : p = [] := h1; subst h1; exact h2)
  | cons t ts ih =>
    intro ts' vs vs' ds ds' p q h1 h2
    cases vs with
    | nil => exact h1.elim
    | cons v vs => cases ds with
      | nil => exact h1.elim
      | cons d ds =>
        obtain ⟨p1, q1, a, b, rfl⟩ := h1
        exact ⟨p1, q1 ++ q, a, ih b h2, by rw [List.append_assoc]⟩
/-- A call that answers true and writes nothing that was there. -/
theorem post_true {f : Func} {s : ChangeSpec} {fresh handsOn again : Bool} {W' : World} {args : Array Value} {ds : List (DataW H)} {before : List MemPlace} (hl : laidOutB Tryz.prog = true) (hres : f.resultTypes = #[4]) (hvars : s.vars = [])
    (hW : DataW.Whole enc Tryz.prog f.params.toList s.vars false W args.toList ds [] before) (hfn : s.fn H (ds ++ []) = { results := [.lit (.bool true)], args := ds }) (ht : ∀ t ∈ f.params.toList, t < Tryz.prog.types.size ∧ Tryz.prog.readableRec t = true)
    (hb : Below W.heap.size W W') : s.post enc Tryz.prog f false fresh handsOn again W args (.bool true) W' := by
  obtain ⟨p, q, hA, hV, hq, hz, hn⟩ := id hW
  have hlt := hW.lt
  rw [hvars] at hV
  have hV' : q = [] := hV
  subst hV'
  rw [List.append_nil] at hq
  subst hq
  have r4 : ∀ (b : Nat) (sp : Nat → Bool) (hd : Bool), DataW.TrodAll enc Tryz.prog W' b sp hd [4] [.bool true] [.lit (.bool true)] [] := fun b sp hd => ⟨[], [], ⟨1, by simp [DataW.trod, Tryz.underlying4, Value.cells]⟩, rfl, rfl⟩
  have hr4 : f.resultTypes.toList = [4] := by rw [hres]
  have hrl : (Value.bool true).resultList f.resultTypes.size = [.bool true] := by rw [hres]; rfl
  refine ⟨ds, [], before, [], before, [], hW, ?_, ?_, ?_, ?_, fun _ => ⟨?_, ?_⟩⟩
  · rw [hr4, hrl, hfn]; exact r4 _ _ _
  · rw [hfn]; exact args_stay hl hb ht hA hlt (fun x hx => by simpa using hlt x hx)
  · rw [hfn, hvars]; rfl
  · exact hb.frame _
  · exact RowKit.ok_one hres rfl (RowKit.okWide_bool_mk Tryz.underlying4 _)
  · refine ⟨[.lit (.bool true)] ++ ds, [], before, ⟨before, [], ?_, by rw [hvars]; rfl, by simp, ?_, fun h => by cases h⟩, fun p hp _ => hp⟩
    · rw [hr4, hrl]
      exact all_append (p := []) (r4 _ _ _) (args_stay hl hb ht hA hlt (fun _ _ => rfl))
    · intro b off hp
      rw [hb.frozen (p := ⟨b, off, none⟩) (hlt _ hp)]
      exact hz b off hp
end
end Go.Proofs.Am
set_option maxRecDepth 100000
set_option maxHeartbeats 4000000
namespace Go.Proofs.Am
mutual
def eqE : Ex → Ex → Bool
  | .mk k n v o a _, .mk k' n' v' o' a' _ => k == k' && n == n' && v == v' && o == o' && eqL a a'
def eqL : List Ex → List Ex → Bool
  | [], [] => true
  | x :: r, y :: s => eqE x y && eqL r s
  | _, _ => false
end
theorem eqE_eq (x y : Ex) : eqE x y = (x.kind == y.kind && x.name == y.name && x.value == y.value && x.op == y.op && eqL x.args y.args) := by cases x; cases y; simp [eqE, Ex.kind, Ex.name, Ex.value, Ex.op, Ex.args]
theorem eqL_len {a b : List Ex} (h : eqL a b = true) : a.length = b.length := by
  induction a generalizing b with
  | nil => cases b <;> simp_all [eqL]
  | cons x r ih => cases b with
    | nil => simp [eqL] at h
    | cons y s => simp [eqL] at h; simp [ih h.2]
theorem eqL_snoc {a b : List Ex} {x y : Ex} (h : a.length = b.length) : eqL (a ++ [x]) (b ++ [y]) = (eqL a b && eqE x y) := by
  induction a generalizing b with
  | nil => cases b <;> simp_all [eqL]
  | cons z r ih => cases b with
    | nil => simp at h
    | cons w s => simp at h; simp [eqL, ih h, Bool.and_assoc]
theorem eqL_fail {a b : List Ex} {x y : Ex} {c d : List Ex} (h : a.length = b.length) (hf : eqE x y = false) : eqL (a ++ x :: c) (b ++ y :: d) = false := by
  induction a generalizing b with
  | nil => cases b <;> simp_all [eqL]
  | cons z r ih => cases b with
    | nil => simp at h
    | cons w s => simp at h; simp [eqL, ih h]
/-- The member at the same place. -/
theorem take_snoc {α : Type} {a p r : List α} {z : α} {n : Nat} (h : a = p ++ z :: r) (hp : p.length = n) : a.take (n + 1) = p ++ [z] := by
  subst hp
  rw [h, List.take_append]
  simp
  exact List.take_of_length_le (by omega)
theorem at_same {α : Type} {a : List α} (n : Nat) (h : n < a.length) : ∃ y r, a = a.take n ++ y :: r ∧ y ∈ a ∧ (a.take n).length = n := by
  refine ⟨a[n], a.drop (n + 1), ?_, List.getElem_mem h, by simp; omega⟩
  rw [List.getElem_cons_drop, List.take_append_drop]
theorem prog21 : Tryz.prog.funcs[21]? = some Tryz.f21 := by kernel_rfl
theorem step21 (a b : Ex) (ih : ∀ x ∈ a.args, ∀ y, Holds Tryz.prog zG 21 [.agg [.int .i64 x.kind, .str x.name, .int .i16 x.value, .int .i64 x.op, .sl 6 (encEs x.args), .int .i64 x.pos], .agg [.int .i64 y.kind, .str y.name, .int .i16 y.value, .int .i64 y.op, .sl 6 (encEs y.args), .int .i64 y.pos]] [.c (.bool (eqE x y))]) : Holds Tryz.prog zG 21 [.agg [.int .i64 a.kind, .str a.name, .int .i16 a.value, .int .i64 a.op, .sl 6 (encEs a.args), .int .i64 a.pos], .agg [.int .i64 b.kind, .str b.name, .int .i16 b.value, .int .i64 b.op, .sl 6 (encEs b.args), .int .i64 b.pos]] [.c (.bool (eqE a b))] := by
  refine holds_of_body zT prog21 rfl rfl rfl (by simp [Tryz.f21]) ?_
  refine aw_ops zT fun K1 hK1 => ?_
  simp only [amset, amlib, zset, eq_self, ↓reduceIte, reduceCtorEq, Nat.reduceBEq, Nat.reduceEqDiff, Nat.reduceAdd, Nat.reduceMul, Nat.reduceLeDiff, Nat.reduceLT, Nat.reduceSub]
  refine hK1 _ ?_
  clear hK1
  refine aw_seq fun K2 hK2 => ?_
  cases g0 : (a.kind != b.kind) with
  | true =>
    refine aw_ops zT fun K3 hK3 => ?_
    simp only [amset, amlib, zset, g0, eq_self, ↓reduceIte, reduceCtorEq, Nat.reduceBEq, Nat.reduceEqDiff, Nat.reduceAdd, Nat.reduceMul, Nat.reduceLeDiff, Nat.reduceLT, Nat.reduceSub]
    intros
    intros
    refine hK3 _ ?_
    clear hK3
    refine aw_cond (t := true) rfl (fun _ => ?_) (fun h => nomatch h)
    refine aw_ops zT fun K4 hK4 => ?_
    simp only [amset, amlib, zset, eq_self, ↓reduceIte, reduceCtorEq, Nat.reduceBEq, Nat.reduceEqDiff, Nat.reduceAdd, Nat.reduceMul, Nat.reduceLeDiff, Nat.reduceLT, Nat.reduceSub]
    refine hK4 _ ?_
    clear hK4
    refine aw_ret ?_
    show resOf zG _ [.tmp 4] = some _
    simp only [amset, amlib, zset, eq_self, ↓reduceIte, reduceCtorEq, Nat.reduceBEq, Nat.reduceEqDiff, Nat.reduceAdd, Nat.reduceMul, Nat.reduceLeDiff, Nat.reduceLT, Nat.reduceSub]
    try simp at g0
    try simp at g1
    try simp at g2
    try simp at g3
    try simp at g4
    simp [*, eqE_eq]
  | false =>
    cases g1 : (!(a.name == b.name)) with
    | true =>
      refine aw_ops zT fun K3 hK3 => ?_
      simp only [amset, amlib, zset, g0, g1, eq_self, ↓reduceIte, reduceCtorEq, Nat.reduceBEq, Nat.reduceEqDiff, Nat.reduceAdd, Nat.reduceMul, Nat.reduceLeDiff, Nat.reduceLT, Nat.reduceSub]
      intros
      intros
      refine hK3 _ ?_
      clear hK3
      refine aw_cond (t := true) rfl (fun _ => ?_) (fun h => nomatch h)
      refine aw_ops zT fun K5 hK5 => ?_
      simp only [amset, amlib, zset, eq_self, ↓reduceIte, reduceCtorEq, Nat.reduceBEq, Nat.reduceEqDiff, Nat.reduceAdd, Nat.reduceMul, Nat.reduceLeDiff, Nat.reduceLT, Nat.reduceSub]
      refine hK5 _ ?_
      clear hK5
      refine aw_ret ?_
      show resOf zG _ [.tmp 4] = some _
      simp only [amset, amlib, zset, eq_self, ↓reduceIte, reduceCtorEq, Nat.reduceBEq, Nat.reduceEqDiff, Nat.reduceAdd, Nat.reduceMul, Nat.reduceLeDiff, Nat.reduceLT, Nat.reduceSub]
      try simp at g0
      try simp at g1
      try simp at g2
      try simp at g3
      try simp at g4
      simp [*, eqE_eq]
    | false =>
      cases g2 : (a.value != b.value) with
      | true =>
        refine aw_ops zT fun K3 hK3 => ?_
        simp only [amset, amlib, zset, g0, g1, g2, eq_self, ↓reduceIte, reduceCtorEq, Nat.reduceBEq, Nat.reduceEqDiff, Nat.reduceAdd, Nat.reduceMul, Nat.reduceLeDiff, Nat.reduceLT, Nat.reduceSub]
        intros
        intros
        refine hK3 _ ?_
        clear hK3
        refine aw_cond (t := true) rfl (fun _ => ?_) (fun h => nomatch h)
        refine aw_ops zT fun K6 hK6 => ?_
        simp only [amset, amlib, zset, eq_self, ↓reduceIte, reduceCtorEq, Nat.reduceBEq, Nat.reduceEqDiff, Nat.reduceAdd, Nat.reduceMul, Nat.reduceLeDiff, Nat.reduceLT, Nat.reduceSub]
        refine hK6 _ ?_
        clear hK6
        refine aw_ret ?_
        show resOf zG _ [.tmp 4] = some _
        simp only [amset, amlib, zset, eq_self, ↓reduceIte, reduceCtorEq, Nat.reduceBEq, Nat.reduceEqDiff, Nat.reduceAdd, Nat.reduceMul, Nat.reduceLeDiff, Nat.reduceLT, Nat.reduceSub]
        try simp at g0
        try simp at g1
        try simp at g2
        try simp at g3
        try simp at g4
        simp [*, eqE_eq]
      | false =>
        cases g3 : (a.op != b.op) with
        | true =>
          refine aw_ops zT fun K3 hK3 => ?_
          simp only [amset, amlib, zset, g0, g1, g2, g3, eq_self, ↓reduceIte, reduceCtorEq, Nat.reduceBEq, Nat.reduceEqDiff, Nat.reduceAdd, Nat.reduceMul, Nat.reduceLeDiff, Nat.reduceLT, Nat.reduceSub]
          intros
          intros
          refine hK3 _ ?_
          clear hK3
          refine aw_cond (t := true) rfl (fun _ => ?_) (fun h => nomatch h)
          refine aw_ops zT fun K7 hK7 => ?_
          simp only [amset, amlib, zset, eq_self, ↓reduceIte, reduceCtorEq, Nat.reduceBEq, Nat.reduceEqDiff, Nat.reduceAdd, Nat.reduceMul, Nat.reduceLeDiff, Nat.reduceLT, Nat.reduceSub]
          refine hK7 _ ?_
          clear hK7
          refine aw_ret ?_
          show resOf zG _ [.tmp 4] = some _
          simp only [amset, amlib, zset, eq_self, ↓reduceIte, reduceCtorEq, Nat.reduceBEq, Nat.reduceEqDiff, Nat.reduceAdd, Nat.reduceMul, Nat.reduceLeDiff, Nat.reduceLT, Nat.reduceSub]
          try simp at g0
          try simp at g1
          try simp at g2
          try simp at g3
          try simp at g4
          simp [*, eqE_eq]
        | false =>
          cases g4 : ((a.args.length : Int) != b.args.length) with
          | true =>
            refine aw_ops zT fun K3 hK3 => ?_
            simp only [amset, amlib, zset, g0, g1, g2, g3, g4, eq_self, ↓reduceIte, reduceCtorEq, Nat.reduceBEq, Nat.reduceEqDiff, Nat.reduceAdd, Nat.reduceMul, Nat.reduceLeDiff, Nat.reduceLT, Nat.reduceSub]
            intros
            intros
            refine hK3 _ ?_
            clear hK3
            refine aw_cond (t := true) rfl (fun _ => ?_) (fun h => nomatch h)
            refine aw_ops zT fun K8 hK8 => ?_
            simp only [amset, amlib, zset, eq_self, ↓reduceIte, reduceCtorEq, Nat.reduceBEq, Nat.reduceEqDiff, Nat.reduceAdd, Nat.reduceMul, Nat.reduceLeDiff, Nat.reduceLT, Nat.reduceSub]
            refine hK8 _ ?_
            clear hK8
            refine aw_ret ?_
            show resOf zG _ [.tmp 4] = some _
            simp only [amset, amlib, zset, eq_self, ↓reduceIte, reduceCtorEq, Nat.reduceBEq, Nat.reduceEqDiff, Nat.reduceAdd, Nat.reduceMul, Nat.reduceLeDiff, Nat.reduceLT, Nat.reduceSub]
            try simp at g0
            try simp at g1
            try simp at g2
            try simp at g3
            try simp at g4
            simp [*, eqE_eq]
            cases h : eqL a.args b.args with
            | false => rfl
            | true => exact absurd (by exact_mod_cast eqL_len h) g4
          | false =>
            refine aw_ops zT fun K3 hK3 => ?_
            simp only [amset, amlib, zset, g0, g1, g2, g3, g4, eq_self, ↓reduceIte, reduceCtorEq, Nat.reduceBEq, Nat.reduceEqDiff, Nat.reduceAdd, Nat.reduceMul, Nat.reduceLeDiff, Nat.reduceLT, Nat.reduceSub]
            intros
            intros
            refine hK3 _ ?_
            clear hK3
            refine aw_cond (t := false) rfl (fun h => nomatch h) (fun _ => ?_)
            refine aw_skip ?_
            simp only [thenQ, blkQ, if_true, reduceIte, Nat.reduceEqDiff, eq_self]
            refine hK2 _ ?_
            clear hK2
            refine aw_seq fun K9 hK9 => ?_
            refine aw_ops zT fun K10 hK10 => ?_
            simp only [amset, amlib, zset, eq_self, ↓reduceIte, reduceCtorEq, Nat.reduceBEq, Nat.reduceEqDiff, Nat.reduceAdd, Nat.reduceMul, Nat.reduceLeDiff, Nat.reduceLT, Nat.reduceSub]
            intros
            refine hK10 _ ?_
            clear hK10
            refine aw_block ?_
            refine aw_range (α := Ex) (a.args) (fun dn => eqL dn (b.args.take dn.length) = true) (fun dn => [(44, .cell (.c (.int .i64 dn.length)))]) (fun dn => []) [] [4, 5, 44, 45, 46, 47, 48, 49, 50, 51, 52, 53, 54, 55, 56, 57, 58, 59] [] rfl ?_ ?_ ?_ ?_
            · simp only [amset, amlib, zset, eq_self, ↓reduceIte, reduceCtorEq, Nat.reduceBEq, Nat.reduceEqDiff, Nat.reduceAdd, Nat.reduceMul, Nat.reduceLeDiff, Nat.reduceLT, Nat.reduceSub] <;> simp
            · simp only [amset, amlib, zset, eq_self, ↓reduceIte, reduceCtorEq, Nat.reduceBEq, Nat.reduceEqDiff, Nat.reduceAdd, Nat.reduceMul, Nat.reduceLeDiff, Nat.reduceLT, Nat.reduceSub] <;> simp
            · intro hI R
              refine aw_norm (by simp only [amset, amlib, zset, eq_self, ↓reduceIte, reduceCtorEq, Nat.reduceBEq, Nat.reduceEqDiff, Nat.reduceAdd, Nat.reduceMul, Nat.reduceLeDiff, Nat.reduceLT, Nat.reduceSub]; exact rfl) ?_
              refine aw_ops zT fun K11 hK11 => ?_
              simp only [amset, amlib, zset, eq_self, ↓reduceIte, reduceCtorEq, Nat.reduceBEq, Nat.reduceEqDiff, Nat.reduceAdd, Nat.reduceMul, Nat.reduceLeDiff, Nat.reduceLT, Nat.reduceSub]
              refine hK11 _ ?_
              clear hK11
              refine aw_seq fun K12 hK12 => ?_
              refine aw_cond (t := false) (by simp [evalO, S.get, amLook]) (fun h => nomatch h) (fun _ => ?_)
              refine aw_exit ?_
              simp only [thenQ, blkQ, if_true, reduceIte, Nat.reduceEqDiff, eq_self]
              refine hK9 _ ?_
              clear hK9
              refine aw_ops zT fun K13 hK13 => ?_
              simp only [amset, amlib, zset, eq_self, ↓reduceIte, reduceCtorEq, Nat.reduceBEq, Nat.reduceEqDiff, Nat.reduceAdd, Nat.reduceMul, Nat.reduceLeDiff, Nat.reduceLT, Nat.reduceSub]
              refine hK13 _ ?_
              clear hK13
              refine aw_ret ?_
              show resOf zG _ [.tmp 4] = some _
              simp only [amset, amlib, zset, eq_self, ↓reduceIte, reduceCtorEq, Nat.reduceBEq, Nat.reduceEqDiff, Nat.reduceAdd, Nat.reduceMul, Nat.reduceLeDiff, Nat.reduceLT, Nat.reduceSub]
              try simp at g0
              try simp at g1
              try simp at g2
              try simp at g3
              try simp at g4
              simp [*, eqE_eq]
              have h5 : b.args.length = a.args.length := by omega
              rw [← h5, List.take_length] at hI
              exact hI
            · intro dn y td harg hI R hR
              have hl : (a.args).length = dn.length + (td.length + 1) := by rw [harg]; simp
              have hmem : y ∈ a.args := by rw [harg]; simp
              refine aw_norm (by simp only [amset, amlib, zset, eq_self, ↓reduceIte, reduceCtorEq, Nat.reduceBEq, Nat.reduceEqDiff, Nat.reduceAdd, Nat.reduceMul, Nat.reduceLeDiff, Nat.reduceLT, Nat.reduceSub]; exact rfl) ?_
              have hget : (encEs (a.args)).getD dn.length [] = encE y := by rw [harg]; exact encEs_mid dn td y
              have hlen2 : dn.length < b.args.length := by simp at g4; omega
              obtain ⟨z, rz, hz, hzm, hzl⟩ := at_same (a := b.args) dn.length hlen2
              have hget2 : (encEs b.args).getD dn.length [] = encE z := by
                have := encEs_mid (b.args.take dn.length) rz z
                rw [← hz, hzl] at this
                exact this
              refine aw_ops zT fun K14 hK14 => ?_
              simp only [amset, amlib, zset, eq_self, ↓reduceIte, reduceCtorEq, Nat.reduceBEq, Nat.reduceEqDiff, Nat.reduceAdd, Nat.reduceMul, Nat.reduceLeDiff, Nat.reduceLT, Nat.reduceSub]
              refine hK14 _ ?_
              clear hK14
              refine aw_seq fun K15 hK15 => ?_
              refine aw_cond (t := true) (by simp [evalO, S.get, amLook]; omega) (fun _ => ?_) (fun h => nomatch h)
              refine aw_skip ?_
              simp only [thenQ, blkQ, if_true, reduceIte, Nat.reduceEqDiff, eq_self]
              refine hK15 _ ?_
              clear hK15
              refine aw_seq fun K16 hK16 => ?_
              refine aw_block ?_
              refine aw_ops zT fun K17 hK17 => ?_
              simp only [amset, amlib, zset, eq_self, ↓reduceIte, reduceCtorEq, Nat.reduceBEq, Nat.reduceEqDiff, Nat.reduceAdd, Nat.reduceMul, Nat.reduceLeDiff, Nat.reduceLT, Nat.reduceSub]
              refine hK17 _ ?_
              clear hK17
              refine aw_draw zT prog_mixed fun K18 hK18 => ?_
              simp only [amset, amlib, zset, hget, hget2, eq_self, ↓reduceIte, reduceCtorEq, Nat.reduceBEq, Nat.reduceEqDiff, Nat.reduceAdd, Nat.reduceMul, Nat.reduceLeDiff, Nat.reduceLT, Nat.reduceSub]
              refine ⟨⟨by omega, by omega⟩, ?_⟩
              refine ⟨⟨by omega, by omega⟩, ?_⟩
              refine ⟨_, ih y hmem z, ?_⟩
              simp only [later]
              simp only [amset, amlib, zset, eq_self, ↓reduceIte, reduceCtorEq, Nat.reduceBEq, Nat.reduceEqDiff, Nat.reduceAdd, Nat.reduceMul, Nat.reduceLeDiff, Nat.reduceLT, Nat.reduceSub]
              refine ⟨by kernel_rfl, ?_⟩
              refine hK18 _ ?_
              clear hK18
              refine aw_cond rfl (fun h0 => ?_) (fun h0 => ?_)
              · skip
                refine aw_ops zT fun K19 hK19 => ?_
                simp only [amset, amlib, zset, eq_self, ↓reduceIte, reduceCtorEq, Nat.reduceBEq, Nat.reduceEqDiff, Nat.reduceAdd, Nat.reduceMul, Nat.reduceLeDiff, Nat.reduceLT, Nat.reduceSub]
                refine hK19 _ ?_
                clear hK19
                refine aw_ret ?_
                show resOf zG _ [.tmp 4] = some _
                simp only [amset, amlib, zset, eq_self, ↓reduceIte, reduceCtorEq, Nat.reduceBEq, Nat.reduceEqDiff, Nat.reduceAdd, Nat.reduceMul, Nat.reduceLeDiff, Nat.reduceLT, Nat.reduceSub]
                rw [eqE_eq, harg, hz, eqL_fail hzl.symm (by simpa using h0)]
                simp
              · skip
                refine aw_skip ?_
                simp only [thenQ, blkQ, if_true, reduceIte, Nat.reduceEqDiff, eq_self]
                refine hK16 _ ?_
                clear hK16
                refine aw_region zT ?_
                simp only [amset, amlib, zset, eq_self, ↓reduceIte, reduceCtorEq, Nat.reduceBEq, Nat.reduceEqDiff, Nat.reduceAdd, Nat.reduceMul, Nat.reduceLeDiff, Nat.reduceLT, Nat.reduceSub]
                refine ⟨⟨by omega, by omega⟩, ?_⟩
                refine hR _ (by rw [show (dn ++ [y]).length = dn.length + 1 by simp, take_snoc hz hzl, eqL_snoc hzl.symm]; simp [hI]; simpa using h0) ?_
                refine Reach.to ?_ ?_
                · simp only [amset, amlib, zset, eq_self, ↓reduceIte, reduceCtorEq, Nat.reduceBEq, Nat.reduceEqDiff, Nat.reduceAdd, Nat.reduceMul, Nat.reduceLeDiff, Nat.reduceLT, Nat.reduceSub] <;> simp
                · simp only [amset, amlib, zset, eq_self, ↓reduceIte, reduceCtorEq, Nat.reduceBEq, Nat.reduceEqDiff, Nat.reduceAdd, Nat.reduceMul, Nat.reduceLeDiff, Nat.reduceLT, Nat.reduceSub] <;> simp
theorem holds21 (a b : Ex) : Holds Tryz.prog zG 21 [.agg [.int .i64 a.kind, .str a.name, .int .i16 a.value, .int .i64 a.op, .sl 6 (encEs a.args), .int .i64 a.pos], .agg [.int .i64 b.kind, .str b.name, .int .i16 b.value, .int .i64 b.op, .sl 6 (encEs b.args), .int .i64 b.pos]] [.c (.bool (eqE a b))] := step21 a b fun x hmem y => holds21 x y
  termination_by SizeOf.sizeOf a
  decreasing_by exact Ex.args_lt hmem
end Go.Proofs.Am
set_option maxRecDepth 100000
set_option maxHeartbeats 4000000
namespace Go.Proofs.Am
mutual
def eqS : St → St → Bool
  | .mk k n v a b e _, .mk k' n' v' a' b' e' _ => k == k' && n == n' && v == v' && eqL a a' && eqM b b' && eqM e e'
def eqM : List St → List St → Bool
  | [], [] => true
  | x :: r, y :: s => eqS x y && eqM r s
  | _, _ => false
end
theorem eqS_eq (x y : St) : eqS x y = (x.kind == y.kind && x.name == y.name && x.n == y.n && eqL x.args y.args && eqM x.body y.body && eqM x.els y.els) := by cases x; cases y; simp [eqS, St.kind, St.name, St.n, St.args, St.body, St.els]
theorem eqM_len {a b : List St} (h : eqM a b = true) : a.length = b.length := by
  induction a generalizing b with
  | nil => cases b <;> simp_all [eqM]
  | cons x r ih => cases b with
    | nil => simp [eqM] at h
    | cons y s => simp [eqM] at h; simp [ih h.2]
theorem eqM_snoc {a b : List St} {x y : St} (h : a.length = b.length) : eqM (a ++ [x]) (b ++ [y]) = (eqM a b && eqS x y) := by
  induction a generalizing b with
  | nil => cases b <;> simp_all [eqM]
  | cons z r ih => cases b with
    | nil => simp at h
    | cons w s => simp at h; simp [eqM, ih h, Bool.and_assoc]
theorem eqM_fail {a b : List St} {x y : St} {c d : List St} (h : a.length = b.length) (hf : eqS x y = false) : eqM (a ++ x :: c) (b ++ y :: d) = false := by
  induction a generalizing b with
  | nil => cases b <;> simp_all [eqM]
  | cons z r ih => cases b with
    | nil => simp at h
    | cons w s => simp at h; simp [eqM, ih h]
theorem eqL_ne {a b : List Ex} (h : ¬ ((a.length : Int) = (b.length : Int))) : eqL a b = false := by
  cases e : eqL a b with
  | false => rfl
  | true => exact absurd (by exact_mod_cast eqL_len e) h
theorem eqM_ne {a b : List St} (h : ¬ ((a.length : Int) = (b.length : Int))) : eqM a b = false := by
  cases e : eqM a b with
  | false => rfl
  | true => exact absurd (by exact_mod_cast eqM_len e) h
theorem prog23 : Tryz.prog.funcs[23]? = some Tryz.f23 := by kernel_rfl
theorem step23 (a b : List St) (ih : ∀ m : List St, SizeOf.sizeOf m < SizeOf.sizeOf a → ∀ m2, Holds Tryz.prog zG 23 [.c (.sl 7 (encSs m)), .c (.sl 7 (encSs m2))] [.c (.bool (eqM m m2))]) : Holds Tryz.prog zG 23 [.c (.sl 7 (encSs a)), .c (.sl 7 (encSs b))] [.c (.bool (eqM a b))] := by
  refine holds_of_body zT prog23 rfl rfl rfl (by simp [Tryz.f23]) ?_
  refine aw_ops zT fun K1 hK1 => ?_
  simp only [amset, amlib, zset, eq_self, ↓reduceIte, reduceCtorEq, Nat.reduceBEq, Nat.reduceEqDiff, Nat.reduceAdd, Nat.reduceMul, Nat.reduceLeDiff, Nat.reduceLT, Nat.reduceSub]
  refine hK1 _ ?_
  clear hK1
  refine aw_seq fun K2 hK2 => ?_
  refine aw_ops zT fun K3 hK3 => ?_
  simp only [amset, amlib, zset, eq_self, ↓reduceIte, reduceCtorEq, Nat.reduceBEq, Nat.reduceEqDiff, Nat.reduceAdd, Nat.reduceMul, Nat.reduceLeDiff, Nat.reduceLT, Nat.reduceSub]
  intros
  intros
  refine hK3 _ ?_
  clear hK3
  refine aw_cond rfl (fun h0 => ?_) (fun h0 => ?_)
  · skip
    refine aw_ops zT fun K4 hK4 => ?_
    simp only [amset, amlib, zset, eq_self, ↓reduceIte, reduceCtorEq, Nat.reduceBEq, Nat.reduceEqDiff, Nat.reduceAdd, Nat.reduceMul, Nat.reduceLeDiff, Nat.reduceLT, Nat.reduceSub]
    refine hK4 _ ?_
    clear hK4
    refine aw_ret ?_
    show resOf zG _ [.tmp 4] = some _
    simp only [amset, amlib, zset, eq_self, ↓reduceIte, reduceCtorEq, Nat.reduceBEq, Nat.reduceEqDiff, Nat.reduceAdd, Nat.reduceMul, Nat.reduceLeDiff, Nat.reduceLT, Nat.reduceSub]
    rw [eqM_ne (by simpa using h0)]
  · skip
    have hlen0 : a.length = b.length := by simp at h0; omega
    refine aw_skip ?_
    simp only [thenQ, blkQ, if_true, reduceIte, Nat.reduceEqDiff, eq_self]
    refine hK2 _ ?_
    clear hK2
    refine aw_seq fun K5 hK5 => ?_
    refine aw_ops zT fun K6 hK6 => ?_
    simp only [amset, amlib, zset, eq_self, ↓reduceIte, reduceCtorEq, Nat.reduceBEq, Nat.reduceEqDiff, Nat.reduceAdd, Nat.reduceMul, Nat.reduceLeDiff, Nat.reduceLT, Nat.reduceSub]
    intros
    refine hK6 _ ?_
    clear hK6
    refine aw_block ?_
    refine aw_range (α := St) (a) (fun dn => eqM dn (b.take dn.length) = true) (fun dn => [(16, .cell (.c (.int .i64 dn.length)))]) (fun dn => []) [] [4, 5, 6, 7, 8, 16, 17, 18, 19, 20, 21, 22, 23, 24, 25, 26, 27, 28, 29, 30, 31, 32, 33, 34, 35, 36, 37, 38, 39, 40, 41, 42, 43, 44, 45, 46, 47, 48, 49, 50, 51, 52, 53, 54, 55, 56, 57, 58, 59, 60, 61, 62, 63, 64, 65, 66, 67, 68, 69, 70, 71, 72, 73, 74, 75, 76, 77, 78, 79, 80, 81, 82, 83, 84, 85, 86, 87, 88] [6, 7] rfl ?_ ?_ ?_ ?_
    · simp only [amset, amlib, zset, eq_self, ↓reduceIte, reduceCtorEq, Nat.reduceBEq, Nat.reduceEqDiff, Nat.reduceAdd, Nat.reduceMul, Nat.reduceLeDiff, Nat.reduceLT, Nat.reduceSub] <;> simp
    · simp only [amset, amlib, zset, eq_self, ↓reduceIte, reduceCtorEq, Nat.reduceBEq, Nat.reduceEqDiff, Nat.reduceAdd, Nat.reduceMul, Nat.reduceLeDiff, Nat.reduceLT, Nat.reduceSub] <;> simp
    · intro hI R
      refine aw_norm (by simp only [amset, amlib, zset, eq_self, ↓reduceIte, reduceCtorEq, Nat.reduceBEq, Nat.reduceEqDiff, Nat.reduceAdd, Nat.reduceMul, Nat.reduceLeDiff, Nat.reduceLT, Nat.reduceSub]; exact rfl) ?_
      refine aw_ops zT fun K7 hK7 => ?_
      simp only [amset, amlib, zset, eq_self, ↓reduceIte, reduceCtorEq, Nat.reduceBEq, Nat.reduceEqDiff, Nat.reduceAdd, Nat.reduceMul, Nat.reduceLeDiff, Nat.reduceLT, Nat.reduceSub]
      refine hK7 _ ?_
      clear hK7
      refine aw_seq fun K8 hK8 => ?_
      refine aw_cond (t := false) (by simp [evalO, S.get, amLook]) (fun h => nomatch h) (fun _ => ?_)
      refine aw_exit ?_
      simp only [thenQ, blkQ, if_true, reduceIte, Nat.reduceEqDiff, eq_self]
      refine hK5 _ ?_
      clear hK5
      refine aw_ops zT fun K9 hK9 => ?_
      simp only [amset, amlib, zset, eq_self, ↓reduceIte, reduceCtorEq, Nat.reduceBEq, Nat.reduceEqDiff, Nat.reduceAdd, Nat.reduceMul, Nat.reduceLeDiff, Nat.reduceLT, Nat.reduceSub]
      refine hK9 _ ?_
      clear hK9
      refine aw_ret ?_
      show resOf zG _ [.tmp 4] = some _
      simp only [amset, amlib, zset, eq_self, ↓reduceIte, reduceCtorEq, Nat.reduceBEq, Nat.reduceEqDiff, Nat.reduceAdd, Nat.reduceMul, Nat.reduceLeDiff, Nat.reduceLT, Nat.reduceSub]
      have h5 : b.length = a.length := by omega
      rw [← h5, List.take_length] at hI
      rw [hI]
    · intro dn y td harg hI R hR
      have hl : (a).length = dn.length + (td.length + 1) := by rw [harg]; simp
      have hmem : y ∈ a := by rw [harg]; simp
      refine aw_norm (by simp only [amset, amlib, zset, eq_self, ↓reduceIte, reduceCtorEq, Nat.reduceBEq, Nat.reduceEqDiff, Nat.reduceAdd, Nat.reduceMul, Nat.reduceLeDiff, Nat.reduceLT, Nat.reduceSub]; exact rfl) ?_
      have hget : (encSs (a)).getD dn.length [] = encS y := by rw [harg]; exact encSs_mid dn td y
      obtain ⟨z, rz, hz, hzm, hzl⟩ := at_same (a := b) dn.length (by omega)
      have hget2 : (encSs b).getD dn.length [] = encS z := by
        have := encSs_mid (b.take dn.length) rz z
        rw [← hz, hzl] at this
        exact this
      refine aw_ops zT fun K10 hK10 => ?_
      simp only [amset, amlib, zset, eq_self, ↓reduceIte, reduceCtorEq, Nat.reduceBEq, Nat.reduceEqDiff, Nat.reduceAdd, Nat.reduceMul, Nat.reduceLeDiff, Nat.reduceLT, Nat.reduceSub]
      refine hK10 _ ?_
      clear hK10
      refine aw_seq fun K11 hK11 => ?_
      refine aw_cond (t := true) (by simp [evalO, S.get, amLook]; omega) (fun _ => ?_) (fun h => nomatch h)
      refine aw_skip ?_
      simp only [thenQ, blkQ, if_true, reduceIte, Nat.reduceEqDiff, eq_self]
      refine hK11 _ ?_
      clear hK11
      refine aw_seq fun K12 hK12 => ?_
      refine aw_block ?_
      refine aw_ops zT fun K13 hK13 => ?_
      simp only [amset, amlib, zset, hget, eq_self, ↓reduceIte, reduceCtorEq, Nat.reduceBEq, Nat.reduceEqDiff, Nat.reduceAdd, Nat.reduceMul, Nat.reduceLeDiff, Nat.reduceLT, Nat.reduceSub]
      refine ⟨⟨by omega, by omega⟩, ?_⟩
      refine hK13 _ ?_
      clear hK13
      refine aw_ops zT fun K14 hK14 => ?_
      simp only [amset, amlib, zset, hget2, eq_self, ↓reduceIte, reduceCtorEq, Nat.reduceBEq, Nat.reduceEqDiff, Nat.reduceAdd, Nat.reduceMul, Nat.reduceLeDiff, Nat.reduceLT, Nat.reduceSub]
      refine ⟨⟨by omega, by omega⟩, ?_⟩
      refine hK14 _ ?_
      clear hK14
      refine aw_seq fun K15 hK15 => ?_
      cases g0 : (y.kind != z.kind) with
      | true =>
        refine aw_ops zT fun K16 hK16 => ?_
        simp only [amset, amlib, zset, g0, eq_self, ↓reduceIte, reduceCtorEq, Nat.reduceBEq, Nat.reduceEqDiff, Nat.reduceAdd, Nat.reduceMul, Nat.reduceLeDiff, Nat.reduceLT, Nat.reduceSub]
        intros
        intros
        refine hK16 _ ?_
        clear hK16
        refine aw_cond (t := true) rfl (fun _ => ?_) (fun h => nomatch h)
        refine aw_ops zT fun K17 hK17 => ?_
        simp only [amset, amlib, zset, eq_self, ↓reduceIte, reduceCtorEq, Nat.reduceBEq, Nat.reduceEqDiff, Nat.reduceAdd, Nat.reduceMul, Nat.reduceLeDiff, Nat.reduceLT, Nat.reduceSub]
        refine hK17 _ ?_
        clear hK17
        refine aw_ret ?_
        show resOf zG _ [.tmp 4] = some _
        simp only [amset, amlib, zset, eq_self, ↓reduceIte, reduceCtorEq, Nat.reduceBEq, Nat.reduceEqDiff, Nat.reduceAdd, Nat.reduceMul, Nat.reduceLeDiff, Nat.reduceLT, Nat.reduceSub]
        have hf : eqS y z = false := by
          rw [eqS_eq]
          simp at g0
          simp [g0]
        rw [harg, hz, eqM_fail hzl.symm hf]
      | false =>
        cases g1 : (!(y.name == z.name)) with
        | true =>
          refine aw_ops zT fun K16 hK16 => ?_
          simp only [amset, amlib, zset, g0, g1, eq_self, ↓reduceIte, reduceCtorEq, Nat.reduceBEq, Nat.reduceEqDiff, Nat.reduceAdd, Nat.reduceMul, Nat.reduceLeDiff, Nat.reduceLT, Nat.reduceSub]
          intros
          intros
          refine hK16 _ ?_
          clear hK16
          refine aw_cond (t := true) rfl (fun _ => ?_) (fun h => nomatch h)
          refine aw_ops zT fun K18 hK18 => ?_
          simp only [amset, amlib, zset, eq_self, ↓reduceIte, reduceCtorEq, Nat.reduceBEq, Nat.reduceEqDiff, Nat.reduceAdd, Nat.reduceMul, Nat.reduceLeDiff, Nat.reduceLT, Nat.reduceSub]
          refine hK18 _ ?_
          clear hK18
          refine aw_ret ?_
          show resOf zG _ [.tmp 4] = some _
          simp only [amset, amlib, zset, eq_self, ↓reduceIte, reduceCtorEq, Nat.reduceBEq, Nat.reduceEqDiff, Nat.reduceAdd, Nat.reduceMul, Nat.reduceLeDiff, Nat.reduceLT, Nat.reduceSub]
          have hf : eqS y z = false := by
            rw [eqS_eq]
            simp at g1
            simp [g1]
          rw [harg, hz, eqM_fail hzl.symm hf]
        | false =>
          cases g2 : (y.n != z.n) with
          | true =>
            refine aw_ops zT fun K16 hK16 => ?_
            simp only [amset, amlib, zset, g0, g1, g2, eq_self, ↓reduceIte, reduceCtorEq, Nat.reduceBEq, Nat.reduceEqDiff, Nat.reduceAdd, Nat.reduceMul, Nat.reduceLeDiff, Nat.reduceLT, Nat.reduceSub]
            intros
            intros
            refine hK16 _ ?_
            clear hK16
            refine aw_cond (t := true) rfl (fun _ => ?_) (fun h => nomatch h)
            refine aw_ops zT fun K19 hK19 => ?_
            simp only [amset, amlib, zset, eq_self, ↓reduceIte, reduceCtorEq, Nat.reduceBEq, Nat.reduceEqDiff, Nat.reduceAdd, Nat.reduceMul, Nat.reduceLeDiff, Nat.reduceLT, Nat.reduceSub]
            refine hK19 _ ?_
            clear hK19
            refine aw_ret ?_
            show resOf zG _ [.tmp 4] = some _
            simp only [amset, amlib, zset, eq_self, ↓reduceIte, reduceCtorEq, Nat.reduceBEq, Nat.reduceEqDiff, Nat.reduceAdd, Nat.reduceMul, Nat.reduceLeDiff, Nat.reduceLT, Nat.reduceSub]
            have hf : eqS y z = false := by
              rw [eqS_eq]
              simp at g2
              simp [g2]
            rw [harg, hz, eqM_fail hzl.symm hf]
          | false =>
            cases g3 : ((y.args.length : Int) != z.args.length) with
            | true =>
              refine aw_ops zT fun K16 hK16 => ?_
              simp only [amset, amlib, zset, g0, g1, g2, g3, eq_self, ↓reduceIte, reduceCtorEq, Nat.reduceBEq, Nat.reduceEqDiff, Nat.reduceAdd, Nat.reduceMul, Nat.reduceLeDiff, Nat.reduceLT, Nat.reduceSub]
              intros
              intros
              refine hK16 _ ?_
              clear hK16
              refine aw_cond (t := true) rfl (fun _ => ?_) (fun h => nomatch h)
              refine aw_ops zT fun K20 hK20 => ?_
              simp only [amset, amlib, zset, eq_self, ↓reduceIte, reduceCtorEq, Nat.reduceBEq, Nat.reduceEqDiff, Nat.reduceAdd, Nat.reduceMul, Nat.reduceLeDiff, Nat.reduceLT, Nat.reduceSub]
              refine hK20 _ ?_
              clear hK20
              refine aw_ret ?_
              show resOf zG _ [.tmp 4] = some _
              simp only [amset, amlib, zset, eq_self, ↓reduceIte, reduceCtorEq, Nat.reduceBEq, Nat.reduceEqDiff, Nat.reduceAdd, Nat.reduceMul, Nat.reduceLeDiff, Nat.reduceLT, Nat.reduceSub]
              have hf : eqS y z = false := by
                rw [eqS_eq]
                simp at g3
                simp [eqL_ne (a := y.args) (b := z.args) (by omega)]
              rw [harg, hz, eqM_fail hzl.symm hf]
            | false =>
              cases g4 : (!eqM y.body z.body) with
              | true =>
                refine aw_ops zT fun K16 hK16 => ?_
                simp only [amset, amlib, zset, g0, g1, g2, g3, g4, eq_self, ↓reduceIte, reduceCtorEq, Nat.reduceBEq, Nat.reduceEqDiff, Nat.reduceAdd, Nat.reduceMul, Nat.reduceLeDiff, Nat.reduceLT, Nat.reduceSub]
                intros
                intros
                refine ⟨_, ih y.body (sizeOf_body hmem) z.body, ?_⟩
                simp only [later]
                simp only [amset, amlib, zset, g0, g1, g2, g3, g4, eq_self, ↓reduceIte, reduceCtorEq, Nat.reduceBEq, Nat.reduceEqDiff, Nat.reduceAdd, Nat.reduceMul, Nat.reduceLeDiff, Nat.reduceLT, Nat.reduceSub]
                refine hK16 _ ?_
                clear hK16
                refine aw_cond (t := true) rfl (fun _ => ?_) (fun h => nomatch h)
                refine aw_ops zT fun K21 hK21 => ?_
                simp only [amset, amlib, zset, eq_self, ↓reduceIte, reduceCtorEq, Nat.reduceBEq, Nat.reduceEqDiff, Nat.reduceAdd, Nat.reduceMul, Nat.reduceLeDiff, Nat.reduceLT, Nat.reduceSub]
                refine hK21 _ ?_
                clear hK21
                refine aw_ret ?_
                show resOf zG _ [.tmp 4] = some _
                simp only [amset, amlib, zset, eq_self, ↓reduceIte, reduceCtorEq, Nat.reduceBEq, Nat.reduceEqDiff, Nat.reduceAdd, Nat.reduceMul, Nat.reduceLeDiff, Nat.reduceLT, Nat.reduceSub]
                have hf : eqS y z = false := by
                  rw [eqS_eq]
                  simp at g4
                  simp [g4]
                rw [harg, hz, eqM_fail hzl.symm hf]
              | false =>
                cases g5 : (!eqM y.els z.els) with
                | true =>
                  refine aw_ops zT fun K16 hK16 => ?_
                  simp only [amset, amlib, zset, g0, g1, g2, g3, g4, g5, eq_self, ↓reduceIte, reduceCtorEq, Nat.reduceBEq, Nat.reduceEqDiff, Nat.reduceAdd, Nat.reduceMul, Nat.reduceLeDiff, Nat.reduceLT, Nat.reduceSub]
                  intros
                  intros
                  refine ⟨_, ih y.body (sizeOf_body hmem) z.body, ?_⟩
                  simp only [later]
                  simp only [amset, amlib, zset, g0, g1, g2, g3, g4, g5, eq_self, ↓reduceIte, reduceCtorEq, Nat.reduceBEq, Nat.reduceEqDiff, Nat.reduceAdd, Nat.reduceMul, Nat.reduceLeDiff, Nat.reduceLT, Nat.reduceSub]
                  refine ⟨_, ih y.els (sizeOf_els hmem) z.els, ?_⟩
                  simp only [later]
                  simp only [amset, amlib, zset, g0, g1, g2, g3, g4, g5, eq_self, ↓reduceIte, reduceCtorEq, Nat.reduceBEq, Nat.reduceEqDiff, Nat.reduceAdd, Nat.reduceMul, Nat.reduceLeDiff, Nat.reduceLT, Nat.reduceSub]
                  refine hK16 _ ?_
                  clear hK16
                  refine aw_cond (t := true) rfl (fun _ => ?_) (fun h => nomatch h)
                  refine aw_ops zT fun K22 hK22 => ?_
                  simp only [amset, amlib, zset, eq_self, ↓reduceIte, reduceCtorEq, Nat.reduceBEq, Nat.reduceEqDiff, Nat.reduceAdd, Nat.reduceMul, Nat.reduceLeDiff, Nat.reduceLT, Nat.reduceSub]
                  refine hK22 _ ?_
                  clear hK22
                  refine aw_ret ?_
                  show resOf zG _ [.tmp 4] = some _
                  simp only [amset, amlib, zset, eq_self, ↓reduceIte, reduceCtorEq, Nat.reduceBEq, Nat.reduceEqDiff, Nat.reduceAdd, Nat.reduceMul, Nat.reduceLeDiff, Nat.reduceLT, Nat.reduceSub]
                  have hf : eqS y z = false := by
                    rw [eqS_eq]
                    simp at g5
                    simp [g5]
                  rw [harg, hz, eqM_fail hzl.symm hf]
                | false =>
                  refine aw_ops zT fun K16 hK16 => ?_
                  simp only [amset, amlib, zset, g0, g1, g2, g3, g4, g5, eq_self, ↓reduceIte, reduceCtorEq, Nat.reduceBEq, Nat.reduceEqDiff, Nat.reduceAdd, Nat.reduceMul, Nat.reduceLeDiff, Nat.reduceLT, Nat.reduceSub]
                  intros
                  intros
                  refine ⟨_, ih y.body (sizeOf_body hmem) z.body, ?_⟩
                  simp only [later]
                  simp only [amset, amlib, zset, g0, g1, g2, g3, g4, g5, eq_self, ↓reduceIte, reduceCtorEq, Nat.reduceBEq, Nat.reduceEqDiff, Nat.reduceAdd, Nat.reduceMul, Nat.reduceLeDiff, Nat.reduceLT, Nat.reduceSub]
                  refine ⟨_, ih y.els (sizeOf_els hmem) z.els, ?_⟩
                  simp only [later]
                  simp only [amset, amlib, zset, g0, g1, g2, g3, g4, g5, eq_self, ↓reduceIte, reduceCtorEq, Nat.reduceBEq, Nat.reduceEqDiff, Nat.reduceAdd, Nat.reduceMul, Nat.reduceLeDiff, Nat.reduceLT, Nat.reduceSub]
                  refine hK16 _ ?_
                  clear hK16
                  refine aw_cond (t := false) rfl (fun h => nomatch h) (fun _ => ?_)
                  refine aw_skip ?_
                  simp only [thenQ, blkQ, if_true, reduceIte, Nat.reduceEqDiff, eq_self]
                  refine hK15 _ ?_
                  clear hK15
                  refine aw_ops zT fun K23 hK23 => ?_
                  simp only [amset, amlib, zset, eq_self, ↓reduceIte, reduceCtorEq, Nat.reduceBEq, Nat.reduceEqDiff, Nat.reduceAdd, Nat.reduceMul, Nat.reduceLeDiff, Nat.reduceLT, Nat.reduceSub]
                  intros
                  refine hK23 _ ?_
                  clear hK23
                  refine aw_block ?_
                  refine aw_range (α := Ex) (y.args) (fun dn1 => eqL dn1 (z.args.take dn1.length) = true) (fun dn1 => [(72, .cell (.c (.int .i64 dn1.length)))]) (fun dn1 => []) [] [4, 8, 72, 73, 74, 75, 76, 77, 78, 79, 80, 81, 82, 83, 84, 85, 86, 87] [] rfl ?_ ?_ ?_ ?_
                  · simp only [amset, amlib, zset, eq_self, ↓reduceIte, reduceCtorEq, Nat.reduceBEq, Nat.reduceEqDiff, Nat.reduceAdd, Nat.reduceMul, Nat.reduceLeDiff, Nat.reduceLT, Nat.reduceSub] <;> simp
                  · simp only [amset, amlib, zset, eq_self, ↓reduceIte, reduceCtorEq, Nat.reduceBEq, Nat.reduceEqDiff, Nat.reduceAdd, Nat.reduceMul, Nat.reduceLeDiff, Nat.reduceLT, Nat.reduceSub] <;> simp
                  · intro hI1 R1
                    refine aw_norm (by simp only [amset, amlib, zset, eq_self, ↓reduceIte, reduceCtorEq, Nat.reduceBEq, Nat.reduceEqDiff, Nat.reduceAdd, Nat.reduceMul, Nat.reduceLeDiff, Nat.reduceLT, Nat.reduceSub]; exact rfl) ?_
                    refine aw_ops zT fun K24 hK24 => ?_
                    simp only [amset, amlib, zset, eq_self, ↓reduceIte, reduceCtorEq, Nat.reduceBEq, Nat.reduceEqDiff, Nat.reduceAdd, Nat.reduceMul, Nat.reduceLeDiff, Nat.reduceLT, Nat.reduceSub]
                    refine hK24 _ ?_
                    clear hK24
                    refine aw_seq fun K25 hK25 => ?_
                    refine aw_cond (t := false) (by simp [evalO, S.get, amLook]) (fun h => nomatch h) (fun _ => ?_)
                    refine aw_exit ?_
                    simp only [thenQ, blkQ, if_true, reduceIte, Nat.reduceEqDiff, eq_self]
                    refine hK12 _ ?_
                    clear hK12
                    refine aw_region zT ?_
                    simp only [amset, amlib, zset, eq_self, ↓reduceIte, reduceCtorEq, Nat.reduceBEq, Nat.reduceEqDiff, Nat.reduceAdd, Nat.reduceMul, Nat.reduceLeDiff, Nat.reduceLT, Nat.reduceSub]
                    refine ⟨⟨by omega, by omega⟩, ?_⟩
                    refine hR _ (by rw [show (dn ++ [y]).length = dn.length + 1 by simp, take_snoc hz hzl, eqM_snoc hzl.symm, hI, eqS_eq]; simp at g0 g1 g2 g4 g5; simp [g0, g1, g2, g4, g5]; rw [← hI1]; congr 1; rw [show y.args.length = z.args.length by simp at g3; omega, List.take_length]) ?_
                    refine Reach.to ?_ ?_
                    · simp only [amset, amlib, zset, eq_self, ↓reduceIte, reduceCtorEq, Nat.reduceBEq, Nat.reduceEqDiff, Nat.reduceAdd, Nat.reduceMul, Nat.reduceLeDiff, Nat.reduceLT, Nat.reduceSub] <;> simp
                    · simp only [amset, amlib, zset, eq_self, ↓reduceIte, reduceCtorEq, Nat.reduceBEq, Nat.reduceEqDiff, Nat.reduceAdd, Nat.reduceMul, Nat.reduceLeDiff, Nat.reduceLT, Nat.reduceSub] <;> simp
                  · intro dn1 y1 td1 harg1 hI1 R1 hR1
                    have hl1 : (y.args).length = dn1.length + (td1.length + 1) := by rw [harg1]; simp
                    have hmem1 : y1 ∈ y.args := by rw [harg1]; simp
                    refine aw_norm (by simp only [amset, amlib, zset, eq_self, ↓reduceIte, reduceCtorEq, Nat.reduceBEq, Nat.reduceEqDiff, Nat.reduceAdd, Nat.reduceMul, Nat.reduceLeDiff, Nat.reduceLT, Nat.reduceSub]; exact rfl) ?_
                    have hget1 : (encEs (y.args)).getD dn1.length [] = encE y1 := by rw [harg1]; exact encEs_mid dn1 td1 y1
                    have hlen1 : y.args.length = z.args.length := by simp at g3; omega
                    obtain ⟨z1, rz1, hz1, hzm1, hzl1⟩ := at_same (a := z.args) dn1.length (by omega)
                    have hget3 : (encEs z.args).getD dn1.length [] = encE z1 := by
                      have := encEs_mid (z.args.take dn1.length) rz1 z1
                      rw [← hz1, hzl1] at this
                      exact this
                    refine aw_ops zT fun K26 hK26 => ?_
                    simp only [amset, amlib, zset, eq_self, ↓reduceIte, reduceCtorEq, Nat.reduceBEq, Nat.reduceEqDiff, Nat.reduceAdd, Nat.reduceMul, Nat.reduceLeDiff, Nat.reduceLT, Nat.reduceSub]
                    refine hK26 _ ?_
                    clear hK26
                    refine aw_seq fun K27 hK27 => ?_
                    refine aw_cond (t := true) (by simp [evalO, S.get, amLook]; omega) (fun _ => ?_) (fun h => nomatch h)
                    refine aw_skip ?_
                    simp only [thenQ, blkQ, if_true, reduceIte, Nat.reduceEqDiff, eq_self]
                    refine hK27 _ ?_
                    clear hK27
                    refine aw_seq fun K28 hK28 => ?_
                    refine aw_block ?_
                    refine aw_ops zT fun K29 hK29 => ?_
                    simp only [amset, amlib, zset, eq_self, ↓reduceIte, reduceCtorEq, Nat.reduceBEq, Nat.reduceEqDiff, Nat.reduceAdd, Nat.reduceMul, Nat.reduceLeDiff, Nat.reduceLT, Nat.reduceSub]
                    refine hK29 _ ?_
                    clear hK29
                    refine aw_draw zT prog_mixed fun K30 hK30 => ?_
                    simp only [amset, amlib, zset, hget1, hget3, eq_self, ↓reduceIte, reduceCtorEq, Nat.reduceBEq, Nat.reduceEqDiff, Nat.reduceAdd, Nat.reduceMul, Nat.reduceLeDiff, Nat.reduceLT, Nat.reduceSub]
                    refine ⟨⟨by omega, by omega⟩, ?_⟩
                    refine ⟨⟨by omega, by omega⟩, ?_⟩
                    refine ⟨_, holds21 y1 z1, ?_⟩
                    simp only [later]
                    simp only [amset, amlib, zset, eq_self, ↓reduceIte, reduceCtorEq, Nat.reduceBEq, Nat.reduceEqDiff, Nat.reduceAdd, Nat.reduceMul, Nat.reduceLeDiff, Nat.reduceLT, Nat.reduceSub]
                    refine ⟨by kernel_rfl, ?_⟩
                    refine hK30 _ ?_
                    clear hK30
                    refine aw_cond rfl (fun h1 => ?_) (fun h1 => ?_)
                    · skip
                      refine aw_ops zT fun K31 hK31 => ?_
                      simp only [amset, amlib, zset, eq_self, ↓reduceIte, reduceCtorEq, Nat.reduceBEq, Nat.reduceEqDiff, Nat.reduceAdd, Nat.reduceMul, Nat.reduceLeDiff, Nat.reduceLT, Nat.reduceSub]
                      refine hK31 _ ?_
                      clear hK31
                      refine aw_ret ?_
                      show resOf zG _ [.tmp 4] = some _
                      simp only [amset, amlib, zset, eq_self, ↓reduceIte, reduceCtorEq, Nat.reduceBEq, Nat.reduceEqDiff, Nat.reduceAdd, Nat.reduceMul, Nat.reduceLeDiff, Nat.reduceLT, Nat.reduceSub]
                      have hf : eqS y z = false := by
                        rw [eqS_eq]
                        have : eqL y.args z.args = false := by rw [harg1, hz1, eqL_fail hzl1.symm (by simpa using h1)]
                        simp [this]
                      rw [harg, hz, eqM_fail hzl.symm hf]
                    · skip
                      refine aw_skip ?_
                      simp only [thenQ, blkQ, if_true, reduceIte, Nat.reduceEqDiff, eq_self]
                      refine hK28 _ ?_
                      clear hK28
                      refine aw_region zT ?_
                      simp only [amset, amlib, zset, eq_self, ↓reduceIte, reduceCtorEq, Nat.reduceBEq, Nat.reduceEqDiff, Nat.reduceAdd, Nat.reduceMul, Nat.reduceLeDiff, Nat.reduceLT, Nat.reduceSub]
                      refine ⟨⟨by omega, by omega⟩, ?_⟩
                      refine hR1 _ (by rw [show (dn1 ++ [y1]).length = dn1.length + 1 by simp, take_snoc hz1 hzl1, eqL_snoc hzl1.symm]; simp [hI1]; simpa using h1) ?_
                      refine Reach.to ?_ ?_
                      · simp only [amset, amlib, zset, eq_self, ↓reduceIte, reduceCtorEq, Nat.reduceBEq, Nat.reduceEqDiff, Nat.reduceAdd, Nat.reduceMul, Nat.reduceLeDiff, Nat.reduceLT, Nat.reduceSub] <;> simp
                      · simp only [amset, amlib, zset, eq_self, ↓reduceIte, reduceCtorEq, Nat.reduceBEq, Nat.reduceEqDiff, Nat.reduceAdd, Nat.reduceMul, Nat.reduceLeDiff, Nat.reduceLT, Nat.reduceSub] <;> simp
theorem holds23 (a b : List St) : Holds Tryz.prog zG 23 [.c (.sl 7 (encSs a)), .c (.sl 7 (encSs b))] [.c (.bool (eqM a b))] := step23 a b fun m hm m2 => holds23 m m2
  termination_by SizeOf.sizeOf a
  decreasing_by exact hm
end Go.Proofs.Am
set_option maxRecDepth 100000
set_option maxHeartbeats 4000000
namespace Go.Proofs.Am
def pA : Pg := ⟨[⟨[78], 3, 0⟩], [], [], [], [], []⟩
def lA : List St := [.mk 4 [] 0 [binE' 12 (nameE [78]) (numE 5)] [emitS 1] [emitS 2] 0]
def xA : Ex := binE' 3 (binE' 5 (nameE [78]) (numE 2)) (nameE [97])
def xB : Ex := binE' 14 (numE 1) (nameE [98])
def siE (p : Pg) (x : Ex) : Ex := if wfA x then sxE (look p.consts) x else zE
def siM (p : Pg) (l : List St) : List St := if wfSs l then ssL (look p.consts) l else []
theorem hpA : ∀ c ∈ pA.consts, i16r c.value := by intro c hc; simp [pA] at hc; subst hc; simp [i16r]
theorem wdA : wdE xA := by simp [xA, binE', nameE, numE, wdE, wdL, i16r]
theorem wdB : wdE xB := by simp [xB, binE', nameE, numE, wdE, wdL, i16r]
theorem szXA : (subE xA).length ≤ 1000000000000 := by simp [xA, binE', nameE, numE, subE, subL]
theorem szXB : (subE xB).length ≤ 1000000000000 := by simp [xB, binE', nameE, numE, subE, subL]
theorem bdA' : bdM lA := by simp [lA, emitS, binE', nameE, numE, bdM, bdS, wdE, wdL, i16r, subE, subL]
theorem awA : eqE (siE pA xA) (binE' 3 (numE 6) (nameE [97])) = true := by kernel_rfl
theorem awB : eqE (siE pA xB) (binE' 9 (nameE [98]) (numE 0)) = true := by kernel_rfl
theorem awL : eqM (siM pA lA) [.mk 5 [] 1 [] [emitS 2] [] 0] = true := by kernel_rfl
theorem prog17 : Tryz.prog.funcs[17]? = some Tryz.f17 := by kernel_rfl
theorem holds17  : Holds Tryz.prog zG 17 [] [.c (.bool true)] := by
  refine holds_of_body zT prog17 rfl rfl rfl (by simp [Tryz.f17]) ?_
  refine aw_ops zT fun K1 hK1 => ?_
  simp only [amset, amlib, zset, eq_self, ↓reduceIte, reduceCtorEq, Nat.reduceBEq, Nat.reduceEqDiff, Nat.reduceAdd, Nat.reduceMul, Nat.reduceLeDiff, Nat.reduceLT, Nat.reduceSub]
  refine hK1 _ ?_
  clear hK1
  refine aw_ops zT fun K2 hK2 => ?_
  simp only [amset, amlib, zset, eq_self, ↓reduceIte, reduceCtorEq, Nat.reduceBEq, Nat.reduceEqDiff, Nat.reduceAdd, Nat.reduceMul, Nat.reduceLeDiff, Nat.reduceLT, Nat.reduceSub]
  refine hK2 _ ?_
  clear hK2
  refine aw_ops zT fun K3 hK3 => ?_
  simp only [amset, amlib, zset, eq_self, ↓reduceIte, reduceCtorEq, Nat.reduceBEq, Nat.reduceEqDiff, Nat.reduceAdd, Nat.reduceMul, Nat.reduceLeDiff, Nat.reduceLT, Nat.reduceSub]
  refine hK3 _ ?_
  clear hK3
  refine aw_freeze 5 ?_
  refine aw_freeze 6 ?_
  refine aw_norm (by simp only [amset, amlib, zset, eq_self, ↓reduceIte, reduceCtorEq, Nat.reduceBEq, Nat.reduceEqDiff, Nat.reduceAdd, Nat.reduceMul, Nat.reduceLeDiff, Nat.reduceLT, Nat.reduceSub]; exact rfl) ?_
  refine aw_draw zT prog_mixed fun K4 hK4 => ?_
  simp only [amset, amlib, zset, eq_self, ↓reduceIte, reduceCtorEq, Nat.reduceBEq, Nat.reduceEqDiff, Nat.reduceAdd, Nat.reduceMul, Nat.reduceLeDiff, Nat.reduceLT, Nat.reduceSub]
  refine ⟨_, holds60 [78], ?_⟩
  simp only [later]
  simp only [amset, amlib, zset, eq_self, ↓reduceIte, reduceCtorEq, Nat.reduceBEq, Nat.reduceEqDiff, Nat.reduceAdd, Nat.reduceMul, Nat.reduceLeDiff, Nat.reduceLT, Nat.reduceSub]
  refine ⟨_, holds58 5, ?_⟩
  simp only [later]
  simp only [amset, amlib, zset, eq_self, ↓reduceIte, reduceCtorEq, Nat.reduceBEq, Nat.reduceEqDiff, Nat.reduceAdd, Nat.reduceMul, Nat.reduceLeDiff, Nat.reduceLT, Nat.reduceSub]
  refine ⟨_, holds59 12 (nameE [78]) (numE 5), ?_⟩
  simp only [later]
  simp only [amset, amlib, zset, eq_self, ↓reduceIte, reduceCtorEq, Nat.reduceBEq, Nat.reduceEqDiff, Nat.reduceAdd, Nat.reduceMul, Nat.reduceLeDiff, Nat.reduceLT, Nat.reduceSub]
  refine ⟨_, holds57 _, ?_⟩
  simp only [later]
  simp only [amset, amlib, zset, eq_self, ↓reduceIte, reduceCtorEq, Nat.reduceBEq, Nat.reduceEqDiff, Nat.reduceAdd, Nat.reduceMul, Nat.reduceLeDiff, Nat.reduceLT, Nat.reduceSub]
  refine ⟨_, holds57 _, ?_⟩
  simp only [later]
  simp only [amset, amlib, zset, eq_self, ↓reduceIte, reduceCtorEq, Nat.reduceBEq, Nat.reduceEqDiff, Nat.reduceAdd, Nat.reduceMul, Nat.reduceLeDiff, Nat.reduceLT, Nat.reduceSub]
  refine ⟨_, holds24 pA hpA lA bdA' (by simp [lA]), ?_⟩
  simp only [later]
  simp only [amset, amlib, zset, eq_self, ↓reduceIte, reduceCtorEq, Nat.reduceBEq, Nat.reduceEqDiff, Nat.reduceAdd, Nat.reduceMul, Nat.reduceLeDiff, Nat.reduceLT, Nat.reduceSub]
  refine ⟨by kernel_rfl, ?_⟩
  refine hK4 _ ?_
  clear hK4
  refine aw_draw zT prog_mixed fun K5 hK5 => ?_
  simp only [amset, amlib, zset, awA, awB, awL, eq_self, ↓reduceIte, reduceCtorEq, Nat.reduceBEq, Nat.reduceEqDiff, Nat.reduceAdd, Nat.reduceMul, Nat.reduceLeDiff, Nat.reduceLT, Nat.reduceSub]
  refine ⟨_, holds60 [78], ?_⟩
  simp only [later]
  simp only [amset, amlib, zset, awA, awB, awL, eq_self, ↓reduceIte, reduceCtorEq, Nat.reduceBEq, Nat.reduceEqDiff, Nat.reduceAdd, Nat.reduceMul, Nat.reduceLeDiff, Nat.reduceLT, Nat.reduceSub]
  refine ⟨_, holds58 2, ?_⟩
  simp only [later]
  simp only [amset, amlib, zset, awA, awB, awL, eq_self, ↓reduceIte, reduceCtorEq, Nat.reduceBEq, Nat.reduceEqDiff, Nat.reduceAdd, Nat.reduceMul, Nat.reduceLeDiff, Nat.reduceLT, Nat.reduceSub]
  refine ⟨_, holds59 5 (nameE [78]) (numE 2), ?_⟩
  simp only [later]
  simp only [amset, amlib, zset, awA, awB, awL, eq_self, ↓reduceIte, reduceCtorEq, Nat.reduceBEq, Nat.reduceEqDiff, Nat.reduceAdd, Nat.reduceMul, Nat.reduceLeDiff, Nat.reduceLT, Nat.reduceSub]
  refine ⟨_, holds60 [97], ?_⟩
  simp only [later]
  simp only [amset, amlib, zset, awA, awB, awL, eq_self, ↓reduceIte, reduceCtorEq, Nat.reduceBEq, Nat.reduceEqDiff, Nat.reduceAdd, Nat.reduceMul, Nat.reduceLeDiff, Nat.reduceLT, Nat.reduceSub]
  refine ⟨_, holds59 3 (binE' 5 (nameE [78]) (numE 2)) (nameE [97]), ?_⟩
  simp only [later]
  simp only [amset, amlib, zset, awA, awB, awL, eq_self, ↓reduceIte, reduceCtorEq, Nat.reduceBEq, Nat.reduceEqDiff, Nat.reduceAdd, Nat.reduceMul, Nat.reduceLeDiff, Nat.reduceLT, Nat.reduceSub]
  refine ⟨_, holds20 pA hpA xA wdA szXA, ?_⟩
  simp only [later]
  simp only [amset, amlib, zset, awA, awB, awL, eq_self, ↓reduceIte, reduceCtorEq, Nat.reduceBEq, Nat.reduceEqDiff, Nat.reduceAdd, Nat.reduceMul, Nat.reduceLeDiff, Nat.reduceLT, Nat.reduceSub]
  refine ⟨_, holds58 6, ?_⟩
  simp only [later]
  simp only [amset, amlib, zset, awA, awB, awL, eq_self, ↓reduceIte, reduceCtorEq, Nat.reduceBEq, Nat.reduceEqDiff, Nat.reduceAdd, Nat.reduceMul, Nat.reduceLeDiff, Nat.reduceLT, Nat.reduceSub]
  refine ⟨_, holds60 [97], ?_⟩
  simp only [later]
  simp only [amset, amlib, zset, awA, awB, awL, eq_self, ↓reduceIte, reduceCtorEq, Nat.reduceBEq, Nat.reduceEqDiff, Nat.reduceAdd, Nat.reduceMul, Nat.reduceLeDiff, Nat.reduceLT, Nat.reduceSub]
  refine ⟨_, holds59 3 (numE 6) (nameE [97]), ?_⟩
  simp only [later]
  simp only [amset, amlib, zset, awA, awB, awL, eq_self, ↓reduceIte, reduceCtorEq, Nat.reduceBEq, Nat.reduceEqDiff, Nat.reduceAdd, Nat.reduceMul, Nat.reduceLeDiff, Nat.reduceLT, Nat.reduceSub]
  refine ⟨_, holds21 (siE pA xA) (binE' 3 (numE 6) (nameE [97])), ?_⟩
  simp only [later]
  simp only [amset, amlib, zset, awA, awB, awL, eq_self, ↓reduceIte, reduceCtorEq, Nat.reduceBEq, Nat.reduceEqDiff, Nat.reduceAdd, Nat.reduceMul, Nat.reduceLeDiff, Nat.reduceLT, Nat.reduceSub]
  refine ⟨_, holds58 1, ?_⟩
  simp only [later]
  simp only [amset, amlib, zset, awA, awB, awL, eq_self, ↓reduceIte, reduceCtorEq, Nat.reduceBEq, Nat.reduceEqDiff, Nat.reduceAdd, Nat.reduceMul, Nat.reduceLeDiff, Nat.reduceLT, Nat.reduceSub]
  refine ⟨_, holds60 [98], ?_⟩
  simp only [later]
  simp only [amset, amlib, zset, awA, awB, awL, eq_self, ↓reduceIte, reduceCtorEq, Nat.reduceBEq, Nat.reduceEqDiff, Nat.reduceAdd, Nat.reduceMul, Nat.reduceLeDiff, Nat.reduceLT, Nat.reduceSub]
  refine ⟨_, holds59 14 (numE 1) (nameE [98]), ?_⟩
  simp only [later]
  simp only [amset, amlib, zset, awA, awB, awL, eq_self, ↓reduceIte, reduceCtorEq, Nat.reduceBEq, Nat.reduceEqDiff, Nat.reduceAdd, Nat.reduceMul, Nat.reduceLeDiff, Nat.reduceLT, Nat.reduceSub]
  refine ⟨_, holds20 pA hpA xB wdB szXB, ?_⟩
  simp only [later]
  simp only [amset, amlib, zset, awA, awB, awL, eq_self, ↓reduceIte, reduceCtorEq, Nat.reduceBEq, Nat.reduceEqDiff, Nat.reduceAdd, Nat.reduceMul, Nat.reduceLeDiff, Nat.reduceLT, Nat.reduceSub]
  refine ⟨_, holds60 [98], ?_⟩
  simp only [later]
  simp only [amset, amlib, zset, awA, awB, awL, eq_self, ↓reduceIte, reduceCtorEq, Nat.reduceBEq, Nat.reduceEqDiff, Nat.reduceAdd, Nat.reduceMul, Nat.reduceLeDiff, Nat.reduceLT, Nat.reduceSub]
  refine ⟨_, holds58 0, ?_⟩
  simp only [later]
  simp only [amset, amlib, zset, awA, awB, awL, eq_self, ↓reduceIte, reduceCtorEq, Nat.reduceBEq, Nat.reduceEqDiff, Nat.reduceAdd, Nat.reduceMul, Nat.reduceLeDiff, Nat.reduceLT, Nat.reduceSub]
  refine ⟨_, holds59 9 (nameE [98]) (numE 0), ?_⟩
  simp only [later]
  simp only [amset, amlib, zset, awA, awB, awL, eq_self, ↓reduceIte, reduceCtorEq, Nat.reduceBEq, Nat.reduceEqDiff, Nat.reduceAdd, Nat.reduceMul, Nat.reduceLeDiff, Nat.reduceLT, Nat.reduceSub]
  refine ⟨_, holds21 (siE pA xB) (binE' 9 (nameE [98]) (numE 0)), ?_⟩
  simp only [later]
  simp only [amset, amlib, zset, awA, awB, awL, eq_self, ↓reduceIte, reduceCtorEq, Nat.reduceBEq, Nat.reduceEqDiff, Nat.reduceAdd, Nat.reduceMul, Nat.reduceLeDiff, Nat.reduceLT, Nat.reduceSub]
  refine ⟨_, holds57 _, ?_⟩
  simp only [later]
  simp only [amset, amlib, zset, awA, awB, awL, eq_self, ↓reduceIte, reduceCtorEq, Nat.reduceBEq, Nat.reduceEqDiff, Nat.reduceAdd, Nat.reduceMul, Nat.reduceLeDiff, Nat.reduceLT, Nat.reduceSub]
  refine ⟨_, holds23 (siM pA lA) [.mk 5 [] 1 [] [emitS 2] [] 0], ?_⟩
  simp only [later]
  simp only [amset, amlib, zset, awA, awB, awL, eq_self, ↓reduceIte, reduceCtorEq, Nat.reduceBEq, Nat.reduceEqDiff, Nat.reduceAdd, Nat.reduceMul, Nat.reduceLeDiff, Nat.reduceLT, Nat.reduceSub]
  refine ⟨by kernel_rfl, ?_⟩
  refine hK5 _ ?_
  clear hK5
  refine aw_ret ?_
  show resOf zG _ [.tmp 0] = some _
  simp only [amset, amlib, zset, eq_self, ↓reduceIte, reduceCtorEq, Nat.reduceBEq, Nat.reduceEqDiff, Nat.reduceAdd, Nat.reduceMul, Nat.reduceLeDiff, Nat.reduceLT, Nat.reduceSub]
end Go.Proofs.Am
set_option maxRecDepth 100000
set_option maxHeartbeats 4000000
namespace Go.Proofs.Am
mutual
theorem pr_sub : ∀ x : Ex, (subE x).all (fun z => !(z.kind == 4)) = prE x
  | .mk k n v o a p => by
    rw [subE, List.all_cons, prE, pr_subL a]
    rfl
theorem pr_subL : ∀ l : List Ex, (subL l).all (fun z => !(z.kind == 4)) = prL l
  | [] => rfl
  | x :: r => by rw [subL, List.all_append, prL, pr_sub x, pr_subL r]
end
theorem prog27 : Tryz.prog.funcs[27]? = some Tryz.f27 := by kernel_rfl
theorem holds27 (p : Pg) (hp : ∀ c ∈ p.consts, i16r c.value) (x : Ex) (hw : wdE x) (hs : (subE x).length ≤ 1000000000000) : Holds Tryz.prog zG 27 [.agg [.sl 3 (encCs p.consts), .sl 4 (encGs p.globals), .sl 1 (encStrs p.sensors), .sl 1 (encStrs p.outputs), .sl 3 (encHs p.channels), .sl 8 (encTs p.tasks)], .agg [.int .i64 x.kind, .str x.name, .int .i16 x.value, .int .i64 x.op, .sl 6 (encEs x.args), .int .i64 x.pos]] [.c (.int .i16 ((if wfA x then cnE (look p.consts) x else none).getD 0)), .c (.bool (if wfA x then cnE (look p.consts) x else none).isSome)] := by
  refine holds_of_body zT prog27 rfl rfl rfl (by simp [Tryz.f27]) ?_
  refine aw_ops zT fun K1 hK1 => ?_
  simp only [amset, amlib, zset, eq_self, ↓reduceIte, reduceCtorEq, Nat.reduceBEq, Nat.reduceEqDiff, Nat.reduceAdd, Nat.reduceMul, Nat.reduceLeDiff, Nat.reduceLT, Nat.reduceSub]
  refine hK1 _ ?_
  clear hK1
  refine aw_seq fun K2 hK2 => ?_
  refine aw_ops zT fun K3 hK3 => ?_
  simp only [amset, amlib, zset, eq_self, ↓reduceIte, reduceCtorEq, Nat.reduceBEq, Nat.reduceEqDiff, Nat.reduceAdd, Nat.reduceMul, Nat.reduceLeDiff, Nat.reduceLT, Nat.reduceSub]
  refine ⟨_, holds34 x (wdE_eq x ▸ hw).1 (wdE_eq x ▸ hw).2 hs, ?_⟩
  simp only [later]
  simp only [amset, amlib, zset, eq_self, ↓reduceIte, reduceCtorEq, Nat.reduceBEq, Nat.reduceEqDiff, Nat.reduceAdd, Nat.reduceMul, Nat.reduceLeDiff, Nat.reduceLT, Nat.reduceSub]
  refine hK3 _ ?_
  clear hK3
  refine aw_cond rfl (fun h0 => ?_) (fun h0 => ?_)
  · skip
    refine aw_ops zT fun K4 hK4 => ?_
    simp only [amset, amlib, zset, eq_self, ↓reduceIte, reduceCtorEq, Nat.reduceBEq, Nat.reduceEqDiff, Nat.reduceAdd, Nat.reduceMul, Nat.reduceLeDiff, Nat.reduceLT, Nat.reduceSub]
    refine hK4 _ ?_
    clear hK4
    refine aw_ret ?_
    show resOf zG _ [.tmp 4, .tmp 5] = some _
    simp only [amset, amlib, zset, eq_self, ↓reduceIte, reduceCtorEq, Nat.reduceBEq, Nat.reduceEqDiff, Nat.reduceAdd, Nat.reduceMul, Nat.reduceLeDiff, Nat.reduceLT, Nat.reduceSub]
    have hwf : wfA x = false := by
      cases h : wfA x with
      | false => rfl
      | true => rw [h] at h0; simp only [↓reduceIte] at h0; rw [txA_ne x h] at h0; cases h0
    rw [hwf]
    rfl
  · skip
    refine aw_skip ?_
    simp only [thenQ, blkQ, if_true, reduceIte, Nat.reduceEqDiff, eq_self]
    refine hK2 _ ?_
    clear hK2
    have hwf : wfA x = true := by
      cases h : wfA x with
      | true => rfl
      | false => rw [h] at h0; simp at h0
    refine aw_draw zT prog_mixed fun K5 hK5 => ?_
    simp only [amset, amlib, zset, eq_self, ↓reduceIte, reduceCtorEq, Nat.reduceBEq, Nat.reduceEqDiff, Nat.reduceAdd, Nat.reduceMul, Nat.reduceLeDiff, Nat.reduceLT, Nat.reduceSub]
    refine ⟨_, holds63 p, ?_⟩
    simp only [later]
    simp only [amset, amlib, zset, eq_self, ↓reduceIte, reduceCtorEq, Nat.reduceBEq, Nat.reduceEqDiff, Nat.reduceAdd, Nat.reduceMul, Nat.reduceLeDiff, Nat.reduceLT, Nat.reduceSub]
    refine ⟨_, (by have := holds75 (cmap p.consts) x (okE_of_wf x hwf); rw [lk_eq p] at this; exact this), ?_⟩
    simp only [later]
    simp only [amset, amlib, zset, eq_self, ↓reduceIte, reduceCtorEq, Nat.reduceBEq, Nat.reduceEqDiff, Nat.reduceAdd, Nat.reduceMul, Nat.reduceLeDiff, Nat.reduceLT, Nat.reduceSub]
    refine ⟨by kernel_rfl, ?_⟩
    refine hK5 _ ?_
    clear hK5
    refine aw_ret ?_
    show resOf zG _ [.tmp 4, .tmp 5] = some _
    simp only [amset, amlib, zset, eq_self, ↓reduceIte, reduceCtorEq, Nat.reduceBEq, Nat.reduceEqDiff, Nat.reduceAdd, Nat.reduceMul, Nat.reduceLeDiff, Nat.reduceLT, Nat.reduceSub]
    rw [hwf]
    rfl
theorem prog30 : Tryz.prog.funcs[30]? = some Tryz.f30 := by kernel_rfl
theorem holds30 (x : Ex) (hs : (subE x).length ≤ 1000000000000) : Holds Tryz.prog zG 30 [.agg [.int .i64 x.kind, .str x.name, .int .i16 x.value, .int .i64 x.op, .sl 6 (encEs x.args), .int .i64 x.pos]] [.c (.bool (prE x))] := by
  refine holds_of_body zT prog30 rfl rfl rfl (by simp [Tryz.f30]) ?_
  refine aw_ops zT fun K1 hK1 => ?_
  simp only [amset, amlib, zset, eq_self, ↓reduceIte, reduceCtorEq, Nat.reduceBEq, Nat.reduceEqDiff, Nat.reduceAdd, Nat.reduceMul, Nat.reduceLeDiff, Nat.reduceLT, Nat.reduceSub]
  refine hK1 _ ?_
  clear hK1
  refine aw_seq fun K2 hK2 => ?_
  refine aw_ops zT fun K3 hK3 => ?_
  simp only [amset, amlib, zset, eq_self, ↓reduceIte, reduceCtorEq, Nat.reduceBEq, Nat.reduceEqDiff, Nat.reduceAdd, Nat.reduceMul, Nat.reduceLeDiff, Nat.reduceLT, Nat.reduceSub]
  refine ⟨_, holds19 x hs, ?_⟩
  simp only [later]
  simp only [amset, amlib, zset, eq_self, ↓reduceIte, reduceCtorEq, Nat.reduceBEq, Nat.reduceEqDiff, Nat.reduceAdd, Nat.reduceMul, Nat.reduceLeDiff, Nat.reduceLT, Nat.reduceSub]
  intros
  refine hK3 _ ?_
  clear hK3
  refine aw_block ?_
  refine aw_range (α := Ex) (subE x) (fun dn => dn.all (fun z => !(z.kind == 4)) = true) (fun dn => [(8, .cell (.c (.int .i64 dn.length)))]) (fun dn => []) [] [2, 4, 8, 9, 10, 11, 12, 13, 14, 15] [4] rfl ?_ ?_ ?_ ?_
  · simp only [amset, amlib, zset, eq_self, ↓reduceIte, reduceCtorEq, Nat.reduceBEq, Nat.reduceEqDiff, Nat.reduceAdd, Nat.reduceMul, Nat.reduceLeDiff, Nat.reduceLT, Nat.reduceSub] <;> simp [eq_self]
  · simp only [amset, amlib, zset, eq_self, ↓reduceIte, reduceCtorEq, Nat.reduceBEq, Nat.reduceEqDiff, Nat.reduceAdd, Nat.reduceMul, Nat.reduceLeDiff, Nat.reduceLT, Nat.reduceSub] <;> simp [eq_self]
  · intro hI R
    refine aw_norm (by simp only [amset, amlib, zset, eq_self, ↓reduceIte, reduceCtorEq, Nat.reduceBEq, Nat.reduceEqDiff, Nat.reduceAdd, Nat.reduceMul, Nat.reduceLeDiff, Nat.reduceLT, Nat.reduceSub]; exact rfl) ?_
    refine aw_ops zT fun K4 hK4 => ?_
    simp only [amset, amlib, zset, eq_self, ↓reduceIte, reduceCtorEq, Nat.reduceBEq, Nat.reduceEqDiff, Nat.reduceAdd, Nat.reduceMul, Nat.reduceLeDiff, Nat.reduceLT, Nat.reduceSub]
    refine hK4 _ ?_
    clear hK4
    refine aw_seq fun K5 hK5 => ?_
    refine aw_cond (t := false) (by simp [evalO, S.get, amLook]) (fun h => nomatch h) (fun _ => ?_)
    refine aw_exit ?_
    simp only [thenQ, blkQ, if_true, reduceIte, Nat.reduceEqDiff, eq_self]
    refine hK2 _ ?_
    clear hK2
    refine aw_ops zT fun K6 hK6 => ?_
    simp only [amset, amlib, zset, eq_self, ↓reduceIte, reduceCtorEq, Nat.reduceBEq, Nat.reduceEqDiff, Nat.reduceAdd, Nat.reduceMul, Nat.reduceLeDiff, Nat.reduceLT, Nat.reduceSub]
    refine hK6 _ ?_
    clear hK6
    refine aw_ret ?_
    show resOf zG _ [.tmp 2] = some _
    simp only [amset, amlib, zset, eq_self, ↓reduceIte, reduceCtorEq, Nat.reduceBEq, Nat.reduceEqDiff, Nat.reduceAdd, Nat.reduceMul, Nat.reduceLeDiff, Nat.reduceLT, Nat.reduceSub]
    rw [← pr_sub, hI]
  · intro dn y td harg hI R hR
    have hl : (subE x).length = dn.length + (td.length + 1) := by rw [harg]; simp
    have hmem : y ∈ subE x := by rw [harg]; simp
    refine aw_norm (by simp only [amset, amlib, zset, eq_self, ↓reduceIte, reduceCtorEq, Nat.reduceBEq, Nat.reduceEqDiff, Nat.reduceAdd, Nat.reduceMul, Nat.reduceLeDiff, Nat.reduceLT, Nat.reduceSub]; exact rfl) ?_
    have hget : (encEs (subE x)).getD dn.length [] = encE y := by rw [harg]; exact encEs_mid dn td y
    refine aw_ops zT fun K7 hK7 => ?_
    simp only [amset, amlib, zset, eq_self, ↓reduceIte, reduceCtorEq, Nat.reduceBEq, Nat.reduceEqDiff, Nat.reduceAdd, Nat.reduceMul, Nat.reduceLeDiff, Nat.reduceLT, Nat.reduceSub]
    refine hK7 _ ?_
    clear hK7
    refine aw_seq fun K8 hK8 => ?_
    refine aw_cond (t := true) (by simp [evalO, S.get, amLook]; omega) (fun _ => ?_) (fun h => nomatch h)
    refine aw_skip ?_
    simp only [thenQ, blkQ, if_true, reduceIte, Nat.reduceEqDiff, eq_self]
    refine hK8 _ ?_
    clear hK8
    refine aw_seq fun K9 hK9 => ?_
    refine aw_block ?_
    refine aw_ops zT fun K10 hK10 => ?_
    simp only [amset, amlib, zset, hget, eq_self, ↓reduceIte, reduceCtorEq, Nat.reduceBEq, Nat.reduceEqDiff, Nat.reduceAdd, Nat.reduceMul, Nat.reduceLeDiff, Nat.reduceLT, Nat.reduceSub]
    refine ⟨⟨by omega, by omega⟩, ?_⟩
    refine hK10 _ ?_
    clear hK10
    refine aw_ops zT fun K11 hK11 => ?_
    simp only [amset, amlib, zset, eq_self, ↓reduceIte, reduceCtorEq, Nat.reduceBEq, Nat.reduceEqDiff, Nat.reduceAdd, Nat.reduceMul, Nat.reduceLeDiff, Nat.reduceLT, Nat.reduceSub]
    refine hK11 _ ?_
    clear hK11
    refine aw_cond rfl (fun h0 => ?_) (fun h0 => ?_)
    · skip
      refine aw_ops zT fun K12 hK12 => ?_
      simp only [amset, amlib, zset, eq_self, ↓reduceIte, reduceCtorEq, Nat.reduceBEq, Nat.reduceEqDiff, Nat.reduceAdd, Nat.reduceMul, Nat.reduceLeDiff, Nat.reduceLT, Nat.reduceSub]
      refine hK12 _ ?_
      clear hK12
      refine aw_ret ?_
      show resOf zG _ [.tmp 2] = some _
      simp only [amset, amlib, zset, eq_self, ↓reduceIte, reduceCtorEq, Nat.reduceBEq, Nat.reduceEqDiff, Nat.reduceAdd, Nat.reduceMul, Nat.reduceLeDiff, Nat.reduceLT, Nat.reduceSub]
      have hf : prE x = false := by
        rw [← pr_sub, harg, List.all_append, List.all_cons, h0]
        simp
      rw [hf]
    · skip
      refine aw_skip ?_
      simp only [thenQ, blkQ, if_true, reduceIte, Nat.reduceEqDiff, eq_self]
      refine hK9 _ ?_
      clear hK9
      refine aw_region zT ?_
      simp only [amset, amlib, zset, eq_self, ↓reduceIte, reduceCtorEq, Nat.reduceBEq, Nat.reduceEqDiff, Nat.reduceAdd, Nat.reduceMul, Nat.reduceLeDiff, Nat.reduceLT, Nat.reduceSub]
      refine ⟨⟨by omega, by omega⟩, ?_⟩
      refine hR _ (by rw [List.all_append, hI]; simp only [List.all_cons, List.all_nil, h0]; rfl) ?_
      refine Reach.to ?_ ?_
      · simp only [amset, amlib, zset, eq_self, ↓reduceIte, reduceCtorEq, Nat.reduceBEq, Nat.reduceEqDiff, Nat.reduceAdd, Nat.reduceMul, Nat.reduceLeDiff, Nat.reduceLT, Nat.reduceSub] <;> simp [eq_self]
      · simp only [amset, amlib, zset, eq_self, ↓reduceIte, reduceCtorEq, Nat.reduceBEq, Nat.reduceEqDiff, Nat.reduceAdd, Nat.reduceMul, Nat.reduceLeDiff, Nat.reduceLT, Nat.reduceSub] <;> simp [eq_self]
theorem prog5 : Tryz.prog.funcs[5]? = some Tryz.f5 := by kernel_rfl
theorem holds5 (p : Pg) (hp : ∀ c ∈ p.consts, i16r c.value) (x : Ex) (hw : wdE x) (hs : (subE x).length ≤ 100000000000) (hb : szT p.tasks ≤ 1000000000000) (hd : depT p.tasks ≤ 1000000000000) : Holds Tryz.prog zG 5 [.agg [.sl 3 (encCs p.consts), .sl 4 (encGs p.globals), .sl 1 (encStrs p.sensors), .sl 1 (encStrs p.outputs), .sl 3 (encHs p.channels), .sl 8 (encTs p.tasks)], .agg [.int .i64 x.kind, .str x.name, .int .i16 x.value, .int .i64 x.op, .sl 6 (encEs x.args), .int .i64 x.pos]] [.c (.bool true)] := by
  refine holds_of_body zT prog5 rfl rfl rfl (by simp [Tryz.f5]) ?_
  refine aw_ops zT fun K1 hK1 => ?_
  simp only [amset, amlib, zset, eq_self, ↓reduceIte, reduceCtorEq, Nat.reduceBEq, Nat.reduceEqDiff, Nat.reduceAdd, Nat.reduceMul, Nat.reduceLeDiff, Nat.reduceLT, Nat.reduceSub]
  refine hK1 _ ?_
  clear hK1
  refine aw_seq fun K2 hK2 => ?_
  refine aw_ops zT fun K3 hK3 => ?_
  simp only [amset, amlib, zset, eq_self, ↓reduceIte, reduceCtorEq, Nat.reduceBEq, Nat.reduceEqDiff, Nat.reduceAdd, Nat.reduceMul, Nat.reduceLeDiff, Nat.reduceLT, Nat.reduceSub]
  refine ⟨_, holds17, ?_⟩
  simp only [later]
  simp only [amset, amlib, zset, eq_self, ↓reduceIte, reduceCtorEq, Nat.reduceBEq, Nat.reduceEqDiff, Nat.reduceAdd, Nat.reduceMul, Nat.reduceLeDiff, Nat.reduceLT, Nat.reduceSub]
  refine hK3 _ ?_
  clear hK3
  refine aw_cond rfl (fun h0 => ?_) (fun h0 => ?_)
  · skip
    refine aw_ops zT fun K4 hK4 => ?_
    simp only [amset, amlib, zset, eq_self, ↓reduceIte, reduceCtorEq, Nat.reduceBEq, Nat.reduceEqDiff, Nat.reduceAdd, Nat.reduceMul, Nat.reduceLeDiff, Nat.reduceLT, Nat.reduceSub]
    refine hK4 _ ?_
    clear hK4
    refine aw_ret ?_
    show resOf zG _ [.tmp 4] = some _
    simp only [amset, amlib, zset, eq_self, ↓reduceIte, reduceCtorEq, Nat.reduceBEq, Nat.reduceEqDiff, Nat.reduceAdd, Nat.reduceMul, Nat.reduceLeDiff, Nat.reduceLT, Nat.reduceSub]
    cases h0
  · skip
    refine aw_skip ?_
    simp only [thenQ, blkQ, if_true, reduceIte, Nat.reduceEqDiff, eq_self]
    refine hK2 _ ?_
    clear hK2
    refine aw_seq fun K5 hK5 => ?_
    refine aw_ops zT fun K6 hK6 => ?_
    cases s0 : smallP p with
    | true =>
      cases s1 : decide (((subE x).length : Int) > 200) with
      | true =>
        simp only [amset, amlib, zset, s0, s1, eq_self, ↓reduceIte, reduceCtorEq, Nat.reduceBEq, Nat.reduceEqDiff, Nat.reduceAdd, Nat.reduceMul, Nat.reduceLeDiff, Nat.reduceLT, Nat.reduceSub]
        refine ⟨_, holds18 p hb hd, ?_⟩
        simp only [later]
        simp only [amset, amlib, zset, s0, s1, eq_self, ↓reduceIte, reduceCtorEq, Nat.reduceBEq, Nat.reduceEqDiff, Nat.reduceAdd, Nat.reduceMul, Nat.reduceLeDiff, Nat.reduceLT, Nat.reduceSub]
        refine ⟨_, holds19 x (by omega), ?_⟩
        simp only [later]
        simp only [amset, amlib, zset, s0, s1, eq_self, ↓reduceIte, reduceCtorEq, Nat.reduceBEq, Nat.reduceEqDiff, Nat.reduceAdd, Nat.reduceMul, Nat.reduceLeDiff, Nat.reduceLT, Nat.reduceSub]
        intros
        refine hK6 _ ?_
        clear hK6
        refine aw_cond (t := true) rfl (fun _ => ?_) (fun h => nomatch h)
        refine aw_ops zT fun K7 hK7 => ?_
        simp only [amset, amlib, zset, eq_self, ↓reduceIte, reduceCtorEq, Nat.reduceBEq, Nat.reduceEqDiff, Nat.reduceAdd, Nat.reduceMul, Nat.reduceLeDiff, Nat.reduceLT, Nat.reduceSub]
        refine hK7 _ ?_
        clear hK7
        refine aw_ret ?_
        show resOf zG _ [.tmp 4] = some _
        simp only [amset, amlib, zset, eq_self, ↓reduceIte, reduceCtorEq, Nat.reduceBEq, Nat.reduceEqDiff, Nat.reduceAdd, Nat.reduceMul, Nat.reduceLeDiff, Nat.reduceLT, Nat.reduceSub]
      | false =>
        cases s2 : exOK x with
        | true =>
          simp only [amset, amlib, zset, s0, s1, s2, eq_self, ↓reduceIte, reduceCtorEq, Nat.reduceBEq, Nat.reduceEqDiff, Nat.reduceAdd, Nat.reduceMul, Nat.reduceLeDiff, Nat.reduceLT, Nat.reduceSub]
          refine ⟨_, holds18 p hb hd, ?_⟩
          simp only [later]
          simp only [amset, amlib, zset, s0, s1, s2, eq_self, ↓reduceIte, reduceCtorEq, Nat.reduceBEq, Nat.reduceEqDiff, Nat.reduceAdd, Nat.reduceMul, Nat.reduceLeDiff, Nat.reduceLT, Nat.reduceSub]
          refine ⟨_, holds19 x (by omega), ?_⟩
          simp only [later]
          simp only [amset, amlib, zset, s0, s1, s2, eq_self, ↓reduceIte, reduceCtorEq, Nat.reduceBEq, Nat.reduceEqDiff, Nat.reduceAdd, Nat.reduceMul, Nat.reduceLeDiff, Nat.reduceLT, Nat.reduceSub]
          intros
          refine ⟨_, holds26 x, ?_⟩
          simp only [later]
          simp only [amset, amlib, zset, s0, s1, s2, eq_self, ↓reduceIte, reduceCtorEq, Nat.reduceBEq, Nat.reduceEqDiff, Nat.reduceAdd, Nat.reduceMul, Nat.reduceLeDiff, Nat.reduceLT, Nat.reduceSub]
          refine hK6 _ ?_
          clear hK6
          refine aw_cond (t := false) rfl (fun h => nomatch h) (fun _ => ?_)
          refine aw_skip ?_
          simp only [thenQ, blkQ, if_true, reduceIte, Nat.reduceEqDiff, eq_self]
          refine hK5 _ ?_
          clear hK5
          have hwf : wfA x = true := by rw [wfA_exOK]; exact s2
          refine aw_ops zT fun K8 hK8 => ?_
          simp only [amset, amlib, zset, hwf, eq_self, ↓reduceIte, reduceCtorEq, Nat.reduceBEq, Nat.reduceEqDiff, Nat.reduceAdd, Nat.reduceMul, Nat.reduceLeDiff, Nat.reduceLT, Nat.reduceSub]
          refine ⟨_, holds27 p hp x hw (by omega), ?_⟩
          simp only [later]
          simp only [amset, amlib, zset, hwf, eq_self, ↓reduceIte, reduceCtorEq, Nat.reduceBEq, Nat.reduceEqDiff, Nat.reduceAdd, Nat.reduceMul, Nat.reduceLeDiff, Nat.reduceLT, Nat.reduceSub]
          refine hK8 _ ?_
          clear hK8
          refine aw_ops zT fun K9 hK9 => ?_
          simp only [amset, amlib, zset, eq_self, ↓reduceIte, reduceCtorEq, Nat.reduceBEq, Nat.reduceEqDiff, Nat.reduceAdd, Nat.reduceMul, Nat.reduceLeDiff, Nat.reduceLT, Nat.reduceSub]
          refine ⟨_, holds28 p hp x (okE_of_wf x hwf) hw, ?_⟩
          simp only [later]
          simp only [amset, amlib, zset, eq_self, ↓reduceIte, reduceCtorEq, Nat.reduceBEq, Nat.reduceEqDiff, Nat.reduceAdd, Nat.reduceMul, Nat.reduceLeDiff, Nat.reduceLT, Nat.reduceSub]
          refine hK9 _ ?_
          clear hK9
          refine aw_draw zT prog_mixed fun K10 hK10 => ?_
          simp only [amset, amlib, zset, eq_self, ↓reduceIte, reduceCtorEq, Nat.reduceBEq, Nat.reduceEqDiff, Nat.reduceAdd, Nat.reduceMul, Nat.reduceLeDiff, Nat.reduceLT, Nat.reduceSub]
          refine ⟨_, holds29 x, ?_⟩
          simp only [later]
          simp only [amset, amlib, zset, eq_self, ↓reduceIte, reduceCtorEq, Nat.reduceBEq, Nat.reduceEqDiff, Nat.reduceAdd, Nat.reduceMul, Nat.reduceLeDiff, Nat.reduceLT, Nat.reduceSub]
          refine ⟨_, holds30 x (by omega), ?_⟩
          simp only [later]
          simp only [amset, amlib, zset, eq_self, ↓reduceIte, reduceCtorEq, Nat.reduceBEq, Nat.reduceEqDiff, Nat.reduceAdd, Nat.reduceMul, Nat.reduceLeDiff, Nat.reduceLT, Nat.reduceSub]
          refine ⟨by kernel_rfl, ?_⟩
          refine hK10 _ ?_
          clear hK10
          refine aw_ret ?_
          show resOf zG _ [.tmp 4] = some _
          simp only [amset, amlib, zset, eq_self, ↓reduceIte, reduceCtorEq, Nat.reduceBEq, Nat.reduceEqDiff, Nat.reduceAdd, Nat.reduceMul, Nat.reduceLeDiff, Nat.reduceLT, Nat.reduceSub]
        | false =>
          simp only [amset, amlib, zset, s0, s1, s2, eq_self, ↓reduceIte, reduceCtorEq, Nat.reduceBEq, Nat.reduceEqDiff, Nat.reduceAdd, Nat.reduceMul, Nat.reduceLeDiff, Nat.reduceLT, Nat.reduceSub]
          refine ⟨_, holds18 p hb hd, ?_⟩
          simp only [later]
          simp only [amset, amlib, zset, s0, s1, s2, eq_self, ↓reduceIte, reduceCtorEq, Nat.reduceBEq, Nat.reduceEqDiff, Nat.reduceAdd, Nat.reduceMul, Nat.reduceLeDiff, Nat.reduceLT, Nat.reduceSub]
          refine ⟨_, holds19 x (by omega), ?_⟩
          simp only [later]
          simp only [amset, amlib, zset, s0, s1, s2, eq_self, ↓reduceIte, reduceCtorEq, Nat.reduceBEq, Nat.reduceEqDiff, Nat.reduceAdd, Nat.reduceMul, Nat.reduceLeDiff, Nat.reduceLT, Nat.reduceSub]
          intros
          refine ⟨_, holds26 x, ?_⟩
          simp only [later]
          simp only [amset, amlib, zset, s0, s1, s2, eq_self, ↓reduceIte, reduceCtorEq, Nat.reduceBEq, Nat.reduceEqDiff, Nat.reduceAdd, Nat.reduceMul, Nat.reduceLeDiff, Nat.reduceLT, Nat.reduceSub]
          refine hK6 _ ?_
          clear hK6
          refine aw_cond (t := true) rfl (fun _ => ?_) (fun h => nomatch h)
          refine aw_ops zT fun K11 hK11 => ?_
          simp only [amset, amlib, zset, eq_self, ↓reduceIte, reduceCtorEq, Nat.reduceBEq, Nat.reduceEqDiff, Nat.reduceAdd, Nat.reduceMul, Nat.reduceLeDiff, Nat.reduceLT, Nat.reduceSub]
          refine hK11 _ ?_
          clear hK11
          refine aw_ret ?_
          show resOf zG _ [.tmp 4] = some _
          simp only [amset, amlib, zset, eq_self, ↓reduceIte, reduceCtorEq, Nat.reduceBEq, Nat.reduceEqDiff, Nat.reduceAdd, Nat.reduceMul, Nat.reduceLeDiff, Nat.reduceLT, Nat.reduceSub]
    | false =>
      simp only [amset, amlib, zset, s0, eq_self, ↓reduceIte, reduceCtorEq, Nat.reduceBEq, Nat.reduceEqDiff, Nat.reduceAdd, Nat.reduceMul, Nat.reduceLeDiff, Nat.reduceLT, Nat.reduceSub]
      refine ⟨_, holds18 p hb hd, ?_⟩
      simp only [later]
      simp only [amset, amlib, zset, s0, eq_self, ↓reduceIte, reduceCtorEq, Nat.reduceBEq, Nat.reduceEqDiff, Nat.reduceAdd, Nat.reduceMul, Nat.reduceLeDiff, Nat.reduceLT, Nat.reduceSub]
      refine hK6 _ ?_
      clear hK6
      refine aw_cond (t := true) rfl (fun _ => ?_) (fun h => nomatch h)
      refine aw_ops zT fun K12 hK12 => ?_
      simp only [amset, amlib, zset, eq_self, ↓reduceIte, reduceCtorEq, Nat.reduceBEq, Nat.reduceEqDiff, Nat.reduceAdd, Nat.reduceMul, Nat.reduceLeDiff, Nat.reduceLT, Nat.reduceSub]
      refine hK12 _ ?_
      clear hK12
      refine aw_ret ?_
      show resOf zG _ [.tmp 4] = some _
      simp only [amset, amlib, zset, eq_self, ↓reduceIte, reduceCtorEq, Nat.reduceBEq, Nat.reduceEqDiff, Nat.reduceAdd, Nat.reduceMul, Nat.reduceLeDiff, Nat.reduceLT, Nat.reduceSub]
end Go.Proofs.Am
