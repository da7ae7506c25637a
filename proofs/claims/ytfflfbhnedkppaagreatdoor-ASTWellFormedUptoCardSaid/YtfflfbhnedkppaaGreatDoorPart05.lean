/- Part 5 of a proof that the law holds of every input of the given bulk. -/
import Derived.Test.YtfflfbhnedkppaaGreatDoorPart04
import Derived.Test.YtfflfbhnedkppaaGreatDoorPart00
import Derived.ChangeShapes
import Derived.DataReads
import Derived.Test.YtfflfbhnedkppaaGreatDoorRows
import Derived.RowKit
import Derived.ChangeSame
import Derived.Carry
import Derived.WideKeyArgs
import Derived.Shelf.Strings.Fields
import Derived.Shelf.Strconv.Itoa3
import Derived.Lib.ItoaLen
import Derived.Test.YtfflfbhnedkppaaGreatDoorPart02
import Derived.Lib.Strings
import Derived.Lib.Slices
import Derived.Lib.Walk
import Derived.Lib.Builder
import Derived.Lib.AppendStr
import Derived.Lib.UnsafeStr
import Derived.WalkKit
import Derived.Laws.Externs
import Derived.ProofKit
set_option autoImplicit false
set_option linter.unusedSimpArgs false
set_option linter.unusedVariables false
set_option linter.unusedSectionVars false
set_option maxRecDepth 100000
set_option maxHeartbeats 4000000
namespace Go.Proofs.Am
open Nat (reduceEqDiff reduceAdd reduceMul reduceLeDiff reduceLT reduceSub)
mutual
def subE : Ex → List Ex
 | .mk k n v o a p => .mk k n v o a p :: subL a
def subL : List Ex → List Ex
 | [] => []
 | x :: r => subE x ++ subL r
end
theorem subE_eq (x : Ex) : subE x = x :: subL x.args := by cases x; rfl
theorem subL_append (a b : List Ex) : subL (a ++ b) = subL a ++ subL b := by
 induction a with
 | nil => rfl
 | cons x r ih => simp [subL, ih]
theorem prog19 : Tryz.prog.funcs[19]? = some Tryz.f19 := by kernel_rfl
theorem step19 (x : Ex) (hb : (subE x).length ≤ 1000000000000) (ih : ∀ y ∈ x.args, (subE y).length ≤ 1000000000000 → Holds Tryz.prog zG 19 [.agg [.int .i64 y.kind, .str y.name, .int .i16 y.value, .int .i64 y.op, .sl 6 (encEs y.args), .int .i64 y.pos]] [.c (.sl 6 (encEs (subE y)))]) : Holds Tryz.prog zG 19 [.agg [.int .i64 x.kind, .str x.name, .int .i16 x.value, .int .i64 x.op, .sl 6 (encEs x.args), .int .i64 x.pos]] [.c (.sl 6 (encEs (subE x)))] := by
 refine holds_of_body zT prog19 rfl rfl rfl (by simp [Tryz.f19]) ?_
 refine aw_ops zT fun K1 hK1 => ?_
 refine sg ?_
 refine hK1 _ ?_
 clear hK1
 refine aw_ops zT fun K2 hK2 => ?_
 refine sg ?_
 refine hK2 _ ?_
 clear hK2
 refine aw_seq fun K3 hK3 => ?_
 refine aw_ops zT fun K4 hK4 => ?_
 refine sg ?_
 intros
 refine hK4 _ ?_
 clear hK4
 refine aw_block ?_
 refine aw_retag 7 0 1003 tsg ?_
 refine aw_nm ?_
 refine aw_range (α := Ex) (x.args) (fun dn => True) (fun dn => [(3, .cell (.own 1003 0 32 6 (encEs (x :: subL dn)))), (11, .cell (.c (.int .i64 dn.length)))]) (fun dn => []) [1003] [3, 5, 11, 12, 13, 14, 15, 16, 17, 18, 19] [5] trivial ?_ ?_ ?_ ?_
 ·
  simp only [amset, amlib, zset, eq_self, ↓reduceIte, reduceCtorEq, Nat.reduceBEq, reduceEqDiff, reduceAdd, reduceMul, reduceLeDiff, reduceLT, reduceSub] <;> simp [subL, subL_append, encEs_cons, encEs_append, encEs_nil, encE_eq]
 ·
  simp only [amset, amlib, zset, eq_self, ↓reduceIte, reduceCtorEq, Nat.reduceBEq, reduceEqDiff, reduceAdd, reduceMul, reduceLeDiff, reduceLT, reduceSub] <;> simp [subL, subL_append, encEs_cons, encEs_append, encEs_nil, encE_eq]
 ·
  intro hI R
  refine aw_nm ?_
  refine aw_ops zT fun K5 hK5 => ?_
  refine sg ?_
  refine hK5 _ ?_
  clear hK5
  refine aw_seq fun K6 hK6 => ?_
  refine aw_cond (t := false) (by simp [evalO, S.get, amLook]) (fun h => nomatch h) (fun _ => ?_)
  refine aw_exit ?_
  simp only [thenQ, blkQ, if_true, reduceIte, Nat.reduceEqDiff, eq_self]
  refine hK3 _ ?_
  clear hK3
  refine aw_ops zT fun K7 hK7 => ?_
  refine sg ?_
  refine hK7 _ ?_
  clear hK7
  refine aw_ret ?_
  show resOf zG _ [.tmp 2] = some _
  simp only [amset, amlib, zset, eq_self, ↓reduceIte, reduceCtorEq, Nat.reduceBEq, reduceEqDiff, reduceAdd, reduceMul, reduceLeDiff, reduceLT, reduceSub]
  simp [subE_eq]
 ·
  intro dn y td harg hI R hR
  have hl : (x.args).length = dn.length + (td.length + 1) := by rw [harg]; simp
  have hmem : y ∈ x.args := by rw [harg]; simp
  refine aw_nm ?_
  have hget : (encEs (x.args)).getD dn.length [] = encE y := by rw [harg]; exact encEs_mid dn td y
  have h1 : (subE x).length = (subL dn).length + 1 + (subE y).length + (subL td).length := by
   rw [subE_eq, harg, subL_append]
   simp [subL]
   omega
  refine aw_ops zT fun K8 hK8 => ?_
  refine sg ?_
  refine hK8 _ ?_
  clear hK8
  refine aw_seq fun K9 hK9 => ?_
  refine aw_cond (t := true) (by simp [evalO, S.get, amLook]; omega) (fun _ => ?_) (fun h => nomatch h)
  refine aw_skip ?_
  simp only [thenQ, blkQ, if_true, reduceIte, Nat.reduceEqDiff, eq_self]
  refine hK9 _ ?_
  clear hK9
  refine aw_seq fun K10 hK10 => ?_
  refine aw_block ?_
  refine aw_ops zT fun K11 hK11 => ?_
  simp only [amset, amlib, zset, hget, eq_self, ↓reduceIte, reduceCtorEq, Nat.reduceBEq, reduceEqDiff, reduceAdd, reduceMul, reduceLeDiff, reduceLT, reduceSub]
  refine ⟨⟨by omega, by omega⟩, ?_⟩
  refine hK11 _ ?_
  clear hK11
  refine aw_region zT ?_
  refine sg ?_
  refine ⟨_, ih y hmem (by omega), ?_⟩
  refine sgl ?_
  refine ⟨⟨encEs_rows _, by omega⟩, ?_⟩
  refine hK10 _ ?_
  clear hK10
  refine aw_region zT ?_
  refine sg ?_
  refine ⟨⟨by omega, by omega⟩, ?_⟩
  refine hR _ trivial ?_
  refine Reach.trans (Reach.retag 18 0 1003 ?_) (Reach.to ?_ ?_)
  ·
   simp only [amset, amlib, zset, eq_self, ↓reduceIte, reduceCtorEq, Nat.reduceBEq, reduceEqDiff, reduceAdd, reduceMul, reduceLeDiff, reduceLT, reduceSub]
  ·
   simp only [amset, amlib, zset, eq_self, ↓reduceIte, reduceCtorEq, Nat.reduceBEq, reduceEqDiff, reduceAdd, reduceMul, reduceLeDiff, reduceLT, reduceSub] <;> simp [subL, subL_append, encEs_cons, encEs_append, encEs_nil, encE_eq]
  ·
   simp only [amset, amlib, zset, eq_self, ↓reduceIte, reduceCtorEq, Nat.reduceBEq, reduceEqDiff, reduceAdd, reduceMul, reduceLeDiff, reduceLT, reduceSub] <;> simp [subL, subL_append, encEs_cons, encEs_append, encEs_nil, encE_eq]
theorem holds19 (x : Ex) (hb : (subE x).length ≤ 1000000000000) : Holds Tryz.prog zG 19 [.agg [.int .i64 x.kind, .str x.name, .int .i16 x.value, .int .i64 x.op, .sl 6 (encEs x.args), .int .i64 x.pos]] [.c (.sl 6 (encEs (subE x)))] := step19 x hb fun y hmem hb => holds19 y hb
  termination_by SizeOf.sizeOf x
  decreasing_by exact Ex.args_lt hmem
end Go.Proofs.Am
set_option maxRecDepth 100000
namespace Go.Proofs.Am
open Nat (reduceEqDiff reduceAdd reduceMul reduceLeDiff reduceLT reduceSub)
def bareE (x : Ex) : Ex := if (x.kind == 1) then .mk x.kind [] x.value 0 [] 0 else if (x.kind == 2 || x.kind == 3 || x.kind == 4) then .mk x.kind x.name 0 0 [] 0 else .mk x.kind [] 0 x.op [] 0
theorem prog72 : Tryz.prog.funcs[72]? = some Tryz.f72 := by kernel_rfl
theorem holds72 (x : Ex) : Holds Tryz.prog zG 72 [.agg [.int .i64 x.kind, .str x.name, .int .i16 x.value, .int .i64 x.op, .sl 6 (encEs x.args), .int .i64 x.pos]] [.agg (encE (bareE x))] := by
 refine holds_of_body zT prog72 rfl rfl rfl (by simp [Tryz.f72]) ?_
 refine aw_ops zT fun K1 hK1 => ?_
 refine sg ?_
 refine hK1 _ ?_
 clear hK1
 refine aw_seq fun K2 hK2 => ?_
 refine aw_ops zT fun K3 hK3 => ?_
 refine sg ?_
 refine hK3 _ ?_
 clear hK3
 refine aw_block ?_
 refine aw_ops zT fun K4 hK4 => ?_
 refine sg ?_
 refine hK4 _ ?_
 clear hK4
 refine aw_cond rfl (fun h0 => ?_) (fun h0 => ?_)
 ·
  refine aw_ops zT fun K5 hK5 => ?_
  refine sg ?_
  refine hK5 _ ?_
  clear hK5
  refine aw_ret ?_
  show resOf zG _ [.cell 2 32] = some _
  simp only [amset, amlib, zset, eq_self, ↓reduceIte, reduceCtorEq, Nat.reduceBEq, reduceEqDiff, reduceAdd, reduceMul, reduceLeDiff, reduceLT, reduceSub]
  simp only [bareE, h0, bools, ↓reduceIte]
  rfl
 ·
  refine aw_seq fun K6 hK6 => ?_
  refine aw_ops zT fun K7 hK7 => ?_
  refine sg ?_
  refine hK7 _ ?_
  clear hK7
  refine aw_cond rfl (fun h1 => ?_) (fun h1 => ?_)
  ·
   refine aw_norm (by simp only [amset, amlib, zset, h1, eq_self, ↓reduceIte, reduceCtorEq, Nat.reduceBEq, reduceEqDiff, reduceAdd, reduceMul, reduceLeDiff, reduceLT, reduceSub]; exact rfl) ?_
   refine aw_skip ?_
   simp only [thenQ, blkQ, if_true, reduceIte, Nat.reduceEqDiff, eq_self]
   refine hK6 _ ?_
   clear hK6
   refine aw_cond (t := true) rfl (fun _ => ?_) (fun h => nomatch h)
   refine aw_ops zT fun K8 hK8 => ?_
   refine sg ?_
   refine hK8 _ ?_
   clear hK8
   refine aw_ret ?_
   show resOf zG _ [.cell 2 32] = some _
   simp only [amset, amlib, zset, eq_self, ↓reduceIte, reduceCtorEq, Nat.reduceBEq, reduceEqDiff, reduceAdd, reduceMul, reduceLeDiff, reduceLT, reduceSub]
   simp only [bareE, h0, h1, bools, ↓reduceIte]
   rfl
  ·
   refine aw_norm (by simp only [amset, amlib, zset, h1, eq_self, ↓reduceIte, reduceCtorEq, Nat.reduceBEq, reduceEqDiff, reduceAdd, reduceMul, reduceLeDiff, reduceLT, reduceSub]; exact rfl) ?_
   refine aw_ops zT fun K9 hK9 => ?_
   refine sg ?_
   refine hK9 _ ?_
   clear hK9
   refine aw_cond rfl (fun h2 => ?_) (fun h2 => ?_)
   ·
    refine aw_norm (by simp only [amset, amlib, zset, h2, eq_self, ↓reduceIte, reduceCtorEq, Nat.reduceBEq, reduceEqDiff, reduceAdd, reduceMul, reduceLeDiff, reduceLT, reduceSub]; exact rfl) ?_
    refine aw_skip ?_
    simp only [thenQ, blkQ, if_true, reduceIte, Nat.reduceEqDiff, eq_self]
    refine hK6 _ ?_
    clear hK6
    refine aw_cond (t := true) rfl (fun _ => ?_) (fun h => nomatch h)
    refine aw_ops zT fun K10 hK10 => ?_
    refine sg ?_
    refine hK10 _ ?_
    clear hK10
    refine aw_ret ?_
    show resOf zG _ [.cell 2 32] = some _
    simp only [amset, amlib, zset, eq_self, ↓reduceIte, reduceCtorEq, Nat.reduceBEq, reduceEqDiff, reduceAdd, reduceMul, reduceLeDiff, reduceLT, reduceSub]
    simp only [bareE, h0, h1, h2, bools, ↓reduceIte]
    rfl
   ·
    refine aw_norm (by simp only [amset, amlib, zset, h2, eq_self, ↓reduceIte, reduceCtorEq, Nat.reduceBEq, reduceEqDiff, reduceAdd, reduceMul, reduceLeDiff, reduceLT, reduceSub]; exact rfl) ?_
    refine aw_region zT ?_
    refine sg ?_
    refine hK6 _ ?_
    clear hK6
    refine aw_cond rfl (fun h3 => ?_) (fun h3 => ?_)
    ·
     refine aw_norm (by simp only [amset, amlib, zset, h3, eq_self, ↓reduceIte, reduceCtorEq, Nat.reduceBEq, reduceEqDiff, reduceAdd, reduceMul, reduceLeDiff, reduceLT, reduceSub]; exact rfl) ?_
     refine aw_ops zT fun K11 hK11 => ?_
     refine sg ?_
     refine hK11 _ ?_
     clear hK11
     refine aw_ret ?_
     show resOf zG _ [.cell 2 32] = some _
     simp only [amset, amlib, zset, eq_self, ↓reduceIte, reduceCtorEq, Nat.reduceBEq, reduceEqDiff, reduceAdd, reduceMul, reduceLeDiff, reduceLT, reduceSub]
     simp only [bareE, h0, h1, h2, h3, bools, ↓reduceIte]
     rfl
    ·
     refine aw_norm (by simp only [amset, amlib, zset, h3, eq_self, ↓reduceIte, reduceCtorEq, Nat.reduceBEq, reduceEqDiff, reduceAdd, reduceMul, reduceLeDiff, reduceLT, reduceSub]; exact rfl) ?_
     refine aw_skip ?_
     simp only [thenQ, blkQ, if_true, reduceIte, Nat.reduceEqDiff, eq_self]
     refine hK2 _ ?_
     clear hK2
     refine aw_ops zT fun K12 hK12 => ?_
     refine sg ?_
     refine hK12 _ ?_
     clear hK12
     refine aw_ret ?_
     show resOf zG _ [.cell 2 32] = some _
     simp only [amset, amlib, zset, eq_self, ↓reduceIte, reduceCtorEq, Nat.reduceBEq, reduceEqDiff, reduceAdd, reduceMul, reduceLeDiff, reduceLT, reduceSub]
     simp only [bareE, h0, h1, h2, h3, bools, ↓reduceIte]
     rfl
end Go.Proofs.Am
set_option maxRecDepth 100000
namespace Go.Proofs.Am
open Nat (reduceEqDiff reduceAdd reduceMul reduceLeDiff reduceLT reduceSub)
def arityK (k : Int) : Int := if (k == 1 || k == 2 || k == 4) then 0 else if (k == 3 || k == 5) then 1 else if (k == 6) then 2 else -1
theorem prog73 : Tryz.prog.funcs[73]? = some Tryz.f73 := by kernel_rfl
theorem holds73 (k : Int) : Holds Tryz.prog zG 73 [.c (.int .i64 k)] [.c (.int .i64 (arityK k))] := by
 refine holds_of_body zT prog73 rfl rfl rfl (by simp [Tryz.f73]) ?_
 refine aw_ops zT fun K1 hK1 => ?_
 refine sg ?_
 refine hK1 _ ?_
 clear hK1
 refine aw_seq fun K2 hK2 => ?_
 refine aw_ops zT fun K3 hK3 => ?_
 refine sg ?_
 refine hK3 _ ?_
 clear hK3
 refine aw_block ?_
 refine aw_seq fun K4 hK4 => ?_
 refine aw_ops zT fun K5 hK5 => ?_
 refine sg ?_
 refine hK5 _ ?_
 clear hK5
 refine aw_cond rfl (fun h0 => ?_) (fun h0 => ?_)
 ·
  refine aw_norm (by simp only [amset, amlib, zset, h0, eq_self, ↓reduceIte, reduceCtorEq, Nat.reduceBEq, reduceEqDiff, reduceAdd, reduceMul, reduceLeDiff, reduceLT, reduceSub]; exact rfl) ?_
  refine aw_skip ?_
  simp only [thenQ, blkQ, if_true, reduceIte, Nat.reduceEqDiff, eq_self]
  refine hK4 _ ?_
  clear hK4
  refine aw_cond (t := true) rfl (fun _ => ?_) (fun h => nomatch h)
  refine aw_ops zT fun K6 hK6 => ?_
  refine sg ?_
  refine hK6 _ ?_
  clear hK6
  refine aw_ret ?_
  show resOf zG _ [.tmp 2] = some _
  simp only [amset, amlib, zset, eq_self, ↓reduceIte, reduceCtorEq, Nat.reduceBEq, reduceEqDiff, reduceAdd, reduceMul, reduceLeDiff, reduceLT, reduceSub]
  simp only [arityK, h0, bools, ↓reduceIte]
 ·
  refine aw_norm (by simp only [amset, amlib, zset, h0, eq_self, ↓reduceIte, reduceCtorEq, Nat.reduceBEq, reduceEqDiff, reduceAdd, reduceMul, reduceLeDiff, reduceLT, reduceSub]; exact rfl) ?_
  refine aw_ops zT fun K7 hK7 => ?_
  refine sg ?_
  refine hK7 _ ?_
  clear hK7
  refine aw_cond rfl (fun h1 => ?_) (fun h1 => ?_)
  ·
   refine aw_norm (by simp only [amset, amlib, zset, h1, eq_self, ↓reduceIte, reduceCtorEq, Nat.reduceBEq, reduceEqDiff, reduceAdd, reduceMul, reduceLeDiff, reduceLT, reduceSub]; exact rfl) ?_
   refine aw_skip ?_
   simp only [thenQ, blkQ, if_true, reduceIte, Nat.reduceEqDiff, eq_self]
   refine hK4 _ ?_
   clear hK4
   refine aw_cond (t := true) rfl (fun _ => ?_) (fun h => nomatch h)
   refine aw_ops zT fun K8 hK8 => ?_
   refine sg ?_
   refine hK8 _ ?_
   clear hK8
   refine aw_ret ?_
   show resOf zG _ [.tmp 2] = some _
   simp only [amset, amlib, zset, eq_self, ↓reduceIte, reduceCtorEq, Nat.reduceBEq, reduceEqDiff, reduceAdd, reduceMul, reduceLeDiff, reduceLT, reduceSub]
   simp only [arityK, h0, h1, bools, ↓reduceIte]
  ·
   refine aw_norm (by simp only [amset, amlib, zset, h1, eq_self, ↓reduceIte, reduceCtorEq, Nat.reduceBEq, reduceEqDiff, reduceAdd, reduceMul, reduceLeDiff, reduceLT, reduceSub]; exact rfl) ?_
   refine aw_region zT ?_
   refine sg ?_
   refine hK4 _ ?_
   clear hK4
   refine aw_cond rfl (fun h2 => ?_) (fun h2 => ?_)
   ·
    refine aw_norm (by simp only [amset, amlib, zset, h2, eq_self, ↓reduceIte, reduceCtorEq, Nat.reduceBEq, reduceEqDiff, reduceAdd, reduceMul, reduceLeDiff, reduceLT, reduceSub]; exact rfl) ?_
    refine aw_ops zT fun K9 hK9 => ?_
    refine sg ?_
    refine hK9 _ ?_
    clear hK9
    refine aw_ret ?_
    show resOf zG _ [.tmp 2] = some _
    simp only [amset, amlib, zset, eq_self, ↓reduceIte, reduceCtorEq, Nat.reduceBEq, reduceEqDiff, reduceAdd, reduceMul, reduceLeDiff, reduceLT, reduceSub]
    simp only [arityK, h0, h1, h2, bools, ↓reduceIte]
   ·
    refine aw_norm (by simp only [amset, amlib, zset, h2, eq_self, ↓reduceIte, reduceCtorEq, Nat.reduceBEq, reduceEqDiff, reduceAdd, reduceMul, reduceLeDiff, reduceLT, reduceSub]; exact rfl) ?_
    refine aw_seq fun K10 hK10 => ?_
    refine aw_ops zT fun K11 hK11 => ?_
    refine sg ?_
    refine hK11 _ ?_
    clear hK11
    refine aw_cond rfl (fun h3 => ?_) (fun h3 => ?_)
    ·
     refine aw_norm (by simp only [amset, amlib, zset, h3, eq_self, ↓reduceIte, reduceCtorEq, Nat.reduceBEq, reduceEqDiff, reduceAdd, reduceMul, reduceLeDiff, reduceLT, reduceSub]; exact rfl) ?_
     refine aw_skip ?_
     simp only [thenQ, blkQ, if_true, reduceIte, Nat.reduceEqDiff, eq_self]
     refine hK10 _ ?_
     clear hK10
     refine aw_cond (t := true) rfl (fun _ => ?_) (fun h => nomatch h)
     refine aw_ops zT fun K12 hK12 => ?_
     refine sg ?_
     refine hK12 _ ?_
     clear hK12
     refine aw_ret ?_
     show resOf zG _ [.tmp 2] = some _
     simp only [amset, amlib, zset, eq_self, ↓reduceIte, reduceCtorEq, Nat.reduceBEq, reduceEqDiff, reduceAdd, reduceMul, reduceLeDiff, reduceLT, reduceSub]
     simp only [arityK, h0, h1, h2, h3, bools, ↓reduceIte]
    ·
     refine aw_norm (by simp only [amset, amlib, zset, h3, eq_self, ↓reduceIte, reduceCtorEq, Nat.reduceBEq, reduceEqDiff, reduceAdd, reduceMul, reduceLeDiff, reduceLT, reduceSub]; exact rfl) ?_
     refine aw_region zT ?_
     refine sg ?_
     refine hK10 _ ?_
     clear hK10
     refine aw_cond rfl (fun h4 => ?_) (fun h4 => ?_)
     ·
      refine aw_norm (by simp only [amset, amlib, zset, h4, eq_self, ↓reduceIte, reduceCtorEq, Nat.reduceBEq, reduceEqDiff, reduceAdd, reduceMul, reduceLeDiff, reduceLT, reduceSub]; exact rfl) ?_
      refine aw_ops zT fun K13 hK13 => ?_
      refine sg ?_
      refine hK13 _ ?_
      clear hK13
      refine aw_ret ?_
      show resOf zG _ [.tmp 2] = some _
      simp only [amset, amlib, zset, eq_self, ↓reduceIte, reduceCtorEq, Nat.reduceBEq, reduceEqDiff, reduceAdd, reduceMul, reduceLeDiff, reduceLT, reduceSub]
      simp only [arityK, h0, h1, h2, h3, h4, bools, ↓reduceIte]
     ·
      refine aw_norm (by simp only [amset, amlib, zset, h4, eq_self, ↓reduceIte, reduceCtorEq, Nat.reduceBEq, reduceEqDiff, reduceAdd, reduceMul, reduceLeDiff, reduceLT, reduceSub]; exact rfl) ?_
      refine aw_ops zT fun K14 hK14 => ?_
      refine sg ?_
      refine hK14 _ ?_
      clear hK14
      refine aw_cond rfl (fun h5 => ?_) (fun h5 => ?_)
      ·
       refine aw_ops zT fun K15 hK15 => ?_
       refine sg ?_
       refine hK15 _ ?_
       clear hK15
       refine aw_ret ?_
       show resOf zG _ [.tmp 2] = some _
       simp only [amset, amlib, zset, eq_self, ↓reduceIte, reduceCtorEq, Nat.reduceBEq, reduceEqDiff, reduceAdd, reduceMul, reduceLeDiff, reduceLT, reduceSub]
       simp only [arityK, h0, h1, h2, h3, h4, h5, bools, ↓reduceIte]
      ·
       refine aw_skip ?_
       simp only [thenQ, blkQ, if_true, reduceIte, Nat.reduceEqDiff, eq_self]
       refine hK2 _ ?_
       clear hK2
       refine aw_ops zT fun K16 hK16 => ?_
       refine sg ?_
       refine hK16 _ ?_
       clear hK16
       refine aw_ret ?_
       show resOf zG _ [.tmp 2] = some _
       simp only [amset, amlib, zset, eq_self, ↓reduceIte, reduceCtorEq, Nat.reduceBEq, reduceEqDiff, reduceAdd, reduceMul, reduceLeDiff, reduceLT, reduceSub]
       simp only [arityK, h0, h1, h2, h3, h4, h5, bools, ↓reduceIte]
end Go.Proofs.Am
set_option maxRecDepth 100000
namespace Go.Proofs.Am
open Nat (reduceEqDiff reduceAdd reduceMul reduceLeDiff reduceLT reduceSub)
def kws : List (List UInt8) := [[99, 104, 97, 110, 110, 101, 108],
 [99, 104, 101, 99, 107, 112, 111, 105, 110, 116],
 [99, 111, 110, 115, 116],
 [100, 101, 97, 100, 108, 105, 110, 101],
 [101, 108, 115, 101],
 [101, 109, 105, 116],
 [101, 118, 101, 114, 121],
 [102, 114, 101, 115, 104],
 [105, 102],
 [108, 101, 116],
 [111, 110],
 [111, 117, 116, 112, 117, 116],
 [114, 101, 97, 100],
 [114, 101, 112, 101, 97, 116],
 [114, 101, 116, 117, 114, 110],
 [115, 101, 110, 100],
 [115, 101, 110, 115, 111, 114],
 [116, 97, 115, 107],
 [116, 111, 103, 101, 116, 104, 101, 114],
 [118, 97, 114],
 [119, 104, 105, 108, 101],
 [119, 105, 116, 104, 105, 110]]
theorem prog148 : Tryz.prog.funcs[148]? = some Tryz.f148 := by kernel_rfl
theorem holds148  : Holds Tryz.prog zG 148 [] [.c (.sl 1 (encStrs kws))] := by
 refine holds_of_body zT prog148 rfl rfl rfl (by simp [Tryz.f148]) ?_
 refine aw_ops zT fun K1 hK1 => ?_
 refine sg ?_
 refine hK1 _ ?_
 clear hK1
 refine aw_ops zT fun K2 hK2 => ?_
 refine sg ?_
 refine hK2 _ ?_
 clear hK2
 refine aw_ret ?_
 show resOf zG _ [.tmp 0] = some _
 simp only [amset, amlib, zset, eq_self, ↓reduceIte, reduceCtorEq, Nat.reduceBEq, reduceEqDiff, reduceAdd, reduceMul, reduceLeDiff, reduceLT, reduceSub]
 rfl
end Go.Proofs.Am
set_option maxRecDepth 100000
namespace Go.Proofs.Am
open Nat (reduceEqDiff reduceAdd reduceMul reduceLeDiff reduceLT reduceSub)
def isLetter (y : UInt8) : Bool := (decide ((y.toNat : Int) ≥ 97) && decide ((y.toNat : Int) ≤ 122)) || (decide ((y.toNat : Int) ≥ 65) && decide ((y.toNat : Int) ≤ 90)) || ((y.toNat : Int) == 95)
def okB (i : Nat) (y : UInt8) : Bool := isLetter y || (!((i : Int) == 0) && !decide ((y.toNat : Int) < 48) && !decide ((y.toNat : Int) > 57))
def bytesOk : Nat → List UInt8 → Bool
 | _, [] => true
 | i, c :: r => okB i c && bytesOk (i + 1) r
theorem bytesOk_append (a b : List UInt8) (i : Nat) : bytesOk i (a ++ b) = (bytesOk i a && bytesOk (i + a.length) b) := by
 induction a generalizing i with
 | nil => simp [bytesOk]
 | cons x r ih => simp [bytesOk, ih, Bool.and_assoc, Nat.add_assoc, Nat.add_comm 1]
def ident (s : List UInt8) : Bool := kws.all (fun k => !(s == k)) && bytesOk 0 s && decide ((s.length : Int) ≥ 1) && decide ((s.length : Int) ≤ 32)
theorem prog74 : Tryz.prog.funcs[74]? = some Tryz.f74 := by kernel_rfl
theorem holds74 (s : List UInt8) : Holds Tryz.prog zG 74 [.c (.str s)] [.c (.bool (ident s))] := by
 refine holds_of_body zT prog74 rfl rfl rfl (by simp [Tryz.f74]) ?_
 refine aw_ops zT fun K1 hK1 => ?_
 refine sg ?_
 refine hK1 _ ?_
 clear hK1
 refine aw_seq fun K2 hK2 => ?_
 refine aw_ops zT fun K3 hK3 => ?_
 refine sg ?_
 refine ⟨_, holds148, ?_⟩
 simp only [amset, later, amlib, zset, eq_self, ↓reduceIte, reduceCtorEq, Nat.reduceBEq, reduceEqDiff, reduceAdd, reduceMul, reduceLeDiff, reduceLT, reduceSub]
 intros
 refine hK3 _ ?_
 clear hK3
 refine aw_block ?_
 refine aw_range (α := (List UInt8)) (kws) (fun dn => dn.all (fun k => !(s == k)) = true) (fun dn => [(10, .cell (.c (.int .i64 dn.length)))]) (fun dn => []) [] [2, 4, 10, 11, 12, 13, 14, 15, 16, 17] [] rfl ?_ ?_ ?_ ?_
 ·
  simp only [amset, amlib, zset, eq_self, ↓reduceIte, reduceCtorEq, Nat.reduceBEq, reduceEqDiff, reduceAdd, reduceMul, reduceLeDiff, reduceLT, reduceSub] <;> simp [eq_self]
 ·
  simp only [amset, amlib, zset, eq_self, ↓reduceIte, reduceCtorEq, Nat.reduceBEq, reduceEqDiff, reduceAdd, reduceMul, reduceLeDiff, reduceLT, reduceSub] <;> simp [eq_self]
 ·
  intro hI R
  refine aw_nm ?_
  refine aw_ops zT fun K4 hK4 => ?_
  refine sg ?_
  refine hK4 _ ?_
  clear hK4
  refine aw_seq fun K5 hK5 => ?_
  refine aw_cond (t := false) (by simp [evalO, S.get, amLook]) (fun h => nomatch h) (fun _ => ?_)
  refine aw_exit ?_
  simp only [thenQ, blkQ, if_true, reduceIte, Nat.reduceEqDiff, eq_self]
  refine hK2 _ ?_
  clear hK2
  refine aw_seq fun K6 hK6 => ?_
  refine aw_ops zT fun K7 hK7 => ?_
  refine sg ?_
  refine hK7 _ ?_
  clear hK7
  refine aw_block ?_
  refine aw_to ⟨[(0, .cell (.c (.str s))), (5, .cell (.c (.int .i64 0)))], []⟩ ?_ ?_ ?_
  ·
   simp only [amset, amlib, zset, eq_self, ↓reduceIte, reduceCtorEq, Nat.reduceBEq, reduceEqDiff, reduceAdd, reduceMul, reduceLeDiff, reduceLT, reduceSub] <;> simp [eq_self]
  ·
   simp only [amset, amlib, zset, eq_self, ↓reduceIte, reduceCtorEq, Nat.reduceBEq, reduceEqDiff, reduceAdd, reduceMul, reduceLeDiff, reduceLT, reduceSub] <;> simp [eq_self]
  refine aw_range (α := UInt8) (s) (fun dn1 => bytesOk 0 dn1 = true) (fun dn1 => [(5, .cell (.c (.int .i64 dn1.length)))]) (fun dn1 => []) [] [2, 5, 6, 7, 18, 19, 20, 21, 22, 23, 24, 25, 26, 27, 28, 29, 30, 31, 32, 33, 34, 35, 36, 37, 38, 39, 40, 41, 42, 43, 44, 45, 46, 47, 48, 49, 50, 51, 52, 53, 54, 55, 56, 57, 58] [] rfl ?_ ?_ ?_ ?_
  ·
   simp only [amset, amlib, zset, eq_self, ↓reduceIte, reduceCtorEq, Nat.reduceBEq, reduceEqDiff, reduceAdd, reduceMul, reduceLeDiff, reduceLT, reduceSub] <;> simp [eq_self]
  ·
   simp only [amset, amlib, zset, eq_self, ↓reduceIte, reduceCtorEq, Nat.reduceBEq, reduceEqDiff, reduceAdd, reduceMul, reduceLeDiff, reduceLT, reduceSub] <;> simp [eq_self]
  ·
   intro hI1 R1
   refine aw_nm ?_
   refine aw_seq fun K8 hK8 => ?_
   refine aw_ops zT fun K9 hK9 => ?_
   refine sg ?_
   intros
   refine hK9 _ ?_
   clear hK9
   refine aw_cond (t := false) (by simp [evalO, S.get, amLook]) (fun h => nomatch h) (fun _ => ?_)
   refine aw_exit ?_
   simp only [thenQ, blkQ, if_true, reduceIte, Nat.reduceEqDiff, eq_self]
   refine hK6 _ ?_
   clear hK6
   refine aw_ops zT fun K10 hK10 => ?_
   cases f1 : decide ((s.length : Int) ≥ 1) with
   | true =>
    cases f2 : decide ((s.length : Int) ≤ 32) with
    | true =>
     simp only [amset, amlib, zset, f1, f2, eq_self, ↓reduceIte, reduceCtorEq, Nat.reduceBEq, reduceEqDiff, reduceAdd, reduceMul, reduceLeDiff, reduceLT, reduceSub]
     intros
     intros
     refine hK10 _ ?_
     clear hK10
     refine aw_ret ?_
     show resOf zG _ [.tmp 2] = some _
     simp only [amset, amlib, zset, eq_self, ↓reduceIte, reduceCtorEq, Nat.reduceBEq, reduceEqDiff, reduceAdd, reduceMul, reduceLeDiff, reduceLT, reduceSub]
     simp only [ident, hI, hI1, f1, f2]
     rfl
    | false =>
     simp only [amset, amlib, zset, f1, f2, eq_self, ↓reduceIte, reduceCtorEq, Nat.reduceBEq, reduceEqDiff, reduceAdd, reduceMul, reduceLeDiff, reduceLT, reduceSub]
     intros
     intros
     refine hK10 _ ?_
     clear hK10
     refine aw_ret ?_
     show resOf zG _ [.tmp 2] = some _
     simp only [amset, amlib, zset, eq_self, ↓reduceIte, reduceCtorEq, Nat.reduceBEq, reduceEqDiff, reduceAdd, reduceMul, reduceLeDiff, reduceLT, reduceSub]
     simp only [ident, hI, hI1, f1, f2]
     rfl
   | false =>
    simp only [amset, amlib, zset, f1, eq_self, ↓reduceIte, reduceCtorEq, Nat.reduceBEq, reduceEqDiff, reduceAdd, reduceMul, reduceLeDiff, reduceLT, reduceSub]
    intros
    intros
    refine hK10 _ ?_
    clear hK10
    refine aw_ret ?_
    show resOf zG _ [.tmp 2] = some _
    simp only [amset, amlib, zset, eq_self, ↓reduceIte, reduceCtorEq, Nat.reduceBEq, reduceEqDiff, reduceAdd, reduceMul, reduceLeDiff, reduceLT, reduceSub]
    simp only [ident, hI, hI1, f1]
    rfl
  ·
   intro dn1 y1 td1 harg1 hI1 R1 hR1
   have hl1 : (s).length = dn1.length + (td1.length + 1) := by rw [harg1]; simp
   have hmem1 : y1 ∈ s := by rw [harg1]; simp
   refine aw_nm ?_
   have hget1 : s.getD dn1.length 0 = y1 := by rw [harg1]; simp
   refine aw_seq fun K11 hK11 => ?_
   refine aw_ops zT fun K12 hK12 => ?_
   refine sg ?_
   intros
   refine hK12 _ ?_
   clear hK12
   refine aw_cond (t := true) (by simp [evalO, S.get, amLook]; omega) (fun _ => ?_) (fun h => nomatch h)
   refine aw_skip ?_
   simp only [thenQ, blkQ, if_true, reduceIte, Nat.reduceEqDiff, eq_self]
   refine hK11 _ ?_
   clear hK11
   refine aw_seq fun K13 hK13 => ?_
   refine aw_block ?_
   refine aw_ops zT fun K14 hK14 => ?_
   simp only [amset, amlib, zset, hget1, eq_self, ↓reduceIte, reduceCtorEq, Nat.reduceBEq, reduceEqDiff, reduceAdd, reduceMul, reduceLeDiff, reduceLT, reduceSub]
   refine ⟨⟨by omega, by omega⟩, ?_⟩
   refine hK14 _ ?_
   clear hK14
   refine aw_ops zT fun K15 hK15 => ?_
   have keyK15 : ∀ E B, envIn E ([(0, .cell (.c (.str s))), (5, .cell (.c (.int .i64 dn1.length))), (6, .cell (.c (.int .u8 y1.toNat))), (7, .cell (.c (.bool (isLetter y1))))] : List (Nat × V)) → envIn B ([] : List (Nat × List Cell)) → K15 ⟨E, B⟩ := by
    intro E B he hb
    refine hK15 _ (aw_to ⟨[(0, .cell (.c (.str s))), (5, .cell (.c (.int .i64 dn1.length))), (6, .cell (.c (.int .u8 y1.toNat))), (7, .cell (.c (.bool (isLetter y1))))], []⟩ he hb ?_)
    refine aw_ops zT fun K16 hK16 => ?_
    cases l : isLetter y1 with
    | true =>
     simp only [amset, amlib, zset, l, eq_self, ↓reduceIte, reduceCtorEq, Nat.reduceBEq, reduceEqDiff, reduceAdd, reduceMul, reduceLeDiff, reduceLT, reduceSub]
     refine hK16 _ ?_
     clear hK16
     refine aw_cond (t := false) rfl (fun h => nomatch h) (fun _ => ?_)
     refine aw_skip ?_
     simp only [thenQ, blkQ, if_true, reduceIte, Nat.reduceEqDiff, eq_self]
     refine hK13 _ ?_
     clear hK13
     refine aw_region zT ?_
     refine sg ?_
     refine ⟨⟨by omega, by omega⟩, ?_⟩
     refine hR1 _ (by rw [bytesOk_append, hI1]; simp only [bytesOk, okB, Nat.zero_add]; simp only [l]; rfl) ?_
     refine Reach.to ?_ ?_
     ·
      simp only [amset, amlib, zset, eq_self, ↓reduceIte, reduceCtorEq, Nat.reduceBEq, reduceEqDiff, reduceAdd, reduceMul, reduceLeDiff, reduceLT, reduceSub] <;> simp [eq_self]
     ·
      simp only [amset, amlib, zset, eq_self, ↓reduceIte, reduceCtorEq, Nat.reduceBEq, reduceEqDiff, reduceAdd, reduceMul, reduceLeDiff, reduceLT, reduceSub] <;> simp [eq_self]
    | false =>
     cases e1 : ((dn1.length : Int) == 0) with
     | true =>
      simp only [amset, amlib, zset, l, e1, eq_self, ↓reduceIte, reduceCtorEq, Nat.reduceBEq, reduceEqDiff, reduceAdd, reduceMul, reduceLeDiff, reduceLT, reduceSub]
      refine hK16 _ ?_
      clear hK16
      refine aw_cond (t := true) rfl (fun _ => ?_) (fun h => nomatch h)
      refine aw_ops zT fun K17 hK17 => ?_
      refine sg ?_
      refine hK17 _ ?_
      clear hK17
      refine aw_ret ?_
      show resOf zG _ [.tmp 2] = some _
      refine sg ?_
      have hb : bytesOk 0 s = false := by
       rw [harg1, bytesOk_append]
       simp only [bytesOk, okB, Nat.zero_add, l, e1]
       simp
      simp [ident, hb]
     | false =>
      cases e2 : decide ((y1.toNat : Int) < 48) with
      | true =>
       simp only [amset, amlib, zset, l, e1, e2, eq_self, ↓reduceIte, reduceCtorEq, Nat.reduceBEq, reduceEqDiff, reduceAdd, reduceMul, reduceLeDiff, reduceLT, reduceSub]
       refine hK16 _ ?_
       clear hK16
       refine aw_cond (t := true) rfl (fun _ => ?_) (fun h => nomatch h)
       refine aw_ops zT fun K18 hK18 => ?_
       refine sg ?_
       refine hK18 _ ?_
       clear hK18
       refine aw_ret ?_
       show resOf zG _ [.tmp 2] = some _
       refine sg ?_
       have hb : bytesOk 0 s = false := by
        rw [harg1, bytesOk_append]
        simp only [bytesOk, okB, Nat.zero_add, l, e1, e2]
        simp
       simp [ident, hb]
      | false =>
       cases e3 : decide ((y1.toNat : Int) > 57) with
       | true =>
        simp only [amset, amlib, zset, l, e1, e2, e3, eq_self, ↓reduceIte, reduceCtorEq, Nat.reduceBEq, reduceEqDiff, reduceAdd, reduceMul, reduceLeDiff, reduceLT, reduceSub]
        refine hK16 _ ?_
        clear hK16
        refine aw_cond (t := true) rfl (fun _ => ?_) (fun h => nomatch h)
        refine aw_ops zT fun K19 hK19 => ?_
        refine sg ?_
        refine hK19 _ ?_
        clear hK19
        refine aw_ret ?_
        show resOf zG _ [.tmp 2] = some _
        refine sg ?_
        have hb : bytesOk 0 s = false := by
         rw [harg1, bytesOk_append]
         simp only [bytesOk, okB, Nat.zero_add, l, e1, e2, e3]
         simp
        simp [ident, hb]
       | false =>
        simp only [amset, amlib, zset, l, e1, e2, e3, eq_self, ↓reduceIte, reduceCtorEq, Nat.reduceBEq, reduceEqDiff, reduceAdd, reduceMul, reduceLeDiff, reduceLT, reduceSub]
        refine hK16 _ ?_
        clear hK16
        refine aw_cond (t := false) rfl (fun h => nomatch h) (fun _ => ?_)
        refine aw_skip ?_
        simp only [thenQ, blkQ, if_true, reduceIte, Nat.reduceEqDiff, eq_self]
        refine hK13 _ ?_
        clear hK13
        refine aw_region zT ?_
        refine sg ?_
        refine ⟨⟨by omega, by omega⟩, ?_⟩
        refine hR1 _ (by rw [bytesOk_append, hI1]; simp only [bytesOk, okB, Nat.zero_add]; simp only [l, e1, e2, e3]; rfl) ?_
        refine Reach.to ?_ ?_
        ·
         simp only [amset, amlib, zset, eq_self, ↓reduceIte, reduceCtorEq, Nat.reduceBEq, reduceEqDiff, reduceAdd, reduceMul, reduceLeDiff, reduceLT, reduceSub] <;> simp [eq_self]
        ·
         simp only [amset, amlib, zset, eq_self, ↓reduceIte, reduceCtorEq, Nat.reduceBEq, reduceEqDiff, reduceAdd, reduceMul, reduceLeDiff, reduceLT, reduceSub] <;> simp [eq_self]
   cases a1 : decide ((y1.toNat : Int) ≥ 97) with
   | true =>
    cases a2 : decide ((y1.toNat : Int) ≤ 122) with
    | true =>
     simp only [amset, amlib, zset, a1, a2, eq_self, ↓reduceIte, reduceCtorEq, Nat.reduceBEq, reduceEqDiff, reduceAdd, reduceMul, reduceLeDiff, reduceLT, reduceSub]
     refine keyK15 _ _ ?_ ?_
     ·
      simp only [amset, amlib, zset, eq_self, ↓reduceIte, reduceCtorEq, Nat.reduceBEq, reduceEqDiff, reduceAdd, reduceMul, reduceLeDiff, reduceLT, reduceSub] <;> simp [isLetter, a1, a2]
     ·
      simp only [amset, amlib, zset, eq_self, ↓reduceIte, reduceCtorEq, Nat.reduceBEq, reduceEqDiff, reduceAdd, reduceMul, reduceLeDiff, reduceLT, reduceSub]
    | false =>
     cases b1 : decide ((y1.toNat : Int) ≥ 65) with
     | true =>
      cases b2 : decide ((y1.toNat : Int) ≤ 90) with
      | true =>
       simp only [amset, amlib, zset, a1, a2, b1, b2, eq_self, ↓reduceIte, reduceCtorEq, Nat.reduceBEq, reduceEqDiff, reduceAdd, reduceMul, reduceLeDiff, reduceLT, reduceSub]
       refine keyK15 _ _ ?_ ?_
       ·
        simp only [amset, amlib, zset, eq_self, ↓reduceIte, reduceCtorEq, Nat.reduceBEq, reduceEqDiff, reduceAdd, reduceMul, reduceLeDiff, reduceLT, reduceSub] <;> simp [isLetter, a1, a2, b1, b2]
       ·
        simp only [amset, amlib, zset, eq_self, ↓reduceIte, reduceCtorEq, Nat.reduceBEq, reduceEqDiff, reduceAdd, reduceMul, reduceLeDiff, reduceLT, reduceSub]
      | false =>
       cases d : ((y1.toNat : Int) == 95) with
       | true =>
        simp only [amset, amlib, zset, a1, a2, b1, b2, d, eq_self, ↓reduceIte, reduceCtorEq, Nat.reduceBEq, reduceEqDiff, reduceAdd, reduceMul, reduceLeDiff, reduceLT, reduceSub]
        refine keyK15 _ _ ?_ ?_
        ·
         simp only [amset, amlib, zset, eq_self, ↓reduceIte, reduceCtorEq, Nat.reduceBEq, reduceEqDiff, reduceAdd, reduceMul, reduceLeDiff, reduceLT, reduceSub] <;> simp [isLetter, a1, a2, b1, b2, d]
        ·
         simp only [amset, amlib, zset, eq_self, ↓reduceIte, reduceCtorEq, Nat.reduceBEq, reduceEqDiff, reduceAdd, reduceMul, reduceLeDiff, reduceLT, reduceSub]
       | false =>
        simp only [amset, amlib, zset, a1, a2, b1, b2, d, eq_self, ↓reduceIte, reduceCtorEq, Nat.reduceBEq, reduceEqDiff, reduceAdd, reduceMul, reduceLeDiff, reduceLT, reduceSub]
        refine keyK15 _ _ ?_ ?_
        ·
         simp only [amset, amlib, zset, eq_self, ↓reduceIte, reduceCtorEq, Nat.reduceBEq, reduceEqDiff, reduceAdd, reduceMul, reduceLeDiff, reduceLT, reduceSub] <;> simp [isLetter, a1, a2, b1, b2, d]
        ·
         simp only [amset, amlib, zset, eq_self, ↓reduceIte, reduceCtorEq, Nat.reduceBEq, reduceEqDiff, reduceAdd, reduceMul, reduceLeDiff, reduceLT, reduceSub]
     | false =>
      cases d : ((y1.toNat : Int) == 95) with
      | true =>
       simp only [amset, amlib, zset, a1, a2, b1, d, eq_self, ↓reduceIte, reduceCtorEq, Nat.reduceBEq, reduceEqDiff, reduceAdd, reduceMul, reduceLeDiff, reduceLT, reduceSub]
       refine keyK15 _ _ ?_ ?_
       ·
        simp only [amset, amlib, zset, eq_self, ↓reduceIte, reduceCtorEq, Nat.reduceBEq, reduceEqDiff, reduceAdd, reduceMul, reduceLeDiff, reduceLT, reduceSub] <;> simp [isLetter, a1, a2, b1, d]
       ·
        simp only [amset, amlib, zset, eq_self, ↓reduceIte, reduceCtorEq, Nat.reduceBEq, reduceEqDiff, reduceAdd, reduceMul, reduceLeDiff, reduceLT, reduceSub]
      | false =>
       simp only [amset, amlib, zset, a1, a2, b1, d, eq_self, ↓reduceIte, reduceCtorEq, Nat.reduceBEq, reduceEqDiff, reduceAdd, reduceMul, reduceLeDiff, reduceLT, reduceSub]
       refine keyK15 _ _ ?_ ?_
       ·
        simp only [amset, amlib, zset, eq_self, ↓reduceIte, reduceCtorEq, Nat.reduceBEq, reduceEqDiff, reduceAdd, reduceMul, reduceLeDiff, reduceLT, reduceSub] <;> simp [isLetter, a1, a2, b1, d]
       ·
        simp only [amset, amlib, zset, eq_self, ↓reduceIte, reduceCtorEq, Nat.reduceBEq, reduceEqDiff, reduceAdd, reduceMul, reduceLeDiff, reduceLT, reduceSub]
   | false =>
    cases b1 : decide ((y1.toNat : Int) ≥ 65) with
    | true =>
     cases b2 : decide ((y1.toNat : Int) ≤ 90) with
     | true =>
      simp only [amset, amlib, zset, a1, b1, b2, eq_self, ↓reduceIte, reduceCtorEq, Nat.reduceBEq, reduceEqDiff, reduceAdd, reduceMul, reduceLeDiff, reduceLT, reduceSub]
      refine keyK15 _ _ ?_ ?_
      ·
       simp only [amset, amlib, zset, eq_self, ↓reduceIte, reduceCtorEq, Nat.reduceBEq, reduceEqDiff, reduceAdd, reduceMul, reduceLeDiff, reduceLT, reduceSub] <;> simp [isLetter, a1, b1, b2]
      ·
       simp only [amset, amlib, zset, eq_self, ↓reduceIte, reduceCtorEq, Nat.reduceBEq, reduceEqDiff, reduceAdd, reduceMul, reduceLeDiff, reduceLT, reduceSub]
     | false =>
      cases d : ((y1.toNat : Int) == 95) with
      | true =>
       simp only [amset, amlib, zset, a1, b1, b2, d, eq_self, ↓reduceIte, reduceCtorEq, Nat.reduceBEq, reduceEqDiff, reduceAdd, reduceMul, reduceLeDiff, reduceLT, reduceSub]
       refine keyK15 _ _ ?_ ?_
       ·
        simp only [amset, amlib, zset, eq_self, ↓reduceIte, reduceCtorEq, Nat.reduceBEq, reduceEqDiff, reduceAdd, reduceMul, reduceLeDiff, reduceLT, reduceSub] <;> simp [isLetter, a1, b1, b2, d]
       ·
        simp only [amset, amlib, zset, eq_self, ↓reduceIte, reduceCtorEq, Nat.reduceBEq, reduceEqDiff, reduceAdd, reduceMul, reduceLeDiff, reduceLT, reduceSub]
      | false =>
       simp only [amset, amlib, zset, a1, b1, b2, d, eq_self, ↓reduceIte, reduceCtorEq, Nat.reduceBEq, reduceEqDiff, reduceAdd, reduceMul, reduceLeDiff, reduceLT, reduceSub]
       refine keyK15 _ _ ?_ ?_
       ·
        simp only [amset, amlib, zset, eq_self, ↓reduceIte, reduceCtorEq, Nat.reduceBEq, reduceEqDiff, reduceAdd, reduceMul, reduceLeDiff, reduceLT, reduceSub] <;> simp [isLetter, a1, b1, b2, d]
       ·
        simp only [amset, amlib, zset, eq_self, ↓reduceIte, reduceCtorEq, Nat.reduceBEq, reduceEqDiff, reduceAdd, reduceMul, reduceLeDiff, reduceLT, reduceSub]
    | false =>
     cases d : ((y1.toNat : Int) == 95) with
     | true =>
      simp only [amset, amlib, zset, a1, b1, d, eq_self, ↓reduceIte, reduceCtorEq, Nat.reduceBEq, reduceEqDiff, reduceAdd, reduceMul, reduceLeDiff, reduceLT, reduceSub]
      refine keyK15 _ _ ?_ ?_
      ·
       simp only [amset, amlib, zset, eq_self, ↓reduceIte, reduceCtorEq, Nat.reduceBEq, reduceEqDiff, reduceAdd, reduceMul, reduceLeDiff, reduceLT, reduceSub] <;> simp [isLetter, a1, b1, d]
      ·
       simp only [amset, amlib, zset, eq_self, ↓reduceIte, reduceCtorEq, Nat.reduceBEq, reduceEqDiff, reduceAdd, reduceMul, reduceLeDiff, reduceLT, reduceSub]
     | false =>
      simp only [amset, amlib, zset, a1, b1, d, eq_self, ↓reduceIte, reduceCtorEq, Nat.reduceBEq, reduceEqDiff, reduceAdd, reduceMul, reduceLeDiff, reduceLT, reduceSub]
      refine keyK15 _ _ ?_ ?_
      ·
       simp only [amset, amlib, zset, eq_self, ↓reduceIte, reduceCtorEq, Nat.reduceBEq, reduceEqDiff, reduceAdd, reduceMul, reduceLeDiff, reduceLT, reduceSub] <;> simp [isLetter, a1, b1, d]
      ·
       simp only [amset, amlib, zset, eq_self, ↓reduceIte, reduceCtorEq, Nat.reduceBEq, reduceEqDiff, reduceAdd, reduceMul, reduceLeDiff, reduceLT, reduceSub]
 ·
  intro dn y td harg hI R hR
  have hl : (kws).length = dn.length + (td.length + 1) := by rw [harg]; simp
  have hmem : y ∈ kws := by rw [harg]; simp
  refine aw_nm ?_
  have hget : (encStrs (kws)).getD dn.length [] = encStr y := by rw [harg]; exact encStrs_mid dn td y
  refine aw_ops zT fun K20 hK20 => ?_
  refine sg ?_
  refine hK20 _ ?_
  clear hK20
  refine aw_seq fun K21 hK21 => ?_
  refine aw_cond (t := true) (by simp [evalO, S.get, amLook]; omega) (fun _ => ?_) (fun h => nomatch h)
  refine aw_skip ?_
  simp only [thenQ, blkQ, if_true, reduceIte, Nat.reduceEqDiff, eq_self]
  refine hK21 _ ?_
  clear hK21
  refine aw_seq fun K22 hK22 => ?_
  refine aw_block ?_
  refine aw_ops zT fun K23 hK23 => ?_
  simp only [amset, amlib, zset, hget, eq_self, ↓reduceIte, reduceCtorEq, Nat.reduceBEq, reduceEqDiff, reduceAdd, reduceMul, reduceLeDiff, reduceLT, reduceSub]
  refine ⟨⟨by omega, by omega⟩, ?_⟩
  refine hK23 _ ?_
  clear hK23
  refine aw_ops zT fun K24 hK24 => ?_
  refine sg ?_
  refine hK24 _ ?_
  clear hK24
  refine aw_cond rfl (fun h0 => ?_) (fun h0 => ?_)
  ·
   refine aw_ops zT fun K25 hK25 => ?_
   refine sg ?_
   refine hK25 _ ?_
   clear hK25
   refine aw_ret ?_
   show resOf zG _ [.tmp 2] = some _
   refine sg ?_
   have hk : kws.all (fun k => !(s == k)) = false := by
    rw [harg, List.all_append]
    simp only [List.all_cons, h0, Bool.not_true, Bool.false_and, Bool.and_false]
   simp only [ident, hk]
   rfl
  ·
   refine aw_skip ?_
   simp only [thenQ, blkQ, if_true, reduceIte, Nat.reduceEqDiff, eq_self]
   refine hK22 _ ?_
   clear hK22
   refine aw_region zT ?_
   refine sg ?_
   refine ⟨⟨by omega, by omega⟩, ?_⟩
   refine hR _ (by rw [List.all_append, hI]; simpa using h0) ?_
   refine Reach.to ?_ ?_
   ·
    simp only [amset, amlib, zset, eq_self, ↓reduceIte, reduceCtorEq, Nat.reduceBEq, reduceEqDiff, reduceAdd, reduceMul, reduceLeDiff, reduceLT, reduceSub] <;> simp [eq_self]
   ·
    simp only [amset, amlib, zset, eq_self, ↓reduceIte, reduceCtorEq, Nat.reduceBEq, reduceEqDiff, reduceAdd, reduceMul, reduceLeDiff, reduceLT, reduceSub] <;> simp [eq_self]
end Go.Proofs.Am
set_option maxRecDepth 100000
namespace Go.Proofs.Am
open Nat (reduceEqDiff reduceAdd reduceMul reduceLeDiff reduceLT reduceSub)
def headOK (x : Ex) : Bool := !(((x.args.length : Int) != arityK x.kind) || (!(x.name == (bareE x).name)) || (x.value != (bareE x).value) || (x.op != (bareE x).op))
def exTail (x : Ex) : Bool := if (x.kind == 1) then decide (x.value ≥ 0) else if (x.kind == 5) then ((x.op == 1) || (x.op == 2)) else if (x.kind == 6) then (decide (x.op ≥ 3) && decide (x.op ≤ 15)) else ident x.name
mutual
def exOK : Ex → Bool
 | .mk k n v o a p => headOK (.mk k n v o a p) && exOKs a && exTail (.mk k n v o a p)
def exOKs : List Ex → Bool
 | [] => true
 | x :: r => exOK x && exOKs r
end
theorem exOK_eq (x : Ex) : exOK x = (headOK x && exOKs x.args && exTail x) := by cases x; rfl
theorem exOKs_append (a b : List Ex) : exOKs (a ++ b) = (exOKs a && exOKs b) := by
 induction a with
 | nil => rfl
 | cons x r ih => simp [exOKs, ih, Bool.and_assoc]
theorem prog26 : Tryz.prog.funcs[26]? = some Tryz.f26 := by kernel_rfl
theorem step26 (x : Ex) (ih : ∀ y ∈ x.args, Holds Tryz.prog zG 26 [.agg [.int .i64 y.kind, .str y.name, .int .i16 y.value, .int .i64 y.op, .sl 6 (encEs y.args), .int .i64 y.pos]] [.c (.bool (exOK y))]) : Holds Tryz.prog zG 26 [.agg [.int .i64 x.kind, .str x.name, .int .i16 x.value, .int .i64 x.op, .sl 6 (encEs x.args), .int .i64 x.pos]] [.c (.bool (exOK x))] := by
 refine holds_of_body zT prog26 rfl rfl rfl (by simp [Tryz.f26]) ?_
 refine aw_ops zT fun K1 hK1 => ?_
 refine sg ?_
 refine hK1 _ ?_
 clear hK1
 refine aw_ops zT fun K2 hK2 => ?_
 refine sg ?_
 refine ⟨_, holds72 x, ?_⟩
 simp only [amset, later, amlib, zset, eq_self, ↓reduceIte, reduceCtorEq, Nat.reduceBEq, reduceEqDiff, reduceAdd, reduceMul, reduceLeDiff, reduceLT, reduceSub]
 refine hK2 _ ?_
 clear hK2
 refine aw_seq fun K3 hK3 => ?_
 cases g0 : ((x.args.length : Int) != arityK x.kind) with
 | true =>
  refine aw_draw zT prog_mixed fun K4 hK4 => ?_
  simp only [amset, amlib, zset, g0, eq_self, ↓reduceIte, reduceCtorEq, Nat.reduceBEq, reduceEqDiff, reduceAdd, reduceMul, reduceLeDiff, reduceLT, reduceSub]
  intros
  refine ⟨_, holds73 x.kind, ?_⟩
  simp only [amset, later, amlib, zset, g0, eq_self, ↓reduceIte, reduceCtorEq, Nat.reduceBEq, reduceEqDiff, reduceAdd, reduceMul, reduceLeDiff, reduceLT, reduceSub]
  refine ⟨by kernel_rfl, ?_⟩
  refine hK4 _ ?_
  clear hK4
  refine aw_cond (t := true) rfl (fun _ => ?_) (fun h => nomatch h)
  refine aw_ops zT fun K5 hK5 => ?_
  refine sg ?_
  refine hK5 _ ?_
  clear hK5
  refine aw_ret ?_
  show resOf zG _ [.tmp 2] = some _
  simp only [amset, amlib, zset, eq_self, ↓reduceIte, reduceCtorEq, Nat.reduceBEq, reduceEqDiff, reduceAdd, reduceMul, reduceLeDiff, reduceLT, reduceSub]
  simp only [exOK_eq, headOK, exTail, g0, bools, ↓reduceIte]
 | false =>
  cases g1 : (!(x.name == (bareE x).name)) with
  | true =>
   refine aw_draw zT prog_mixed fun K4 hK4 => ?_
   simp only [amset, amlib, zset, g0, g1, eq_self, ↓reduceIte, reduceCtorEq, Nat.reduceBEq, reduceEqDiff, reduceAdd, reduceMul, reduceLeDiff, reduceLT, reduceSub]
   intros
   refine ⟨_, holds73 x.kind, ?_⟩
   simp only [amset, later, amlib, zset, g0, g1, eq_self, ↓reduceIte, reduceCtorEq, Nat.reduceBEq, reduceEqDiff, reduceAdd, reduceMul, reduceLeDiff, reduceLT, reduceSub]
   refine ⟨by kernel_rfl, ?_⟩
   refine hK4 _ ?_
   clear hK4
   refine aw_cond (t := true) rfl (fun _ => ?_) (fun h => nomatch h)
   refine aw_ops zT fun K6 hK6 => ?_
   refine sg ?_
   refine hK6 _ ?_
   clear hK6
   refine aw_ret ?_
   show resOf zG _ [.tmp 2] = some _
   simp only [amset, amlib, zset, eq_self, ↓reduceIte, reduceCtorEq, Nat.reduceBEq, reduceEqDiff, reduceAdd, reduceMul, reduceLeDiff, reduceLT, reduceSub]
   simp only [exOK_eq, headOK, exTail, g0, g1, bools, ↓reduceIte]
  | false =>
   cases g2 : (x.value != (bareE x).value) with
   | true =>
    refine aw_draw zT prog_mixed fun K4 hK4 => ?_
    simp only [amset, amlib, zset, g0, g1, g2, eq_self, ↓reduceIte, reduceCtorEq, Nat.reduceBEq, reduceEqDiff, reduceAdd, reduceMul, reduceLeDiff, reduceLT, reduceSub]
    intros
    refine ⟨_, holds73 x.kind, ?_⟩
    simp only [amset, later, amlib, zset, g0, g1, g2, eq_self, ↓reduceIte, reduceCtorEq, Nat.reduceBEq, reduceEqDiff, reduceAdd, reduceMul, reduceLeDiff, reduceLT, reduceSub]
    refine ⟨by kernel_rfl, ?_⟩
    refine hK4 _ ?_
    clear hK4
    refine aw_cond (t := true) rfl (fun _ => ?_) (fun h => nomatch h)
    refine aw_ops zT fun K7 hK7 => ?_
    refine sg ?_
    refine hK7 _ ?_
    clear hK7
    refine aw_ret ?_
    show resOf zG _ [.tmp 2] = some _
    simp only [amset, amlib, zset, eq_self, ↓reduceIte, reduceCtorEq, Nat.reduceBEq, reduceEqDiff, reduceAdd, reduceMul, reduceLeDiff, reduceLT, reduceSub]
    simp only [exOK_eq, headOK, exTail, g0, g1, g2, bools, ↓reduceIte]
   | false =>
    cases g3 : (x.op != (bareE x).op) with
    | true =>
     refine aw_draw zT prog_mixed fun K4 hK4 => ?_
     simp only [amset, amlib, zset, g0, g1, g2, g3, eq_self, ↓reduceIte, reduceCtorEq, Nat.reduceBEq, reduceEqDiff, reduceAdd, reduceMul, reduceLeDiff, reduceLT, reduceSub]
     intros
     refine ⟨_, holds73 x.kind, ?_⟩
     simp only [amset, later, amlib, zset, g0, g1, g2, g3, eq_self, ↓reduceIte, reduceCtorEq, Nat.reduceBEq, reduceEqDiff, reduceAdd, reduceMul, reduceLeDiff, reduceLT, reduceSub]
     refine ⟨by kernel_rfl, ?_⟩
     refine hK4 _ ?_
     clear hK4
     refine aw_cond (t := true) rfl (fun _ => ?_) (fun h => nomatch h)
     refine aw_ops zT fun K8 hK8 => ?_
     refine sg ?_
     refine hK8 _ ?_
     clear hK8
     refine aw_ret ?_
     show resOf zG _ [.tmp 2] = some _
     simp only [amset, amlib, zset, eq_self, ↓reduceIte, reduceCtorEq, Nat.reduceBEq, reduceEqDiff, reduceAdd, reduceMul, reduceLeDiff, reduceLT, reduceSub]
     simp only [exOK_eq, headOK, exTail, g0, g1, g2, g3, bools, ↓reduceIte]
    | false =>
     refine aw_draw zT prog_mixed fun K4 hK4 => ?_
     simp only [amset, amlib, zset, g0, g1, g2, g3, eq_self, ↓reduceIte, reduceCtorEq, Nat.reduceBEq, reduceEqDiff, reduceAdd, reduceMul, reduceLeDiff, reduceLT, reduceSub]
     intros
     refine ⟨_, holds73 x.kind, ?_⟩
     simp only [amset, later, amlib, zset, g0, g1, g2, g3, eq_self, ↓reduceIte, reduceCtorEq, Nat.reduceBEq, reduceEqDiff, reduceAdd, reduceMul, reduceLeDiff, reduceLT, reduceSub]
     refine ⟨by kernel_rfl, ?_⟩
     refine hK4 _ ?_
     clear hK4
     refine aw_cond (t := false) rfl (fun h => nomatch h) (fun _ => ?_)
     refine aw_skip ?_
     simp only [thenQ, blkQ, if_true, reduceIte, Nat.reduceEqDiff, eq_self]
     refine hK3 _ ?_
     clear hK3
     refine aw_seq fun K9 hK9 => ?_
     refine aw_ops zT fun K10 hK10 => ?_
     refine sg ?_
     intros
     refine hK10 _ ?_
     clear hK10
     refine aw_block ?_
     refine aw_range (α := Ex) (x.args) (fun dn => exOKs dn = true) (fun dn => [(39, .cell (.c (.int .i64 dn.length)))]) (fun dn => []) [] [2, 5, 39, 40, 41, 42, 43, 44, 45, 46] [5] rfl ?_ ?_ ?_ ?_
     ·
      simp only [amset, amlib, zset, eq_self, ↓reduceIte, reduceCtorEq, Nat.reduceBEq, reduceEqDiff, reduceAdd, reduceMul, reduceLeDiff, reduceLT, reduceSub] <;> simp
     ·
      simp only [amset, amlib, zset, eq_self, ↓reduceIte, reduceCtorEq, Nat.reduceBEq, reduceEqDiff, reduceAdd, reduceMul, reduceLeDiff, reduceLT, reduceSub] <;> simp
     ·
      intro hI R
      refine aw_nm ?_
      refine aw_ops zT fun K11 hK11 => ?_
      refine sg ?_
      refine hK11 _ ?_
      clear hK11
      refine aw_seq fun K12 hK12 => ?_
      refine aw_cond (t := false) (by simp [evalO, S.get, amLook]) (fun h => nomatch h) (fun _ => ?_)
      refine aw_exit ?_
      simp only [thenQ, blkQ, if_true, reduceIte, Nat.reduceEqDiff, eq_self]
      refine hK9 _ ?_
      clear hK9
      refine aw_seq fun K13 hK13 => ?_
      refine aw_ops zT fun K14 hK14 => ?_
      refine sg ?_
      refine hK14 _ ?_
      clear hK14
      refine aw_block ?_
      refine aw_ops zT fun K15 hK15 => ?_
      refine sg ?_
      refine hK15 _ ?_
      clear hK15
      refine aw_cond rfl (fun h0 => ?_) (fun h0 => ?_)
      ·
       refine aw_ops zT fun K16 hK16 => ?_
       refine sg ?_
       refine hK16 _ ?_
       clear hK16
       refine aw_ret ?_
       show resOf zG _ [.tmp 2] = some _
       simp only [amset, amlib, zset, eq_self, ↓reduceIte, reduceCtorEq, Nat.reduceBEq, reduceEqDiff, reduceAdd, reduceMul, reduceLeDiff, reduceLT, reduceSub]
       simp only [exOK_eq, headOK, exTail, hI, g0, g1, g2, g3, h0, bools, ↓reduceIte]
      ·
       refine aw_ops zT fun K17 hK17 => ?_
       refine sg ?_
       refine hK17 _ ?_
       clear hK17
       refine aw_cond rfl (fun h1 => ?_) (fun h1 => ?_)
       ·
        refine aw_ops zT fun K18 hK18 => ?_
        cases e0 : (x.op == 1) with
        | true =>
         simp only [amset, amlib, zset, g0, g1, g2, g3, e0, eq_self, ↓reduceIte, reduceCtorEq, Nat.reduceBEq, reduceEqDiff, reduceAdd, reduceMul, reduceLeDiff, reduceLT, reduceSub]
         refine hK18 _ ?_
         clear hK18
         refine aw_ret ?_
         show resOf zG _ [.tmp 2] = some _
         simp only [amset, amlib, zset, eq_self, ↓reduceIte, reduceCtorEq, Nat.reduceBEq, reduceEqDiff, reduceAdd, reduceMul, reduceLeDiff, reduceLT, reduceSub]
         simp only [exOK_eq, headOK, exTail, hI, g0, g1, g2, g3, e0, h0, h1, bools, ↓reduceIte]
        | false =>
         simp only [amset, amlib, zset, g0, g1, g2, g3, e0, eq_self, ↓reduceIte, reduceCtorEq, Nat.reduceBEq, reduceEqDiff, reduceAdd, reduceMul, reduceLeDiff, reduceLT, reduceSub]
         refine hK18 _ ?_
         clear hK18
         refine aw_ret ?_
         show resOf zG _ [.tmp 2] = some _
         simp only [amset, amlib, zset, eq_self, ↓reduceIte, reduceCtorEq, Nat.reduceBEq, reduceEqDiff, reduceAdd, reduceMul, reduceLeDiff, reduceLT, reduceSub]
         simp only [exOK_eq, headOK, exTail, hI, g0, g1, g2, g3, e0, h0, h1, bools, ↓reduceIte]
       ·
        refine aw_ops zT fun K19 hK19 => ?_
        refine sg ?_
        refine hK19 _ ?_
        clear hK19
        refine aw_cond rfl (fun h2 => ?_) (fun h2 => ?_)
        ·
         refine aw_ops zT fun K20 hK20 => ?_
         cases e0 : decide (x.op ≥ 3) with
         | true =>
          simp only [amset, amlib, zset, g0, g1, g2, g3, e0, eq_self, ↓reduceIte, reduceCtorEq, Nat.reduceBEq, reduceEqDiff, reduceAdd, reduceMul, reduceLeDiff, reduceLT, reduceSub]
          refine hK20 _ ?_
          clear hK20
          refine aw_ret ?_
          show resOf zG _ [.tmp 2] = some _
          simp only [amset, amlib, zset, eq_self, ↓reduceIte, reduceCtorEq, Nat.reduceBEq, reduceEqDiff, reduceAdd, reduceMul, reduceLeDiff, reduceLT, reduceSub]
          simp only [exOK_eq, headOK, exTail, hI, g0, g1, g2, g3, e0, h0, h1, h2, bools, ↓reduceIte]
         | false =>
          simp only [amset, amlib, zset, g0, g1, g2, g3, e0, eq_self, ↓reduceIte, reduceCtorEq, Nat.reduceBEq, reduceEqDiff, reduceAdd, reduceMul, reduceLeDiff, reduceLT, reduceSub]
          refine hK20 _ ?_
          clear hK20
          refine aw_ret ?_
          show resOf zG _ [.tmp 2] = some _
          simp only [amset, amlib, zset, eq_self, ↓reduceIte, reduceCtorEq, Nat.reduceBEq, reduceEqDiff, reduceAdd, reduceMul, reduceLeDiff, reduceLT, reduceSub]
          simp only [exOK_eq, headOK, exTail, hI, g0, g1, g2, g3, e0, h0, h1, h2, bools, ↓reduceIte]
        ·
         refine aw_skip ?_
         simp only [thenQ, blkQ, if_true, reduceIte, Nat.reduceEqDiff, eq_self]
         refine hK13 _ ?_
         clear hK13
         refine aw_ops zT fun K21 hK21 => ?_
         refine sg ?_
         refine ⟨_, holds74 x.name, ?_⟩
         simp only [amset, later, amlib, zset, eq_self, ↓reduceIte, reduceCtorEq, Nat.reduceBEq, reduceEqDiff, reduceAdd, reduceMul, reduceLeDiff, reduceLT, reduceSub]
         refine hK21 _ ?_
         clear hK21
         refine aw_ret ?_
         show resOf zG _ [.tmp 2] = some _
         simp only [amset, amlib, zset, eq_self, ↓reduceIte, reduceCtorEq, Nat.reduceBEq, reduceEqDiff, reduceAdd, reduceMul, reduceLeDiff, reduceLT, reduceSub]
         simp only [exOK_eq, headOK, exTail, hI, g0, g1, g2, g3, h0, h1, h2, bools, ↓reduceIte]
     ·
      intro dn y td harg hI R hR
      have hl : (x.args).length = dn.length + (td.length + 1) := by rw [harg]; simp
      have hmem : y ∈ x.args := by rw [harg]; simp
      refine aw_nm ?_
      have hget : (encEs (x.args)).getD dn.length [] = encE y := by rw [harg]; exact encEs_mid dn td y
      refine aw_ops zT fun K22 hK22 => ?_
      refine sg ?_
      refine hK22 _ ?_
      clear hK22
      refine aw_seq fun K23 hK23 => ?_
      refine aw_cond (t := true) (by simp [evalO, S.get, amLook]; omega) (fun _ => ?_) (fun h => nomatch h)
      refine aw_skip ?_
      simp only [thenQ, blkQ, if_true, reduceIte, Nat.reduceEqDiff, eq_self]
      refine hK23 _ ?_
      clear hK23
      refine aw_seq fun K24 hK24 => ?_
      refine aw_block ?_
      refine aw_ops zT fun K25 hK25 => ?_
      simp only [amset, amlib, zset, hget, eq_self, ↓reduceIte, reduceCtorEq, Nat.reduceBEq, reduceEqDiff, reduceAdd, reduceMul, reduceLeDiff, reduceLT, reduceSub]
      refine ⟨⟨by omega, by omega⟩, ?_⟩
      refine hK25 _ ?_
      clear hK25
      refine aw_ops zT fun K26 hK26 => ?_
      refine sg ?_
      refine ⟨_, ih y hmem, ?_⟩
      simp only [amset, later, amlib, zset, eq_self, ↓reduceIte, reduceCtorEq, Nat.reduceBEq, reduceEqDiff, reduceAdd, reduceMul, reduceLeDiff, reduceLT, reduceSub]
      refine hK26 _ ?_
      clear hK26
      refine aw_cond rfl (fun h3 => ?_) (fun h3 => ?_)
      ·
       refine aw_ops zT fun K27 hK27 => ?_
       refine sg ?_
       refine hK27 _ ?_
       clear hK27
       refine aw_ret ?_
       show resOf zG _ [.tmp 2] = some _
       refine sg ?_
       have hf : exOKs x.args = false := by
        rw [harg, exOKs_append]
        simp at h3
        simp [exOKs, h3]
       simp only [exOK_eq, hf, bools, ↓reduceIte]
      ·
       refine aw_skip ?_
       simp only [thenQ, blkQ, if_true, reduceIte, Nat.reduceEqDiff, eq_self]
       refine hK24 _ ?_
       clear hK24
       refine aw_region zT ?_
       refine sg ?_
       refine ⟨⟨by omega, by omega⟩, ?_⟩
       refine hR _ (by rw [exOKs_append, hI]; simp [exOKs]; simpa using h3) ?_
       refine Reach.to ?_ ?_
       ·
        simp only [amset, amlib, zset, eq_self, ↓reduceIte, reduceCtorEq, Nat.reduceBEq, reduceEqDiff, reduceAdd, reduceMul, reduceLeDiff, reduceLT, reduceSub] <;> simp
       ·
        simp only [amset, amlib, zset, eq_self, ↓reduceIte, reduceCtorEq, Nat.reduceBEq, reduceEqDiff, reduceAdd, reduceMul, reduceLeDiff, reduceLT, reduceSub] <;> simp
theorem holds26 (x : Ex) : Holds Tryz.prog zG 26 [.agg [.int .i64 x.kind, .str x.name, .int .i16 x.value, .int .i64 x.op, .sl 6 (encEs x.args), .int .i64 x.pos]] [.c (.bool (exOK x))] := step26 x fun y hmem => holds26 y
  termination_by SizeOf.sizeOf x
  decreasing_by exact Ex.args_lt hmem
end Go.Proofs.Am
set_option maxRecDepth 100000
set_option maxHeartbeats 4000000
namespace Go.Proofs.Am
open Nat (reduceEqDiff reduceAdd reduceMul reduceLeDiff reduceLT reduceSub)
def numA (n : Int) : Bool := decide (n ≥ 0) && decide (n ≤ 32767)
def signedA (n : Int) : Bool := decide (n ≥ -32767)
def tr (b : Bool) : Int := cond b 1 0
theorem i64_same {n : Int} (h : -9223372036854775808 ≤ n ∧ n ≤ 9223372036854775807) : IntKind.i64.wrap n = n := by simp [IntKind.wrap, IntKind.bits, IntKind.signed]; split <;> omega
theorem prog98 : Tryz.prog.funcs[98]? = some Tryz.f98 := by kernel_rfl
theorem holds98 (n : Int) : Holds Tryz.prog zG 98 [.c (.int .i64 n)] [.c (.bool (numA n))] := by
 refine holds_of_body zT prog98 rfl rfl rfl (by simp [Tryz.f98]) ?_
 refine aw_ops zT fun K1 hK1 => ?_
 refine sg ?_
 refine hK1 _ ?_
 clear hK1
 refine aw_ops zT fun K2 hK2 => ?_
 cases e0 : decide (n ≥ 0) with
 | true =>
  simp only [amset, amlib, zset, e0, eq_self, ↓reduceIte, reduceCtorEq, Nat.reduceBEq, reduceEqDiff, reduceAdd, reduceMul, reduceLeDiff, reduceLT, reduceSub]
  refine hK2 _ ?_
  clear hK2
  refine aw_ret ?_
  show resOf zG _ [.tmp 2] = some _
  simp only [amset, amlib, zset, eq_self, ↓reduceIte, reduceCtorEq, Nat.reduceBEq, reduceEqDiff, reduceAdd, reduceMul, reduceLeDiff, reduceLT, reduceSub]
  simp only [numA, e0, bools, ↓reduceIte]
 | false =>
  simp only [amset, amlib, zset, e0, eq_self, ↓reduceIte, reduceCtorEq, Nat.reduceBEq, reduceEqDiff, reduceAdd, reduceMul, reduceLeDiff, reduceLT, reduceSub]
  refine hK2 _ ?_
  clear hK2
  refine aw_ret ?_
  show resOf zG _ [.tmp 2] = some _
  simp only [amset, amlib, zset, eq_self, ↓reduceIte, reduceCtorEq, Nat.reduceBEq, reduceEqDiff, reduceAdd, reduceMul, reduceLeDiff, reduceLT, reduceSub]
  simp only [numA, e0, bools, ↓reduceIte]
theorem prog97 : Tryz.prog.funcs[97]? = some Tryz.f97 := by kernel_rfl
theorem holds97 (n : Int) : Holds Tryz.prog zG 97 [.c (.int .i16 n)] [.c (.bool (signedA n))] := by
 refine holds_of_body zT prog97 rfl rfl rfl (by simp [Tryz.f97]) ?_
 refine aw_ops zT fun K1 hK1 => ?_
 refine sg ?_
 refine hK1 _ ?_
 clear hK1
 refine aw_ops zT fun K2 hK2 => ?_
 refine sg ?_
 refine hK2 _ ?_
 clear hK2
 refine aw_ret ?_
 show resOf zG _ [.tmp 2] = some _
 simp only [amset, amlib, zset, eq_self, ↓reduceIte, reduceCtorEq, Nat.reduceBEq, reduceEqDiff, reduceAdd, reduceMul, reduceLeDiff, reduceLT, reduceSub]
 simp only [signedA]
end Go.Proofs.Am
set_option maxRecDepth 100000
set_option maxHeartbeats 4000000
namespace Go.Proofs.Am
def i16r (n : Int) : Prop := -32768 ≤ n ∧ n ≤ 32767
end Go.Proofs.Am
set_option maxRecDepth 100000
set_option maxHeartbeats 4000000
namespace Go.Proofs.Am
open Nat (reduceEqDiff reduceAdd reduceMul reduceLeDiff reduceLT reduceSub)
def numE (v : Int) : Ex := .mk 1 [] v 0 [] 0
def binE' (op : Int) (a b : Ex) : Ex := .mk 6 [] 0 op [a, b] 0
def unE' (op : Int) (a : Ex) : Ex := .mk 5 [] 0 op [a] 0
def nameE (s : List UInt8) : Ex := .mk 2 s 0 0 [] 0
theorem prog203 : Tryz.prog.funcs[203]? = some Tryz.f203 := by kernel_rfl
theorem holds203 (x : Ex) : Holds Tryz.prog zG 203 [.agg [.int .i64 x.kind, .str x.name, .int .i16 x.value, .int .i64 x.op, .sl 6 (encEs x.args), .int .i64 x.pos]] [.agg [.int .i64 x.kind, .str x.name, .int .i16 x.value, .int .i64 x.op, .sl 0 [], .int .i64 0]] := by
 refine holds_of_body zT prog203 rfl rfl rfl (by simp [Tryz.f203]) ?_
 refine aw_ops zT fun K1 hK1 => ?_
 refine sg ?_
 refine hK1 _ ?_
 clear hK1
 refine aw_ops zT fun K2 hK2 => ?_
 refine sg ?_
 refine hK2 _ ?_
 clear hK2
 refine aw_ops zT fun K3 hK3 => ?_
 refine sg ?_
 refine hK3 _ ?_
 clear hK3
 refine aw_ret ?_
 show resOf zG _ [.cell 2 32] = some _
 simp only [amset, amlib, zset, eq_self, ↓reduceIte, reduceCtorEq, Nat.reduceBEq, reduceEqDiff, reduceAdd, reduceMul, reduceLeDiff, reduceLT, reduceSub]
end Go.Proofs.Am
set_option maxRecDepth 100000
set_option maxHeartbeats 4000000
namespace Go.Proofs.Am
mutual
def wdE : Ex → Prop
 | .mk _ _ v _ a _ => i16r v ∧ wdL a
def wdL : List Ex → Prop
 | [] => True
 | x :: r => wdE x ∧ wdL r
end
theorem wdE_eq (x : Ex) : wdE x = (i16r x.value ∧ wdL x.args) := by cases x; rw [wdE]; rfl
theorem wdL_mem {l : List Ex} (h : wdL l) {y : Ex} (hy : y ∈ l) : wdE y := by
 induction l with
 | nil => cases hy
 | cons x r ih =>
  rw [wdL] at h
  rcases List.mem_cons.1 hy with rfl | hy
  ·
   exact h.1
  ·
   exact ih h.2 hy
end Go.Proofs.Am
set_option maxRecDepth 100000
set_option maxHeartbeats 4000000
namespace Go.Proofs.Am
theorem encEs_getD (l : List Ex) (n : Nat) (h : n < l.length) : (encEs l).getD n [] = encE l[n] := by
 rw [encEs_map, List.getD_eq_getElem?_getD, List.getElem?_map, List.getElem?_eq_getElem h]; rfl
end Go.Proofs.Am
set_option maxRecDepth 100000
set_option maxHeartbeats 4000000
namespace Go.Proofs.Am
theorem subL_mem {l : List Ex} {y : Ex} (h : y ∈ l) : (subE y).length ≤ (subL l).length := by
 induction l with
 | nil => cases h
 | cons x r ih =>
  rw [subL, List.length_append]
  rcases List.mem_cons.1 h with rfl | h
  ·
   omega
  ·
   have := ih h; omega
theorem subE_len (x : Ex) : (subE x).length = (subL x.args).length + 1 := by cases x; simp [subE, Ex.args]
end Go.Proofs.Am
set_option maxRecDepth 100000
set_option maxHeartbeats 4000000
namespace Go.Proofs.Am
open Nat (reduceEqDiff reduceAdd reduceMul reduceLeDiff reduceLT reduceSub)
mutual
def stmS : St → List St
 | .mk k n v a b e p => .mk k n v a b e p :: (stmL b ++ stmL e)
def stmL : List St → List St
 | [] => []
 | x :: r => stmS x ++ stmL r
end
theorem stmS_eq (x : St) : stmS x = x :: (stmL x.body ++ stmL x.els) := by cases x; rfl
theorem stmL_append (a b : List St) : stmL (a ++ b) = stmL a ++ stmL b := by
 induction a with
 | nil => rfl
 | cons x r ih => simp [stmL, ih]
theorem sizeOf_body {x : St} {l : List St} (h : x ∈ l) : SizeOf.sizeOf x.body < SizeOf.sizeOf l := by
 have := List.sizeOf_lt_of_mem h
 cases x
 simp [St.body] at *
 omega
theorem sizeOf_els {x : St} {l : List St} (h : x ∈ l) : SizeOf.sizeOf x.els < SizeOf.sizeOf l := by
 have := List.sizeOf_lt_of_mem h
 cases x
 simp [St.els] at *
 omega
theorem prog46 : Tryz.prog.funcs[46]? = some Tryz.f46 := by kernel_rfl
theorem step46 (l : List St) (hb : (stmL l).length ≤ 1000000000000) (ih : ∀ m : List St, SizeOf.sizeOf m < SizeOf.sizeOf l → (stmL m).length ≤ 1000000000000 → Holds Tryz.prog zG 46 [.c (.sl 7 (encSs m))] [.c (.sl 7 (encSs (stmL m)))]) : Holds Tryz.prog zG 46 [.c (.sl 7 (encSs l))] [.c (.sl 7 (encSs (stmL l)))] := by
 refine holds_of_body zT prog46 rfl rfl rfl (by simp [Tryz.f46]) ?_
 refine aw_ops zT fun K1 hK1 => ?_
 refine sg ?_
 refine hK1 _ ?_
 clear hK1
 refine aw_ops zT fun K2 hK2 => ?_
 refine sg ?_
 refine hK2 _ ?_
 clear hK2
 refine aw_seq fun K3 hK3 => ?_
 refine aw_ops zT fun K4 hK4 => ?_
 refine sg ?_
 intros
 refine hK4 _ ?_
 clear hK4
 refine aw_block ?_
 refine aw_retag 3 0 1003 tsg ?_
 refine aw_nm ?_
 refine aw_range (α := St) (l) (fun dn => True) (fun dn => [(3, .cell (.own 1003 0 56 7 (encSs (stmL dn)))), (8, .cell (.c (.int .i64 dn.length)))]) (fun dn => []) [1003] [3, 5, 8, 9, 10, 11, 12, 13, 14, 15, 16, 17, 18, 19, 20, 21, 22, 23, 24, 25, 26] [5] trivial ?_ ?_ ?_ ?_
 ·
  simp only [amset, amlib, zset, eq_self, ↓reduceIte, reduceCtorEq, Nat.reduceBEq, reduceEqDiff, reduceAdd, reduceMul, reduceLeDiff, reduceLT, reduceSub] <;> simp [stmL, stmL_append, stmS_eq, encSs_cons, encSs_append, encSs_nil, encS_eq]
 ·
  simp only [amset, amlib, zset, eq_self, ↓reduceIte, reduceCtorEq, Nat.reduceBEq, reduceEqDiff, reduceAdd, reduceMul, reduceLeDiff, reduceLT, reduceSub] <;> simp [stmL, stmL_append, stmS_eq, encSs_cons, encSs_append, encSs_nil, encS_eq]
 ·
  intro hI R
  refine aw_nm ?_
  refine aw_ops zT fun K5 hK5 => ?_
  refine sg ?_
  refine hK5 _ ?_
  clear hK5
  refine aw_seq fun K6 hK6 => ?_
  refine aw_cond (t := false) (by simp [evalO, S.get, amLook]) (fun h => nomatch h) (fun _ => ?_)
  refine aw_exit ?_
  simp only [thenQ, blkQ, if_true, reduceIte, Nat.reduceEqDiff, eq_self]
  refine hK3 _ ?_
  clear hK3
  refine aw_ops zT fun K7 hK7 => ?_
  refine sg ?_
  refine hK7 _ ?_
  clear hK7
  refine aw_ret ?_
  show resOf zG _ [.tmp 2] = some _
  simp only [amset, amlib, zset, eq_self, ↓reduceIte, reduceCtorEq, Nat.reduceBEq, reduceEqDiff, reduceAdd, reduceMul, reduceLeDiff, reduceLT, reduceSub]
 ·
  intro dn y td harg hI R hR
  have hl : (l).length = dn.length + (td.length + 1) := by rw [harg]; simp
  have hmem : y ∈ l := by rw [harg]; simp
  refine aw_nm ?_
  have hget : (encSs (l)).getD dn.length [] = encS y := by rw [harg]; exact encSs_mid dn td y
  have h1 : (stmL l).length = (stmL dn).length + (1 + (stmL y.body).length + (stmL y.els).length) + (stmL td).length := by
   rw [harg, stmL_append]
   simp [stmL, stmS_eq]
   omega
  refine aw_ops zT fun K8 hK8 => ?_
  refine sg ?_
  refine hK8 _ ?_
  clear hK8
  refine aw_seq fun K9 hK9 => ?_
  refine aw_cond (t := true) (by simp [evalO, S.get, amLook]; omega) (fun _ => ?_) (fun h => nomatch h)
  refine aw_skip ?_
  simp only [thenQ, blkQ, if_true, reduceIte, Nat.reduceEqDiff, eq_self]
  refine hK9 _ ?_
  clear hK9
  refine aw_seq fun K10 hK10 => ?_
  refine aw_block ?_
  refine aw_ops zT fun K11 hK11 => ?_
  simp only [amset, amlib, zset, hget, eq_self, ↓reduceIte, reduceCtorEq, Nat.reduceBEq, reduceEqDiff, reduceAdd, reduceMul, reduceLeDiff, reduceLT, reduceSub]
  refine ⟨⟨by omega, by omega⟩, ?_⟩
  refine hK11 _ ?_
  clear hK11
  refine aw_ops zT fun K12 hK12 => ?_
  refine sg ?_
  refine ⟨⟨by simp, by omega⟩, ?_⟩
  refine hK12 _ ?_
  clear hK12
  refine aw_ops zT fun K13 hK13 => ?_
  refine sg ?_
  refine ⟨_, ih y.body (sizeOf_body hmem) (by omega), ?_⟩
  refine sgl ?_
  refine ⟨⟨encSs_rows _, by omega⟩, ?_⟩
  refine hK13 _ ?_
  clear hK13
  refine aw_region zT ?_
  refine sg ?_
  refine ⟨_, ih y.els (sizeOf_els hmem) (by omega), ?_⟩
  refine sgl ?_
  refine ⟨⟨encSs_rows _, by omega⟩, ?_⟩
  refine hK10 _ ?_
  clear hK10
  refine aw_region zT ?_
  refine sg ?_
  refine ⟨⟨by omega, by omega⟩, ?_⟩
  refine hR _ trivial ?_
  refine Reach.trans (Reach.retag 25 0 1003 ?_) (Reach.to ?_ ?_)
  ·
   simp only [amset, amlib, zset, eq_self, ↓reduceIte, reduceCtorEq, Nat.reduceBEq, reduceEqDiff, reduceAdd, reduceMul, reduceLeDiff, reduceLT, reduceSub]
  ·
   simp only [amset, amlib, zset, eq_self, ↓reduceIte, reduceCtorEq, Nat.reduceBEq, reduceEqDiff, reduceAdd, reduceMul, reduceLeDiff, reduceLT, reduceSub] <;> simp [stmL, stmL_append, stmS_eq, encSs_cons, encSs_append, encSs_nil, encS_eq]
  ·
   simp only [amset, amlib, zset, eq_self, ↓reduceIte, reduceCtorEq, Nat.reduceBEq, reduceEqDiff, reduceAdd, reduceMul, reduceLeDiff, reduceLT, reduceSub] <;> simp [stmL, stmL_append, stmS_eq, encSs_cons, encSs_append, encSs_nil, encS_eq]
theorem holds46 (l : List St) (hb : (stmL l).length ≤ 1000000000000) : Holds Tryz.prog zG 46 [.c (.sl 7 (encSs l))] [.c (.sl 7 (encSs (stmL l)))] := step46 l hb fun m hm hb => holds46 m hb
  termination_by SizeOf.sizeOf l
  decreasing_by exact hm
end Go.Proofs.Am
set_option maxRecDepth 100000
set_option maxHeartbeats 4000000
namespace Go.Proofs.Am
open Nat (reduceEqDiff reduceAdd reduceMul reduceLeDiff reduceLT reduceSub)
def allL : List St → List Ex
 | [] => []
 | s :: r => subL s.args ++ allL r
theorem allL_append (a b : List St) : allL (a ++ b) = allL a ++ allL b := by
 induction a with
 | nil => rfl
 | cons x r ih => simp [allL, ih]
theorem prog40 : Tryz.prog.funcs[40]? = some Tryz.f40 := by kernel_rfl
theorem holds40 (l : List St) (hs : (stmL l).length ≤ 1000000000000) (hb : (allL (stmL l)).length ≤ 1000000000000) : Holds Tryz.prog zG 40 [.c (.sl 7 (encSs l))] [.c (.sl 6 (encEs (allL (stmL l))))] := by
 refine holds_of_body zT prog40 rfl rfl rfl (by simp [Tryz.f40]) ?_
 refine aw_ops zT fun K1 hK1 => ?_
 refine sg ?_
 refine hK1 _ ?_
 clear hK1
 refine aw_ops zT fun K2 hK2 => ?_
 refine sg ?_
 refine hK2 _ ?_
 clear hK2
 refine aw_seq fun K3 hK3 => ?_
 refine aw_ops zT fun K4 hK4 => ?_
 refine sg ?_
 refine ⟨_, holds46 l hs, ?_⟩
 refine sgl ?_
 intros
 refine hK4 _ ?_
 clear hK4
 refine aw_block ?_
 refine aw_retag 3 0 1003 tsg ?_
 refine aw_nm ?_
 refine aw_range (α := St) (stmL l) (fun dn => True) (fun dn => [(3, .cell (.own 1003 0 32 6 (encEs (allL dn)))), (11, .cell (.c (.int .i64 dn.length)))]) (fun dn => []) [1003] [3, 5, 7, 11, 12, 13, 14, 15, 16, 17, 18, 19, 20, 21, 22, 23, 24, 25, 26, 27] [5, 7] trivial ?_ ?_ ?_ ?_
 ·
  simp only [amset, amlib, zset, eq_self, ↓reduceIte, reduceCtorEq, Nat.reduceBEq, reduceEqDiff, reduceAdd, reduceMul, reduceLeDiff, reduceLT, reduceSub] <;> simp [allL, allL_append, subL, subL_append, encEs_append, encEs_nil]
 ·
  simp only [amset, amlib, zset, eq_self, ↓reduceIte, reduceCtorEq, Nat.reduceBEq, reduceEqDiff, reduceAdd, reduceMul, reduceLeDiff, reduceLT, reduceSub] <;> simp [allL, allL_append, subL, subL_append, encEs_append, encEs_nil]
 ·
  intro hI R
  refine aw_nm ?_
  refine aw_ops zT fun K5 hK5 => ?_
  refine sg ?_
  refine hK5 _ ?_
  clear hK5
  refine aw_seq fun K6 hK6 => ?_
  refine aw_cond (t := false) (by simp [evalO, S.get, amLook]) (fun h => nomatch h) (fun _ => ?_)
  refine aw_exit ?_
  simp only [thenQ, blkQ, if_true, reduceIte, Nat.reduceEqDiff, eq_self]
  refine hK3 _ ?_
  clear hK3
  refine aw_ops zT fun K7 hK7 => ?_
  refine sg ?_
  refine hK7 _ ?_
  clear hK7
  refine aw_ret ?_
  show resOf zG _ [.tmp 2] = some _
  simp only [amset, amlib, zset, eq_self, ↓reduceIte, reduceCtorEq, Nat.reduceBEq, reduceEqDiff, reduceAdd, reduceMul, reduceLeDiff, reduceLT, reduceSub]
 ·
  intro dn y td harg hI R hR
  have hl : (stmL l).length = dn.length + (td.length + 1) := by rw [harg]; simp
  have hmem : y ∈ stmL l := by rw [harg]; simp
  refine aw_nm ?_
  have hget : (encSs (stmL l)).getD dn.length [] = encS y := by rw [harg]; exact encSs_mid dn td y
  have h1 : (allL (stmL l)).length = (allL dn).length + (subL y.args).length + (allL td).length := by
   rw [harg, allL_append]
   simp [allL]
   omega
  refine aw_ops zT fun K8 hK8 => ?_
  refine sg ?_
  refine hK8 _ ?_
  clear hK8
  refine aw_seq fun K9 hK9 => ?_
  refine aw_cond (t := true) (by simp [evalO, S.get, amLook]; omega) (fun _ => ?_) (fun h => nomatch h)
  refine aw_skip ?_
  simp only [thenQ, blkQ, if_true, reduceIte, Nat.reduceEqDiff, eq_self]
  refine hK9 _ ?_
  clear hK9
  refine aw_seq fun K10 hK10 => ?_
  refine aw_block ?_
  refine aw_ops zT fun K11 hK11 => ?_
  simp only [amset, amlib, zset, hget, eq_self, ↓reduceIte, reduceCtorEq, Nat.reduceBEq, reduceEqDiff, reduceAdd, reduceMul, reduceLeDiff, reduceLT, reduceSub]
  refine ⟨⟨by omega, by omega⟩, ?_⟩
  refine hK11 _ ?_
  clear hK11
  refine aw_ops zT fun K12 hK12 => ?_
  refine sg ?_
  intros
  refine hK12 _ ?_
  clear hK12
  refine aw_block ?_
  refine aw_range (α := Ex) (y.args) (fun dn1 => True) (fun dn1 => [(3, .cell (.own 1003 0 32 6 (encEs (allL dn ++ subL dn1)))), (18, .cell (.c (.int .i64 dn1.length)))]) (fun dn1 => []) [1003] [3, 7, 18, 19, 20, 21, 22, 23, 24, 25, 26] [7] trivial ?_ ?_ ?_ ?_
  ·
   simp only [amset, amlib, zset, eq_self, ↓reduceIte, reduceCtorEq, Nat.reduceBEq, reduceEqDiff, reduceAdd, reduceMul, reduceLeDiff, reduceLT, reduceSub] <;> simp [allL, allL_append, subL, subL_append, encEs_append, encEs_nil]
  ·
   simp only [amset, amlib, zset, eq_self, ↓reduceIte, reduceCtorEq, Nat.reduceBEq, reduceEqDiff, reduceAdd, reduceMul, reduceLeDiff, reduceLT, reduceSub] <;> simp [allL, allL_append, subL, subL_append, encEs_append, encEs_nil]
  ·
   intro hI1 R1
   refine aw_nm ?_
   refine aw_ops zT fun K13 hK13 => ?_
   refine sg ?_
   refine hK13 _ ?_
   clear hK13
   refine aw_seq fun K14 hK14 => ?_
   refine aw_cond (t := false) (by simp [evalO, S.get, amLook]) (fun h => nomatch h) (fun _ => ?_)
   refine aw_exit ?_
   simp only [thenQ, blkQ, if_true, reduceIte, Nat.reduceEqDiff, eq_self]
   refine hK10 _ ?_
   clear hK10
   refine aw_region zT ?_
   refine sg ?_
   refine ⟨⟨by omega, by omega⟩, ?_⟩
   refine hR _ trivial ?_
   refine Reach.to ?_ ?_
   ·
    simp only [amset, amlib, zset, eq_self, ↓reduceIte, reduceCtorEq, Nat.reduceBEq, reduceEqDiff, reduceAdd, reduceMul, reduceLeDiff, reduceLT, reduceSub] <;> simp [allL, allL_append, subL, subL_append, encEs_append, encEs_nil]
   ·
    simp only [amset, amlib, zset, eq_self, ↓reduceIte, reduceCtorEq, Nat.reduceBEq, reduceEqDiff, reduceAdd, reduceMul, reduceLeDiff, reduceLT, reduceSub] <;> simp [allL, allL_append, subL, subL_append, encEs_append, encEs_nil]
  ·
   intro dn1 y1 td1 harg1 hI1 R1 hR1
   have hl1 : (y.args).length = dn1.length + (td1.length + 1) := by rw [harg1]; simp
   have hmem1 : y1 ∈ y.args := by rw [harg1]; simp
   refine aw_nm ?_
   have hget1 : (encEs (y.args)).getD dn1.length [] = encE y1 := by rw [harg1]; exact encEs_mid dn1 td1 y1
   have h2 : (subL y.args).length = (subL dn1).length + (subE y1).length + (subL td1).length := by
    rw [harg1, subL_append]
    simp [subL]
    omega
   refine aw_ops zT fun K15 hK15 => ?_
   refine sg ?_
   refine hK15 _ ?_
   clear hK15
   refine aw_seq fun K16 hK16 => ?_
   refine aw_cond (t := true) (by simp [evalO, S.get, amLook]; omega) (fun _ => ?_) (fun h => nomatch h)
   refine aw_skip ?_
   simp only [thenQ, blkQ, if_true, reduceIte, Nat.reduceEqDiff, eq_self]
   refine hK16 _ ?_
   clear hK16
   refine aw_seq fun K17 hK17 => ?_
   refine aw_block ?_
   refine aw_ops zT fun K18 hK18 => ?_
   simp only [amset, amlib, zset, hget1, eq_self, ↓reduceIte, reduceCtorEq, Nat.reduceBEq, reduceEqDiff, reduceAdd, reduceMul, reduceLeDiff, reduceLT, reduceSub]
   refine ⟨⟨by omega, by omega⟩, ?_⟩
   refine hK18 _ ?_
   clear hK18
   refine aw_region zT ?_
   refine sg ?_
   refine ⟨_, holds19 y1 (by omega), ?_⟩
   refine sgl ?_
   refine ⟨⟨encEs_rows _, by omega⟩, ?_⟩
   refine hK17 _ ?_
   clear hK17
   refine aw_region zT ?_
   refine sg ?_
   refine ⟨⟨by omega, by omega⟩, ?_⟩
   refine hR1 _ trivial ?_
   refine Reach.trans (Reach.retag 25 0 1003 ?_) (Reach.to ?_ ?_)
   ·
    simp only [amset, amlib, zset, eq_self, ↓reduceIte, reduceCtorEq, Nat.reduceBEq, reduceEqDiff, reduceAdd, reduceMul, reduceLeDiff, reduceLT, reduceSub]
   ·
    simp only [amset, amlib, zset, eq_self, ↓reduceIte, reduceCtorEq, Nat.reduceBEq, reduceEqDiff, reduceAdd, reduceMul, reduceLeDiff, reduceLT, reduceSub] <;> simp [allL, allL_append, subL, subL_append, encEs_append, encEs_nil]
   ·
    simp only [amset, amlib, zset, eq_self, ↓reduceIte, reduceCtorEq, Nat.reduceBEq, reduceEqDiff, reduceAdd, reduceMul, reduceLeDiff, reduceLT, reduceSub] <;> simp [allL, allL_append, subL, subL_append, encEs_append, encEs_nil]
end Go.Proofs.Am
set_option maxRecDepth 100000
set_option maxHeartbeats 4000000
namespace Go.Proofs.Am
open Nat (reduceEqDiff reduceAdd reduceMul reduceLeDiff reduceLT reduceSub)
def szB (l : List St) : Nat := (stmL l).length + (allL (stmL l)).length
def szT : List Tk → Nat
 | [] => 0
 | t :: r => szB t.body + szT r
theorem szT_append (a b : List Tk) : szT (a ++ b) = szT a + szT b := by
 induction a with
 | nil => simp [szT]
 | cons x r ih => simp [szT, ih]; omega
theorem prog61 : Tryz.prog.funcs[61]? = some Tryz.f61 := by kernel_rfl
theorem holds61 (p : Pg) (hb : szT p.tasks ≤ 1000000000000) : Holds Tryz.prog zG 61 [.agg [.sl 3 (encCs p.consts), .sl 4 (encGs p.globals), .sl 1 (encStrs p.sensors), .sl 1 (encStrs p.outputs), .sl 3 (encHs p.channels), .sl 8 (encTs p.tasks)]] [.c (.int .i64 (szT p.tasks))] := by
 refine holds_of_body zT prog61 rfl rfl rfl (by simp [Tryz.f61]) ?_
 refine aw_ops zT fun K1 hK1 => ?_
 refine sg ?_
 refine hK1 _ ?_
 clear hK1
 refine aw_ops zT fun K2 hK2 => ?_
 refine sg ?_
 refine hK2 _ ?_
 clear hK2
 refine aw_seq fun K3 hK3 => ?_
 refine aw_ops zT fun K4 hK4 => ?_
 refine sg ?_
 intros
 refine hK4 _ ?_
 clear hK4
 refine aw_block ?_
 refine aw_range (α := Tk) (p.tasks) (fun dn => True) (fun dn => [(3, .cell (.c (.int .i64 (szT dn : Nat)))), (9, .cell (.c (.int .i64 dn.length)))]) (fun dn => []) [] [3, 5, 9, 10, 11, 12, 13, 14, 15, 16, 17, 18, 19, 20, 21, 22, 23, 24] [5] trivial ?_ ?_ ?_ ?_
 ·
  simp only [amset, amlib, zset, eq_self, ↓reduceIte, reduceCtorEq, Nat.reduceBEq, reduceEqDiff, reduceAdd, reduceMul, reduceLeDiff, reduceLT, reduceSub] <;> simp [szT, szT_append, szB, Int.natCast_add, Int.add_assoc]
 ·
  simp only [amset, amlib, zset, eq_self, ↓reduceIte, reduceCtorEq, Nat.reduceBEq, reduceEqDiff, reduceAdd, reduceMul, reduceLeDiff, reduceLT, reduceSub] <;> simp [szT, szT_append, szB, Int.natCast_add, Int.add_assoc]
 ·
  intro hI R
  refine aw_nm ?_
  refine aw_ops zT fun K5 hK5 => ?_
  refine sg ?_
  refine hK5 _ ?_
  clear hK5
  refine aw_seq fun K6 hK6 => ?_
  refine aw_cond (t := false) (by simp [evalO, S.get, amLook]) (fun h => nomatch h) (fun _ => ?_)
  refine aw_exit ?_
  simp only [thenQ, blkQ, if_true, reduceIte, Nat.reduceEqDiff, eq_self]
  refine hK3 _ ?_
  clear hK3
  refine aw_ops zT fun K7 hK7 => ?_
  refine sg ?_
  refine hK7 _ ?_
  clear hK7
  refine aw_ret ?_
  show resOf zG _ [.tmp 2] = some _
  simp only [amset, amlib, zset, eq_self, ↓reduceIte, reduceCtorEq, Nat.reduceBEq, reduceEqDiff, reduceAdd, reduceMul, reduceLeDiff, reduceLT, reduceSub]
 ·
  intro dn y td harg hI R hR
  have hl : (p.tasks).length = dn.length + (td.length + 1) := by rw [harg]; simp
  have hmem : y ∈ p.tasks := by rw [harg]; simp
  refine aw_nm ?_
  have hget : (encTs (p.tasks)).getD dn.length [] = encT y := by rw [harg]; exact encTs_mid dn td y
  have h1 : szT p.tasks = szT dn + ((stmL y.body).length + (allL (stmL y.body)).length) + szT td := by
   rw [harg, szT_append]
   simp [szT, szB]
   omega
  refine aw_ops zT fun K8 hK8 => ?_
  refine sg ?_
  refine hK8 _ ?_
  clear hK8
  refine aw_seq fun K9 hK9 => ?_
  refine aw_cond (t := true) (by simp [evalO, S.get, amLook]; omega) (fun _ => ?_) (fun h => nomatch h)
  refine aw_skip ?_
  simp only [thenQ, blkQ, if_true, reduceIte, Nat.reduceEqDiff, eq_self]
  refine hK9 _ ?_
  clear hK9
  refine aw_seq fun K10 hK10 => ?_
  refine aw_block ?_
  refine aw_ops zT fun K11 hK11 => ?_
  simp only [amset, amlib, zset, hget, eq_self, ↓reduceIte, reduceCtorEq, Nat.reduceBEq, reduceEqDiff, reduceAdd, reduceMul, reduceLeDiff, reduceLT, reduceSub]
  refine ⟨⟨by omega, by omega⟩, ?_⟩
  refine hK11 _ ?_
  clear hK11
  refine aw_draw_region zT prog_mixed ?_
  refine sg ?_
  refine ⟨_, holds46 y.body (by omega), ?_⟩
  refine sgl ?_
  intros
  refine ⟨⟨by omega, by omega⟩, ?_⟩
  refine ⟨_, holds40 y.body (by omega) (by omega), ?_⟩
  refine sgl ?_
  intros
  refine ⟨⟨by omega, by omega⟩, ?_⟩
  refine ⟨by kernel_rfl, ?_⟩
  refine hK10 _ ?_
  clear hK10
  refine aw_region zT ?_
  refine sg ?_
  refine ⟨⟨by omega, by omega⟩, ?_⟩
  refine hR _ trivial ?_
  refine Reach.to ?_ ?_
  ·
   simp only [amset, amlib, zset, eq_self, ↓reduceIte, reduceCtorEq, Nat.reduceBEq, reduceEqDiff, reduceAdd, reduceMul, reduceLeDiff, reduceLT, reduceSub] <;> simp [szT, szT_append, szB, Int.natCast_add, Int.add_assoc]
  ·
   simp only [amset, amlib, zset, eq_self, ↓reduceIte, reduceCtorEq, Nat.reduceBEq, reduceEqDiff, reduceAdd, reduceMul, reduceLeDiff, reduceLT, reduceSub] <;> simp [szT, szT_append, szB, Int.natCast_add, Int.add_assoc]
end Go.Proofs.Am
set_option maxRecDepth 100000
set_option maxHeartbeats 4000000
namespace Go.Proofs.Am
open Nat (reduceEqDiff reduceAdd reduceMul reduceLeDiff reduceLT reduceSub)
mutual
def depE : Ex → Nat
 | .mk _ _ _ _ a _ => depL a + 1
def depL : List Ex → Nat
 | [] => 0
 | x :: r => max (depE x) (depL r)
end
theorem depE_eq (x : Ex) : depE x = depL x.args + 1 := by cases x; rfl
theorem depL_append (a b : List Ex) : depL (a ++ b) = max (depL a) (depL b) := by
 induction a with
 | nil => simp [depL]
 | cons x r ih => simp [depL, ih, Nat.max_assoc]
theorem max_nat (a b : Nat) : (if a < b then ((b : Nat) : Int) else ((a : Nat) : Int)) = ((max a b : Nat) : Int) := by
 split <;> omega
theorem max_cast (a b : Nat) : (if (b : Int) > (a : Int) then (b : Int) else (a : Int)) = ((max a b : Nat) : Int) := by
 split <;> omega
theorem max_cast' (a b : Nat) : (if (a : Int) < (b : Int) then (b : Int) else (a : Int)) = ((max a b : Nat) : Int) := by
 split <;> omega
theorem depL_mem {x : Ex} {l : List Ex} (h : x ∈ l) : depE x ≤ depL l := by
 induction l with
 | nil => cases h
 | cons y r ih =>
  rcases List.mem_cons.1 h with rfl | h
  ·
   simp [depL]; omega
  ·
   have := ih h; simp [depL]; omega
theorem prog192 : Tryz.prog.funcs[192]? = some Tryz.f192 := by kernel_rfl
theorem step192 (x : Ex) (hb : depE x ≤ 1000000000000) (ih : ∀ y ∈ x.args, depE y ≤ 1000000000000 → Holds Tryz.prog zG 192 [.agg [.int .i64 y.kind, .str y.name, .int .i16 y.value, .int .i64 y.op, .sl 6 (encEs y.args), .int .i64 y.pos]] [.c (.int .i64 (depE y))]) : Holds Tryz.prog zG 192 [.agg [.int .i64 x.kind, .str x.name, .int .i16 x.value, .int .i64 x.op, .sl 6 (encEs x.args), .int .i64 x.pos]] [.c (.int .i64 (depE x))] := by
 refine holds_of_body zT prog192 rfl rfl rfl (by simp [Tryz.f192]) ?_
 refine aw_ops zT fun K1 hK1 => ?_
 refine sg ?_
 refine hK1 _ ?_
 clear hK1
 refine aw_ops zT fun K2 hK2 => ?_
 refine sg ?_
 refine hK2 _ ?_
 clear hK2
 refine aw_seq fun K3 hK3 => ?_
 refine aw_ops zT fun K4 hK4 => ?_
 refine sg ?_
 intros
 refine hK4 _ ?_
 clear hK4
 refine aw_block ?_
 refine aw_range (α := Ex) (x.args) (fun dn => True) (fun dn => [(3, .cell (.c (.int .i64 (depL dn : Nat)))), (9, .cell (.c (.int .i64 dn.length)))]) (fun dn => []) [] [3, 5, 9, 10, 11, 12, 13, 14, 15, 16, 17] [5] trivial ?_ ?_ ?_ ?_
 ·
  simp only [amset, amlib, zset, eq_self, ↓reduceIte, reduceCtorEq, Nat.reduceBEq, reduceEqDiff, reduceAdd, reduceMul, reduceLeDiff, reduceLT, reduceSub] <;> simp [depL, depL_append, max_cast, max_cast', max_nat, gt_iff_lt]
 ·
  simp only [amset, amlib, zset, eq_self, ↓reduceIte, reduceCtorEq, Nat.reduceBEq, reduceEqDiff, reduceAdd, reduceMul, reduceLeDiff, reduceLT, reduceSub] <;> simp [depL, depL_append, max_cast, max_cast', max_nat, gt_iff_lt]
 ·
  intro hI R
  refine aw_nm ?_
  refine aw_ops zT fun K5 hK5 => ?_
  refine sg ?_
  refine hK5 _ ?_
  clear hK5
  refine aw_seq fun K6 hK6 => ?_
  refine aw_cond (t := false) (by simp [evalO, S.get, amLook]) (fun h => nomatch h) (fun _ => ?_)
  refine aw_exit ?_
  simp only [thenQ, blkQ, if_true, reduceIte, Nat.reduceEqDiff, eq_self]
  refine hK3 _ ?_
  clear hK3
  refine aw_ops zT fun K7 hK7 => ?_
  simp only [amset, amlib, zset, eq_self, ↓reduceIte, reduceCtorEq, Nat.reduceBEq, reduceEqDiff, reduceAdd, reduceMul, reduceLeDiff, reduceLT, reduceSub]
  rw [depE_eq] at hb
  refine ⟨⟨by omega, by omega⟩, ?_⟩
  refine hK7 _ ?_
  clear hK7
  refine aw_ret ?_
  show resOf zG _ [.tmp 2] = some _
  simp only [amset, amlib, zset, eq_self, ↓reduceIte, reduceCtorEq, Nat.reduceBEq, reduceEqDiff, reduceAdd, reduceMul, reduceLeDiff, reduceLT, reduceSub]
  simp [depE_eq]
 ·
  intro dn y td harg hI R hR
  have hl : (x.args).length = dn.length + (td.length + 1) := by rw [harg]; simp
  have hmem : y ∈ x.args := by rw [harg]; simp
  refine aw_nm ?_
  have hget : (encEs (x.args)).getD dn.length [] = encE y := by rw [harg]; exact encEs_mid dn td y
  have hy := depL_mem hmem
  rw [depE_eq] at hb
  refine aw_ops zT fun K8 hK8 => ?_
  refine sg ?_
  refine hK8 _ ?_
  clear hK8
  refine aw_seq fun K9 hK9 => ?_
  refine aw_cond (t := true) (by simp [evalO, S.get, amLook]; omega) (fun _ => ?_) (fun h => nomatch h)
  refine aw_skip ?_
  simp only [thenQ, blkQ, if_true, reduceIte, Nat.reduceEqDiff, eq_self]
  refine hK9 _ ?_
  clear hK9
  refine aw_seq fun K10 hK10 => ?_
  refine aw_block ?_
  refine aw_ops zT fun K11 hK11 => ?_
  simp only [amset, amlib, zset, hget, eq_self, ↓reduceIte, reduceCtorEq, Nat.reduceBEq, reduceEqDiff, reduceAdd, reduceMul, reduceLeDiff, reduceLT, reduceSub]
  refine ⟨⟨by omega, by omega⟩, ?_⟩
  refine hK11 _ ?_
  clear hK11
  refine aw_region zT ?_
  refine sg ?_
  refine ⟨_, ih y hmem (by omega), ?_⟩
  refine sgl ?_
  refine hK10 _ ?_
  clear hK10
  refine aw_region zT ?_
  refine sg ?_
  refine ⟨⟨by omega, by omega⟩, ?_⟩
  refine hR _ trivial ?_
  refine Reach.to ?_ ?_
  ·
   simp only [amset, amlib, zset, eq_self, ↓reduceIte, reduceCtorEq, Nat.reduceBEq, reduceEqDiff, reduceAdd, reduceMul, reduceLeDiff, reduceLT, reduceSub] <;> simp [depL, depL_append, max_cast, max_cast', max_nat, gt_iff_lt]
  ·
   simp only [amset, amlib, zset, eq_self, ↓reduceIte, reduceCtorEq, Nat.reduceBEq, reduceEqDiff, reduceAdd, reduceMul, reduceLeDiff, reduceLT, reduceSub] <;> simp [depL, depL_append, max_cast, max_cast', max_nat, gt_iff_lt]
theorem holds192 (x : Ex) (hb : depE x ≤ 1000000000000) : Holds Tryz.prog zG 192 [.agg [.int .i64 x.kind, .str x.name, .int .i16 x.value, .int .i64 x.op, .sl 6 (encEs x.args), .int .i64 x.pos]] [.c (.int .i64 (depE x))] := step192 x hb fun y hmem hb => holds192 y hb
  termination_by SizeOf.sizeOf x
  decreasing_by exact Ex.args_lt hmem
end Go.Proofs.Am
set_option maxRecDepth 100000
set_option maxHeartbeats 4000000
namespace Go.Proofs.Am
open Nat (reduceEqDiff reduceAdd reduceMul reduceLeDiff reduceLT reduceSub)
mutual
def depS : St → Nat
 | .mk _ _ _ a b e _ => max (max (depM b) (depM e)) (depL a) + 1
def depM : List St → Nat
 | [] => 0
 | x :: r => max (depS x) (depM r)
end
theorem depS_eq (x : St) : depS x = max (max (depM x.body) (depM x.els)) (depL x.args) + 1 := by cases x; rfl
theorem depM_append (a b : List St) : depM (a ++ b) = max (depM a) (depM b) := by
 induction a with
 | nil => simp [depM]
 | cons x r ih => simp [depM, ih, Nat.max_assoc]
theorem max_cast1 (a b : Nat) : (if ((b : Nat) : Int) + 1 > (a : Int) then (b : Int) + 1 else (a : Int)) = ((max a (b + 1) : Nat) : Int) := by
 split <;> omega
theorem depM_mem {x : St} {l : List St} (h : x ∈ l) : depS x ≤ depM l := by
 induction l with
 | nil => cases h
 | cons y r ih =>
  rcases List.mem_cons.1 h with rfl | h
  ·
   simp [depM]; omega
  ·
   have := ih h; simp [depM]; omega
theorem prog139 : Tryz.prog.funcs[139]? = some Tryz.f139 := by kernel_rfl
theorem step139 (l : List St) (hb : depM l ≤ 1000000000000) (ih : ∀ m : List St, SizeOf.sizeOf m < SizeOf.sizeOf l → depM m ≤ 1000000000000 → Holds Tryz.prog zG 139 [.c (.sl 7 (encSs m))] [.c (.int .i64 (depM m))]) : Holds Tryz.prog zG 139 [.c (.sl 7 (encSs l))] [.c (.int .i64 (depM l))] := by
 refine holds_of_body zT prog139 rfl rfl rfl (by simp [Tryz.f139]) ?_
 refine aw_ops zT fun K1 hK1 => ?_
 simp only [amset, amlib, zset, max_cast, max_cast1, eq_self, ↓reduceIte, reduceCtorEq, Nat.reduceBEq, reduceEqDiff, reduceAdd, reduceMul, reduceLeDiff, reduceLT, reduceSub]
 refine hK1 _ ?_
 clear hK1
 refine aw_ops zT fun K2 hK2 => ?_
 simp only [amset, amlib, zset, max_cast, max_cast1, eq_self, ↓reduceIte, reduceCtorEq, Nat.reduceBEq, reduceEqDiff, reduceAdd, reduceMul, reduceLeDiff, reduceLT, reduceSub]
 refine hK2 _ ?_
 clear hK2
 refine aw_seq fun K3 hK3 => ?_
 refine aw_ops zT fun K4 hK4 => ?_
 simp only [amset, amlib, zset, max_cast, max_cast1, eq_self, ↓reduceIte, reduceCtorEq, Nat.reduceBEq, reduceEqDiff, reduceAdd, reduceMul, reduceLeDiff, reduceLT, reduceSub]
 intros
 refine hK4 _ ?_
 clear hK4
 refine aw_block ?_
 refine aw_range (α := St) (l) (fun dn => True) (fun dn => [(3, .cell (.c (.int .i64 (depM dn : Nat)))), (11, .cell (.c (.int .i64 dn.length)))]) (fun dn => []) [] [3, 5, 6, 8, 11, 12, 13, 14, 15, 16, 17, 18, 19, 20, 21, 22, 23, 24, 25, 26, 27, 28, 29, 30, 31, 32, 33, 34, 35, 36, 37, 38] [5, 8] trivial ?_ ?_ ?_ ?_
 ·
  simp only [amset, amlib, zset, max_cast, max_cast1, eq_self, ↓reduceIte, reduceCtorEq, Nat.reduceBEq, reduceEqDiff, reduceAdd, reduceMul, reduceLeDiff, reduceLT, reduceSub] <;> simp [depM, depM_append, depL, depL_append, depS_eq, Nat.max_assoc, Nat.max_comm, Nat.max_left_comm, max_cast, max_nat]
 ·
  simp only [amset, amlib, zset, max_cast, max_cast1, eq_self, ↓reduceIte, reduceCtorEq, Nat.reduceBEq, reduceEqDiff, reduceAdd, reduceMul, reduceLeDiff, reduceLT, reduceSub] <;> simp [depM, depM_append, depL, depL_append, depS_eq, Nat.max_assoc, Nat.max_comm, Nat.max_left_comm, max_cast, max_nat]
 ·
  intro hI R
  refine aw_norm (by simp only [amset, amlib, zset, max_cast, max_cast1, eq_self, ↓reduceIte, reduceCtorEq, Nat.reduceBEq, reduceEqDiff, reduceAdd, reduceMul, reduceLeDiff, reduceLT, reduceSub]; exact rfl) ?_
  refine aw_ops zT fun K5 hK5 => ?_
  simp only [amset, amlib, zset, max_cast, max_cast1, eq_self, ↓reduceIte, reduceCtorEq, Nat.reduceBEq, reduceEqDiff, reduceAdd, reduceMul, reduceLeDiff, reduceLT, reduceSub]
  refine hK5 _ ?_
  clear hK5
  refine aw_seq fun K6 hK6 => ?_
  refine aw_cond (t := false) (by simp [evalO, S.get, amLook]) (fun h => nomatch h) (fun _ => ?_)
  refine aw_exit ?_
  simp only [thenQ, blkQ, if_true, reduceIte, Nat.reduceEqDiff, eq_self]
  refine hK3 _ ?_
  clear hK3
  refine aw_ops zT fun K7 hK7 => ?_
  simp only [amset, amlib, zset, max_cast, max_cast1, eq_self, ↓reduceIte, reduceCtorEq, Nat.reduceBEq, reduceEqDiff, reduceAdd, reduceMul, reduceLeDiff, reduceLT, reduceSub]
  refine hK7 _ ?_
  clear hK7
  refine aw_ret ?_
  show resOf zG _ [.tmp 2] = some _
  simp only [amset, amlib, zset, max_cast, max_cast1, eq_self, ↓reduceIte, reduceCtorEq, Nat.reduceBEq, reduceEqDiff, reduceAdd, reduceMul, reduceLeDiff, reduceLT, reduceSub]
 ·
  intro dn y td harg hI R hR
  have hl : (l).length = dn.length + (td.length + 1) := by rw [harg]; simp
  have hmem : y ∈ l := by rw [harg]; simp
  refine aw_norm (by simp only [amset, amlib, zset, max_cast, max_cast1, eq_self, ↓reduceIte, reduceCtorEq, Nat.reduceBEq, reduceEqDiff, reduceAdd, reduceMul, reduceLeDiff, reduceLT, reduceSub]; exact rfl) ?_
  have hget : (encSs (l)).getD dn.length [] = encS y := by rw [harg]; exact encSs_mid dn td y
  have hy := depM_mem hmem
  rw [depS_eq] at hy
  refine aw_ops zT fun K8 hK8 => ?_
  simp only [amset, amlib, zset, max_cast, max_cast1, eq_self, ↓reduceIte, reduceCtorEq, Nat.reduceBEq, reduceEqDiff, reduceAdd, reduceMul, reduceLeDiff, reduceLT, reduceSub]
  refine hK8 _ ?_
  clear hK8
  refine aw_seq fun K9 hK9 => ?_
  refine aw_cond (t := true) (by simp [evalO, S.get, amLook]; omega) (fun _ => ?_) (fun h => nomatch h)
  refine aw_skip ?_
  simp only [thenQ, blkQ, if_true, reduceIte, Nat.reduceEqDiff, eq_self]
  refine hK9 _ ?_
  clear hK9
  refine aw_seq fun K10 hK10 => ?_
  refine aw_block ?_
  refine aw_ops zT fun K11 hK11 => ?_
  simp only [amset, amlib, zset, hget, max_cast, max_cast1, eq_self, ↓reduceIte, reduceCtorEq, Nat.reduceBEq, reduceEqDiff, reduceAdd, reduceMul, reduceLeDiff, reduceLT, reduceSub]
  refine ⟨⟨by omega, by omega⟩, ?_⟩
  refine hK11 _ ?_
  clear hK11
  refine aw_draw zT prog_mixed fun K12 hK12 => ?_
  simp only [amset, amlib, zset, max_cast, max_cast1, eq_self, ↓reduceIte, reduceCtorEq, Nat.reduceBEq, reduceEqDiff, reduceAdd, reduceMul, reduceLeDiff, reduceLT, reduceSub]
  refine ⟨_, ih y.body (sizeOf_body hmem) (by omega), ?_⟩
  simp only [later]
  simp only [amset, amlib, zset, max_cast, max_cast1, eq_self, ↓reduceIte, reduceCtorEq, Nat.reduceBEq, reduceEqDiff, reduceAdd, reduceMul, reduceLeDiff, reduceLT, reduceSub]
  refine ⟨_, ih y.els (sizeOf_els hmem) (by omega), ?_⟩
  simp only [later]
  simp only [amset, amlib, zset, max_cast, max_cast1, eq_self, ↓reduceIte, reduceCtorEq, Nat.reduceBEq, reduceEqDiff, reduceAdd, reduceMul, reduceLeDiff, reduceLT, reduceSub]
  refine ⟨by kernel_rfl, ?_⟩
  refine hK12 _ ?_
  clear hK12
  refine aw_seq fun K13 hK13 => ?_
  refine aw_ops zT fun K14 hK14 => ?_
  simp only [amset, amlib, zset, max_cast, max_cast1, eq_self, ↓reduceIte, reduceCtorEq, Nat.reduceBEq, reduceEqDiff, reduceAdd, reduceMul, reduceLeDiff, reduceLT, reduceSub]
  intros
  refine hK14 _ ?_
  clear hK14
  refine aw_block ?_
  refine aw_range (α := Ex) (y.args) (fun dn1 => True) (fun dn1 => [(6, .cell (.c (.int .i64 (max (max (depM y.body) (depM y.els)) (depL dn1) : Nat)))), (25, .cell (.c (.int .i64 dn1.length)))]) (fun dn1 => []) [] [6, 8, 25, 26, 27, 28, 29, 30, 31, 32, 33] [8] trivial ?_ ?_ ?_ ?_
  ·
   simp only [amset, amlib, zset, max_cast, max_cast1, eq_self, ↓reduceIte, reduceCtorEq, Nat.reduceBEq, reduceEqDiff, reduceAdd, reduceMul, reduceLeDiff, reduceLT, reduceSub] <;> simp [depM, depM_append, depL, depL_append, depS_eq, Nat.max_assoc, Nat.max_comm, Nat.max_left_comm, max_cast, max_nat]
  ·
   simp only [amset, amlib, zset, max_cast, max_cast1, eq_self, ↓reduceIte, reduceCtorEq, Nat.reduceBEq, reduceEqDiff, reduceAdd, reduceMul, reduceLeDiff, reduceLT, reduceSub] <;> simp [depM, depM_append, depL, depL_append, depS_eq, Nat.max_assoc, Nat.max_comm, Nat.max_left_comm, max_cast, max_nat]
  ·
   intro hI1 R1
   refine aw_norm (by simp only [amset, amlib, zset, max_cast, max_cast1, eq_self, ↓reduceIte, reduceCtorEq, Nat.reduceBEq, reduceEqDiff, reduceAdd, reduceMul, reduceLeDiff, reduceLT, reduceSub]; exact rfl) ?_
   refine aw_ops zT fun K15 hK15 => ?_
   simp only [amset, amlib, zset, max_cast, max_cast1, eq_self, ↓reduceIte, reduceCtorEq, Nat.reduceBEq, reduceEqDiff, reduceAdd, reduceMul, reduceLeDiff, reduceLT, reduceSub]
   refine hK15 _ ?_
   clear hK15
   refine aw_seq fun K16 hK16 => ?_
   refine aw_cond (t := false) (by simp [evalO, S.get, amLook]) (fun h => nomatch h) (fun _ => ?_)
   refine aw_exit ?_
   simp only [thenQ, blkQ, if_true, reduceIte, Nat.reduceEqDiff, eq_self]
   refine hK13 _ ?_
   clear hK13
   refine aw_region zT ?_
   simp only [amset, amlib, zset, max_cast, max_cast1, eq_self, ↓reduceIte, reduceCtorEq, Nat.reduceBEq, reduceEqDiff, reduceAdd, reduceMul, reduceLeDiff, reduceLT, reduceSub]
   refine ⟨⟨by omega, by omega⟩, ?_⟩
   refine hK10 _ ?_
   clear hK10
   refine aw_region zT ?_
   simp only [amset, amlib, zset, max_cast, max_cast1, eq_self, ↓reduceIte, reduceCtorEq, Nat.reduceBEq, reduceEqDiff, reduceAdd, reduceMul, reduceLeDiff, reduceLT, reduceSub]
   refine ⟨⟨by omega, by omega⟩, ?_⟩
   refine hR _ trivial ?_
   refine Reach.to ?_ ?_
   ·
    simp only [amset, amlib, zset, max_cast, max_cast1, eq_self, ↓reduceIte, reduceCtorEq, Nat.reduceBEq, reduceEqDiff, reduceAdd, reduceMul, reduceLeDiff, reduceLT, reduceSub] <;> simp [depM, depM_append, depL, depL_append, depS_eq, Nat.max_assoc, Nat.max_comm, Nat.max_left_comm, max_cast, max_nat]
   ·
    simp only [amset, amlib, zset, max_cast, max_cast1, eq_self, ↓reduceIte, reduceCtorEq, Nat.reduceBEq, reduceEqDiff, reduceAdd, reduceMul, reduceLeDiff, reduceLT, reduceSub] <;> simp [depM, depM_append, depL, depL_append, depS_eq, Nat.max_assoc, Nat.max_comm, Nat.max_left_comm, max_cast, max_nat]
  ·
   intro dn1 y1 td1 harg1 hI1 R1 hR1
   have hl1 : (y.args).length = dn1.length + (td1.length + 1) := by rw [harg1]; simp
   have hmem1 : y1 ∈ y.args := by rw [harg1]; simp
   refine aw_norm (by simp only [amset, amlib, zset, max_cast, max_cast1, eq_self, ↓reduceIte, reduceCtorEq, Nat.reduceBEq, reduceEqDiff, reduceAdd, reduceMul, reduceLeDiff, reduceLT, reduceSub]; exact rfl) ?_
   have hget1 : (encEs (y.args)).getD dn1.length [] = encE y1 := by rw [harg1]; exact encEs_mid dn1 td1 y1
   have hy1 := depL_mem hmem1
   refine aw_ops zT fun K17 hK17 => ?_
   simp only [amset, amlib, zset, max_cast, max_cast1, eq_self, ↓reduceIte, reduceCtorEq, Nat.reduceBEq, reduceEqDiff, reduceAdd, reduceMul, reduceLeDiff, reduceLT, reduceSub]
   refine hK17 _ ?_
   clear hK17
   refine aw_seq fun K18 hK18 => ?_
   refine aw_cond (t := true) (by simp [evalO, S.get, amLook]; omega) (fun _ => ?_) (fun h => nomatch h)
   refine aw_skip ?_
   simp only [thenQ, blkQ, if_true, reduceIte, Nat.reduceEqDiff, eq_self]
   refine hK18 _ ?_
   clear hK18
   refine aw_seq fun K19 hK19 => ?_
   refine aw_block ?_
   refine aw_ops zT fun K20 hK20 => ?_
   simp only [amset, amlib, zset, hget1, max_cast, max_cast1, eq_self, ↓reduceIte, reduceCtorEq, Nat.reduceBEq, reduceEqDiff, reduceAdd, reduceMul, reduceLeDiff, reduceLT, reduceSub]
   refine ⟨⟨by omega, by omega⟩, ?_⟩
   refine hK20 _ ?_
   clear hK20
   refine aw_region zT ?_
   simp only [amset, amlib, zset, max_cast, max_cast1, eq_self, ↓reduceIte, reduceCtorEq, Nat.reduceBEq, reduceEqDiff, reduceAdd, reduceMul, reduceLeDiff, reduceLT, reduceSub]
   refine ⟨_, holds192 y1 (by omega), ?_⟩
   simp only [later]
   simp only [amset, amlib, zset, max_cast, max_cast1, eq_self, ↓reduceIte, reduceCtorEq, Nat.reduceBEq, reduceEqDiff, reduceAdd, reduceMul, reduceLeDiff, reduceLT, reduceSub]
   refine hK19 _ ?_
   clear hK19
   refine aw_region zT ?_
   simp only [amset, amlib, zset, max_cast, max_cast1, eq_self, ↓reduceIte, reduceCtorEq, Nat.reduceBEq, reduceEqDiff, reduceAdd, reduceMul, reduceLeDiff, reduceLT, reduceSub]
   refine ⟨⟨by omega, by omega⟩, ?_⟩
   refine hR1 _ trivial ?_
   refine Reach.to ?_ ?_
   ·
    simp only [amset, amlib, zset, max_cast, max_cast1, eq_self, ↓reduceIte, reduceCtorEq, Nat.reduceBEq, reduceEqDiff, reduceAdd, reduceMul, reduceLeDiff, reduceLT, reduceSub] <;> simp [depM, depM_append, depL, depL_append, depS_eq, Nat.max_assoc, Nat.max_comm, Nat.max_left_comm, max_cast, max_nat]
   ·
    simp only [amset, amlib, zset, max_cast, max_cast1, eq_self, ↓reduceIte, reduceCtorEq, Nat.reduceBEq, reduceEqDiff, reduceAdd, reduceMul, reduceLeDiff, reduceLT, reduceSub] <;> simp [depM, depM_append, depL, depL_append, depS_eq, Nat.max_assoc, Nat.max_comm, Nat.max_left_comm, max_cast, max_nat]
theorem holds139 (l : List St) (hb : depM l ≤ 1000000000000) : Holds Tryz.prog zG 139 [.c (.sl 7 (encSs l))] [.c (.int .i64 (depM l))] := step139 l hb fun m hm hb => holds139 m hb
  termination_by SizeOf.sizeOf l
  decreasing_by exact hm
end Go.Proofs.Am
set_option maxRecDepth 100000
set_option maxHeartbeats 4000000
namespace Go.Proofs.Am
open Nat (reduceEqDiff reduceAdd reduceMul reduceLeDiff reduceLT reduceSub)
def depT : List Tk → Nat
 | [] => 0
 | t :: r => max (depM t.body) (depT r)
theorem depT_append (a b : List Tk) : depT (a ++ b) = max (depT a) (depT b) := by
 induction a with
 | nil => simp [depT]
 | cons x r ih => simp [depT, ih, Nat.max_assoc]
theorem depT_mem {x : Tk} {l : List Tk} (h : x ∈ l) : depM x.body ≤ depT l := by
 induction l with
 | nil => cases h
 | cons y r ih =>
  rcases List.mem_cons.1 h with rfl | h
  ·
   simp [depT]; omega
  ·
   have := ih h; simp [depT]; omega
theorem prog62 : Tryz.prog.funcs[62]? = some Tryz.f62 := by kernel_rfl
theorem holds62 (p : Pg) (hb : depT p.tasks ≤ 1000000000000) : Holds Tryz.prog zG 62 [.agg [.sl 3 (encCs p.consts), .sl 4 (encGs p.globals), .sl 1 (encStrs p.sensors), .sl 1 (encStrs p.outputs), .sl 3 (encHs p.channels), .sl 8 (encTs p.tasks)]] [.c (.int .i64 (depT p.tasks))] := by
 refine holds_of_body zT prog62 rfl rfl rfl (by simp [Tryz.f62]) ?_
 refine aw_ops zT fun K1 hK1 => ?_
 simp only [amset, amlib, zset, max_cast, max_cast1, eq_self, ↓reduceIte, reduceCtorEq, Nat.reduceBEq, reduceEqDiff, reduceAdd, reduceMul, reduceLeDiff, reduceLT, reduceSub]
 refine hK1 _ ?_
 clear hK1
 refine aw_ops zT fun K2 hK2 => ?_
 simp only [amset, amlib, zset, max_cast, max_cast1, eq_self, ↓reduceIte, reduceCtorEq, Nat.reduceBEq, reduceEqDiff, reduceAdd, reduceMul, reduceLeDiff, reduceLT, reduceSub]
 refine hK2 _ ?_
 clear hK2
 refine aw_seq fun K3 hK3 => ?_
 refine aw_ops zT fun K4 hK4 => ?_
 simp only [amset, amlib, zset, max_cast, max_cast1, eq_self, ↓reduceIte, reduceCtorEq, Nat.reduceBEq, reduceEqDiff, reduceAdd, reduceMul, reduceLeDiff, reduceLT, reduceSub]
 intros
 refine hK4 _ ?_
 clear hK4
 refine aw_block ?_
 refine aw_range (α := Tk) (p.tasks) (fun dn => True) (fun dn => [(3, .cell (.c (.int .i64 (depT dn : Nat)))), (9, .cell (.c (.int .i64 dn.length)))]) (fun dn => []) [] [3, 5, 9, 10, 11, 12, 13, 14, 15, 16, 17, 18] [5] trivial ?_ ?_ ?_ ?_
 ·
  simp only [amset, amlib, zset, max_cast, max_cast1, eq_self, ↓reduceIte, reduceCtorEq, Nat.reduceBEq, reduceEqDiff, reduceAdd, reduceMul, reduceLeDiff, reduceLT, reduceSub] <;> simp [depT, depT_append, max_cast, max_nat, Nat.max_comm]
 ·
  simp only [amset, amlib, zset, max_cast, max_cast1, eq_self, ↓reduceIte, reduceCtorEq, Nat.reduceBEq, reduceEqDiff, reduceAdd, reduceMul, reduceLeDiff, reduceLT, reduceSub] <;> simp [depT, depT_append, max_cast, max_nat, Nat.max_comm]
 ·
  intro hI R
  refine aw_norm (by simp only [amset, amlib, zset, max_cast, max_cast1, eq_self, ↓reduceIte, reduceCtorEq, Nat.reduceBEq, reduceEqDiff, reduceAdd, reduceMul, reduceLeDiff, reduceLT, reduceSub]; exact rfl) ?_
  refine aw_ops zT fun K5 hK5 => ?_
  simp only [amset, amlib, zset, max_cast, max_cast1, eq_self, ↓reduceIte, reduceCtorEq, Nat.reduceBEq, reduceEqDiff, reduceAdd, reduceMul, reduceLeDiff, reduceLT, reduceSub]
  refine hK5 _ ?_
  clear hK5
  refine aw_seq fun K6 hK6 => ?_
  refine aw_cond (t := false) (by simp [evalO, S.get, amLook]) (fun h => nomatch h) (fun _ => ?_)
  refine aw_exit ?_
  simp only [thenQ, blkQ, if_true, reduceIte, Nat.reduceEqDiff, eq_self]
  refine hK3 _ ?_
  clear hK3
  refine aw_ops zT fun K7 hK7 => ?_
  simp only [amset, amlib, zset, max_cast, max_cast1, eq_self, ↓reduceIte, reduceCtorEq, Nat.reduceBEq, reduceEqDiff, reduceAdd, reduceMul, reduceLeDiff, reduceLT, reduceSub]
  refine hK7 _ ?_
  clear hK7
  refine aw_ret ?_
  show resOf zG _ [.tmp 2] = some _
  simp only [amset, amlib, zset, max_cast, max_cast1, eq_self, ↓reduceIte, reduceCtorEq, Nat.reduceBEq, reduceEqDiff, reduceAdd, reduceMul, reduceLeDiff, reduceLT, reduceSub]
 ·
  intro dn y td harg hI R hR
  have hl : (p.tasks).length = dn.length + (td.length + 1) := by rw [harg]; simp
  have hmem : y ∈ p.tasks := by rw [harg]; simp
  refine aw_norm (by simp only [amset, amlib, zset, max_cast, max_cast1, eq_self, ↓reduceIte, reduceCtorEq, Nat.reduceBEq, reduceEqDiff, reduceAdd, reduceMul, reduceLeDiff, reduceLT, reduceSub]; exact rfl) ?_
  have hget : (encTs (p.tasks)).getD dn.length [] = encT y := by rw [harg]; exact encTs_mid dn td y
  have hy := depT_mem hmem
  refine aw_ops zT fun K8 hK8 => ?_
  simp only [amset, amlib, zset, max_cast, max_cast1, eq_self, ↓reduceIte, reduceCtorEq, Nat.reduceBEq, reduceEqDiff, reduceAdd, reduceMul, reduceLeDiff, reduceLT, reduceSub]
  refine hK8 _ ?_
  clear hK8
  refine aw_seq fun K9 hK9 => ?_
  refine aw_cond (t := true) (by simp [evalO, S.get, amLook]; omega) (fun _ => ?_) (fun h => nomatch h)
  refine aw_skip ?_
  simp only [thenQ, blkQ, if_true, reduceIte, Nat.reduceEqDiff, eq_self]
  refine hK9 _ ?_
  clear hK9
  refine aw_seq fun K10 hK10 => ?_
  refine aw_block ?_
  refine aw_ops zT fun K11 hK11 => ?_
  simp only [amset, amlib, zset, hget, max_cast, max_cast1, eq_self, ↓reduceIte, reduceCtorEq, Nat.reduceBEq, reduceEqDiff, reduceAdd, reduceMul, reduceLeDiff, reduceLT, reduceSub]
  refine ⟨⟨by omega, by omega⟩, ?_⟩
  refine hK11 _ ?_
  clear hK11
  refine aw_region zT ?_
  simp only [amset, amlib, zset, max_cast, max_cast1, eq_self, ↓reduceIte, reduceCtorEq, Nat.reduceBEq, reduceEqDiff, reduceAdd, reduceMul, reduceLeDiff, reduceLT, reduceSub]
  refine ⟨_, holds139 y.body (by omega), ?_⟩
  simp only [later]
  simp only [amset, amlib, zset, max_cast, max_cast1, eq_self, ↓reduceIte, reduceCtorEq, Nat.reduceBEq, reduceEqDiff, reduceAdd, reduceMul, reduceLeDiff, reduceLT, reduceSub]
  refine hK10 _ ?_
  clear hK10
  refine aw_region zT ?_
  simp only [amset, amlib, zset, max_cast, max_cast1, eq_self, ↓reduceIte, reduceCtorEq, Nat.reduceBEq, reduceEqDiff, reduceAdd, reduceMul, reduceLeDiff, reduceLT, reduceSub]
  refine ⟨⟨by omega, by omega⟩, ?_⟩
  refine hR _ trivial ?_
  refine Reach.to ?_ ?_
  ·
   simp only [amset, amlib, zset, max_cast, max_cast1, eq_self, ↓reduceIte, reduceCtorEq, Nat.reduceBEq, reduceEqDiff, reduceAdd, reduceMul, reduceLeDiff, reduceLT, reduceSub] <;> simp [depT, depT_append, max_cast, max_nat, Nat.max_comm]
  ·
   simp only [amset, amlib, zset, max_cast, max_cast1, eq_self, ↓reduceIte, reduceCtorEq, Nat.reduceBEq, reduceEqDiff, reduceAdd, reduceMul, reduceLeDiff, reduceLT, reduceSub] <;> simp [depT, depT_append, max_cast, max_nat, Nat.max_comm]
end Go.Proofs.Am
set_option maxRecDepth 100000
set_option maxHeartbeats 4000000
namespace Go.Proofs.Am
open Nat (reduceEqDiff reduceAdd reduceMul reduceLeDiff reduceLT reduceSub)
def smallP (p : Pg) : Bool := decide ((p.consts.length : Int) ≤ 20) && decide ((p.globals.length : Int) ≤ 20) && decide ((p.sensors.length : Int) ≤ 20) && decide ((p.outputs.length : Int) ≤ 20) && decide ((p.channels.length : Int) ≤ 20) && decide ((p.tasks.length : Int) ≤ 6) && decide ((szT p.tasks : Int) ≤ 300) && decide ((depT p.tasks : Int) ≤ 30)
theorem prog18 : Tryz.prog.funcs[18]? = some Tryz.f18 := by kernel_rfl
theorem holds18 (p : Pg) (hb : szT p.tasks ≤ 1000000000000) (hd : depT p.tasks ≤ 1000000000000) : Holds Tryz.prog zG 18 [.agg [.sl 3 (encCs p.consts), .sl 4 (encGs p.globals), .sl 1 (encStrs p.sensors), .sl 1 (encStrs p.outputs), .sl 3 (encHs p.channels), .sl 8 (encTs p.tasks)]] [.c (.bool (smallP p))] := by
 refine holds_of_body zT prog18 rfl rfl rfl (by simp [Tryz.f18]) ?_
 refine aw_ops zT fun K1 hK1 => ?_
 refine sg ?_
 refine hK1 _ ?_
 clear hK1
 cases g0 : decide ((p.consts.length : Int) ≤ 20) with
 | true =>
  cases g1 : decide ((p.globals.length : Int) ≤ 20) with
  | true =>
   cases g2 : decide ((p.sensors.length : Int) ≤ 20) with
   | true =>
    cases g3 : decide ((p.outputs.length : Int) ≤ 20) with
    | true =>
     cases g4 : decide ((p.channels.length : Int) ≤ 20) with
     | true =>
      cases g5 : decide ((p.tasks.length : Int) ≤ 6) with
      | true =>
       cases g6 : decide ((szT p.tasks : Int) ≤ 300) with
       | true =>
        cases g7 : decide ((depT p.tasks : Int) ≤ 30) with
        | true =>
         refine aw_ops zT fun K2 hK2 => ?_
         simp only [amset, amlib, zset, g0, g1, g2, g3, g4, g5, g6, g7, eq_self, ↓reduceIte, reduceCtorEq, Nat.reduceBEq, reduceEqDiff, reduceAdd, reduceMul, reduceLeDiff, reduceLT, reduceSub]
         intros
         intros
         intros
         intros
         intros
         intros
         refine ⟨_, holds61 p hb, ?_⟩
         simp only [later]
         simp only [amset, amlib, zset, g0, g1, g2, g3, g4, g5, g6, g7, eq_self, ↓reduceIte, reduceCtorEq, Nat.reduceBEq, reduceEqDiff, reduceAdd, reduceMul, reduceLeDiff, reduceLT, reduceSub]
         refine ⟨_, holds62 p hd, ?_⟩
         simp only [later]
         simp only [amset, amlib, zset, g0, g1, g2, g3, g4, g5, g6, g7, eq_self, ↓reduceIte, reduceCtorEq, Nat.reduceBEq, reduceEqDiff, reduceAdd, reduceMul, reduceLeDiff, reduceLT, reduceSub]
         refine hK2 _ ?_
         clear hK2
         refine aw_ret ?_
         show resOf zG _ [.tmp 2] = some _
         simp only [amset, amlib, zset, eq_self, ↓reduceIte, reduceCtorEq, Nat.reduceBEq, reduceEqDiff, reduceAdd, reduceMul, reduceLeDiff, reduceLT, reduceSub]
         simp only [smallP, g0, g1, g2, g3, g4, g5, g6, g7, Bool.and_true, Bool.true_and, Bool.and_false, Bool.false_and]
        | false =>
         refine aw_ops zT fun K2 hK2 => ?_
         simp only [amset, amlib, zset, g0, g1, g2, g3, g4, g5, g6, g7, eq_self, ↓reduceIte, reduceCtorEq, Nat.reduceBEq, reduceEqDiff, reduceAdd, reduceMul, reduceLeDiff, reduceLT, reduceSub]
         intros
         intros
         intros
         intros
         intros
         intros
         refine ⟨_, holds61 p hb, ?_⟩
         simp only [later]
         simp only [amset, amlib, zset, g0, g1, g2, g3, g4, g5, g6, g7, eq_self, ↓reduceIte, reduceCtorEq, Nat.reduceBEq, reduceEqDiff, reduceAdd, reduceMul, reduceLeDiff, reduceLT, reduceSub]
         refine ⟨_, holds62 p hd, ?_⟩
         simp only [later]
         simp only [amset, amlib, zset, g0, g1, g2, g3, g4, g5, g6, g7, eq_self, ↓reduceIte, reduceCtorEq, Nat.reduceBEq, reduceEqDiff, reduceAdd, reduceMul, reduceLeDiff, reduceLT, reduceSub]
         refine hK2 _ ?_
         clear hK2
         refine aw_ret ?_
         show resOf zG _ [.tmp 2] = some _
         simp only [amset, amlib, zset, eq_self, ↓reduceIte, reduceCtorEq, Nat.reduceBEq, reduceEqDiff, reduceAdd, reduceMul, reduceLeDiff, reduceLT, reduceSub]
         simp only [smallP, g0, g1, g2, g3, g4, g5, g6, g7, Bool.and_true, Bool.true_and, Bool.and_false, Bool.false_and]
       | false =>
        refine aw_ops zT fun K2 hK2 => ?_
        simp only [amset, amlib, zset, g0, g1, g2, g3, g4, g5, g6, eq_self, ↓reduceIte, reduceCtorEq, Nat.reduceBEq, reduceEqDiff, reduceAdd, reduceMul, reduceLeDiff, reduceLT, reduceSub]
        intros
        intros
        intros
        intros
        intros
        intros
        refine ⟨_, holds61 p hb, ?_⟩
        simp only [later]
        simp only [amset, amlib, zset, g0, g1, g2, g3, g4, g5, g6, eq_self, ↓reduceIte, reduceCtorEq, Nat.reduceBEq, reduceEqDiff, reduceAdd, reduceMul, reduceLeDiff, reduceLT, reduceSub]
        refine hK2 _ ?_
        clear hK2
        refine aw_ret ?_
        show resOf zG _ [.tmp 2] = some _
        simp only [amset, amlib, zset, eq_self, ↓reduceIte, reduceCtorEq, Nat.reduceBEq, reduceEqDiff, reduceAdd, reduceMul, reduceLeDiff, reduceLT, reduceSub]
        simp only [smallP, g0, g1, g2, g3, g4, g5, g6, Bool.and_true, Bool.true_and, Bool.and_false, Bool.false_and]
      | false =>
       refine aw_ops zT fun K2 hK2 => ?_
       simp only [amset, amlib, zset, g0, g1, g2, g3, g4, g5, eq_self, ↓reduceIte, reduceCtorEq, Nat.reduceBEq, reduceEqDiff, reduceAdd, reduceMul, reduceLeDiff, reduceLT, reduceSub]
       intros
       intros
       intros
       intros
       intros
       intros
       refine hK2 _ ?_
       clear hK2
       refine aw_ret ?_
       show resOf zG _ [.tmp 2] = some _
       simp only [amset, amlib, zset, eq_self, ↓reduceIte, reduceCtorEq, Nat.reduceBEq, reduceEqDiff, reduceAdd, reduceMul, reduceLeDiff, reduceLT, reduceSub]
       simp only [smallP, g0, g1, g2, g3, g4, g5, Bool.and_true, Bool.true_and, Bool.and_false, Bool.false_and]
     | false =>
      refine aw_ops zT fun K2 hK2 => ?_
      simp only [amset, amlib, zset, g0, g1, g2, g3, g4, eq_self, ↓reduceIte, reduceCtorEq, Nat.reduceBEq, reduceEqDiff, reduceAdd, reduceMul, reduceLeDiff, reduceLT, reduceSub]
      intros
      intros
      intros
      intros
      intros
      intros
      refine hK2 _ ?_
      clear hK2
      refine aw_ret ?_
      show resOf zG _ [.tmp 2] = some _
      simp only [amset, amlib, zset, eq_self, ↓reduceIte, reduceCtorEq, Nat.reduceBEq, reduceEqDiff, reduceAdd, reduceMul, reduceLeDiff, reduceLT, reduceSub]
      simp only [smallP, g0, g1, g2, g3, g4, Bool.and_true, Bool.true_and, Bool.and_false, Bool.false_and]
    | false =>
     refine aw_ops zT fun K2 hK2 => ?_
     simp only [amset, amlib, zset, g0, g1, g2, g3, eq_self, ↓reduceIte, reduceCtorEq, Nat.reduceBEq, reduceEqDiff, reduceAdd, reduceMul, reduceLeDiff, reduceLT, reduceSub]
     intros
     intros
     intros
     intros
     intros
     intros
     refine hK2 _ ?_
     clear hK2
     refine aw_ret ?_
     show resOf zG _ [.tmp 2] = some _
     simp only [amset, amlib, zset, eq_self, ↓reduceIte, reduceCtorEq, Nat.reduceBEq, reduceEqDiff, reduceAdd, reduceMul, reduceLeDiff, reduceLT, reduceSub]
     simp only [smallP, g0, g1, g2, g3, Bool.and_true, Bool.true_and, Bool.and_false, Bool.false_and]
   | false =>
    refine aw_ops zT fun K2 hK2 => ?_
    simp only [amset, amlib, zset, g0, g1, g2, eq_self, ↓reduceIte, reduceCtorEq, Nat.reduceBEq, reduceEqDiff, reduceAdd, reduceMul, reduceLeDiff, reduceLT, reduceSub]
    intros
    intros
    intros
    intros
    intros
    intros
    refine hK2 _ ?_
    clear hK2
    refine aw_ret ?_
    show resOf zG _ [.tmp 2] = some _
    simp only [amset, amlib, zset, eq_self, ↓reduceIte, reduceCtorEq, Nat.reduceBEq, reduceEqDiff, reduceAdd, reduceMul, reduceLeDiff, reduceLT, reduceSub]
    simp only [smallP, g0, g1, g2, Bool.and_true, Bool.true_and, Bool.and_false, Bool.false_and]
  | false =>
   refine aw_ops zT fun K2 hK2 => ?_
   simp only [amset, amlib, zset, g0, g1, eq_self, ↓reduceIte, reduceCtorEq, Nat.reduceBEq, reduceEqDiff, reduceAdd, reduceMul, reduceLeDiff, reduceLT, reduceSub]
   intros
   intros
   intros
   intros
   intros
   intros
   refine hK2 _ ?_
   clear hK2
   refine aw_ret ?_
   show resOf zG _ [.tmp 2] = some _
   simp only [amset, amlib, zset, eq_self, ↓reduceIte, reduceCtorEq, Nat.reduceBEq, reduceEqDiff, reduceAdd, reduceMul, reduceLeDiff, reduceLT, reduceSub]
   simp only [smallP, g0, g1, Bool.and_true, Bool.true_and, Bool.and_false, Bool.false_and]
 | false =>
  refine aw_ops zT fun K2 hK2 => ?_
  simp only [amset, amlib, zset, g0, eq_self, ↓reduceIte, reduceCtorEq, Nat.reduceBEq, reduceEqDiff, reduceAdd, reduceMul, reduceLeDiff, reduceLT, reduceSub]
  intros
  intros
  intros
  intros
  intros
  intros
  refine hK2 _ ?_
  clear hK2
  refine aw_ret ?_
  show resOf zG _ [.tmp 2] = some _
  simp only [amset, amlib, zset, eq_self, ↓reduceIte, reduceCtorEq, Nat.reduceBEq, reduceEqDiff, reduceAdd, reduceMul, reduceLeDiff, reduceLT, reduceSub]
  simp only [smallP, g0, Bool.and_true, Bool.true_and, Bool.and_false, Bool.false_and]
end Go.Proofs.Am
namespace Go.Proofs.Am
open Go.RowKit
/-! From the row's own reading of an argument to the machine's. -/
abbrev anyB : Nat → Prop := fun _ => True
theorem mapM_some {α β : Type} {f : α → Option β} : ∀ {l : List α} {r : List β}, l.mapM f = some r → r.length = l.length ∧ ∀ (i : Nat) a, l[i]? = some a → ∃ b, r[i]? = some b ∧ f a = some b := by
  intro l
  induction l with
  | nil => intro r h; simp at h; subst h; exact ⟨rfl, by simp⟩
  | cons a l ih =>
    intro r h
    simp only [List.mapM_cons, Option.bind_eq_bind, Option.bind_eq_some_iff, Option.pure_def, Option.some.injEq] at h
    obtain ⟨b, hb, r', hr, rfl⟩ := h
    obtain ⟨h1, h2⟩ := ih hr
    refine ⟨by simp [h1], fun i x hx => ?_⟩
    cases i with
    | zero => simp at hx; subst hx; exact ⟨b, rfl, hb⟩
    | succ i => simp at hx; simpa using h2 i x hx
inductive All2 {α β : Type} (R : α → β → Prop) : List α → List β → Prop
  | nil : All2 R [] []
  | cons {a : α} {b : β} {l : List α} {m : List β} (h : R a b) (r : All2 R l m) : All2 R (a :: l) (b :: m)
theorem All2.length_eq {α β : Type} {R : α → β → Prop} {l : List α} {m : List β} (h : All2 R l m) : l.length = m.length := by
  induction h with
  | nil => rfl
  | cons _ _ ih => simp [ih]
section
variable {H : Type} {enc : TypeId × Value → H} {P : Program} {W : World} {base : Nat} {spare : Nat → Bool} {held : Bool}
theorem trod_int {t : TypeId} {k : IntKind} {f : Nat} {v : Value} {d : DataW H} {p : List MemPlace} (ht : P.underlying t = some (.int k)) (h : DataW.trod enc P W base spare held f t [v] = some (d, p)) : ∃ n, v = .int k n ∧ d = .lit (.int k n) ∧ (Lit.int k n).wf = true := by
  cases f with
  | zero => simp [DataW.trod] at h
  | succ f =>
    cases v <;> simp [DataW.trod, ht] at h
    obtain ⟨⟨rfl, h1⟩, rfl, rfl⟩ := h
    exact ⟨_, rfl, rfl, h1⟩
theorem trod_str {t : TypeId} {f : Nat} {v : Value} {d : DataW H} {p : List MemPlace} (ht : P.underlying t = some .string) (h : DataW.trod enc P W base spare held f t [v] = some (d, p)) : ∃ s : List UInt8, v = .string ⟨s.toArray⟩ ∧ d = .lit (.string s) ∧ s.length ≤ maxLen := by
  cases f with
  | zero => simp [DataW.trod] at h
  | succ f =>
    cases v <;> simp [DataW.trod, ht] at h
    rename_i s
    obtain ⟨h1, rfl, rfl⟩ := h
    refine ⟨s.data.toList, by simp, by simp, ?_⟩
    rw [Array.length_toList]
    exact h1
theorem trod_struct {t : TypeId} {fs : Array Field} {f : Nat} {cs : List Value} {d : DataW H} {p : List MemPlace} (ht : P.underlying t = some (.struct fs)) (h : DataW.trod enc P W base spare held f t cs = some (d, p)) :
    ∃ f' xs, f = f' + 1 ∧ cs.length = P.cellsOf t ∧ (fs.toList.map (fun x => (x.offset, x.type))).mapM (fun x => DataW.trod enc P W base spare held f' x.2 ((cs.drop x.1).take (P.cellsOf x.2))) = some xs ∧ d = .agg (xs.map (·.1)) := by
  cases f with
  | zero => simp [DataW.trod] at h
  | succ f =>
    have h2 : (if cs.length = P.cellsOf t then (fs.toList.mapM fun x => DataW.trod enc P W base spare held f x.type ((cs.drop x.offset).take (P.cellsOf x.type))).map fun xs => (DataW.agg (xs.map (·.1)), xs.flatMap (·.2)) else none) = some (d, p) := by
      rw [← h]
      rcases cs with _ | ⟨c, _ | ⟨c', r⟩⟩ <;> simp [DataW.trod, ht]
    split at h2
    · rename_i hl
      rw [Option.map_eq_some_iff] at h2
      obtain ⟨xs, h3, h4⟩ := h2
      injection h4 with h4 h5
      refine ⟨f, xs, rfl, hl, ?_, h4.symm⟩
      rw [List.mapM_map]
      exact h3
    · cases h2
/-- A slice of things that read as an α each. -/
theorem trod_rows {α : Type} {t e : TypeId} {sz f : Nat} {v : Value} {d : DataW H} {p : List MemPlace} (en : α → List C) (R : α → DataW H → Prop) (ht : P.underlying t = some (.slice e)) (hsz : P.cellsOf e = sz) (hpos : 0 < sz) (hlen : ∀ x, (en x).length = sz)
    (h : DataW.trod enc P W base spare held f t [v] = some (d, p)) (ih : ∀ f', f = f' + 1 → ∀ cs d p, DataW.trod enc P W base spare held f' e cs = some (d, p) → ∃ x, RepL W anyB (en x) cs ∧ R x d) :
    ∃ xs ds, RepC W anyB (.sl sz (xs.map en)) v ∧ All2 R xs ds ∧ ((d = .nil ∧ ds = []) ∨ ∃ rest, d = .slice ds rest) := by
  cases f with
  | zero => simp [DataW.trod] at h
  | succ f =>
    have ih := ih f rfl
    cases v <;> try (simp [DataW.trod, ht] at h; done)
    rename_i A len cap
    cases A with
    | none =>
      have : len = 0 ∧ cap = 0 ∧ d = .nil := by
        simp only [DataW.trod, ht] at h
        split at h <;> simp_all
      obtain ⟨rfl, rfl, rfl⟩ := this
      exact ⟨[], [], ⟨none, 0, 0, rfl, rfl, by simp [maxLen], .inl rfl⟩, .nil, .inl ⟨rfl, rfl⟩⟩
    | some a =>
      simp only [DataW.trod, ht] at h
      split at h
      · rename_i hc
        obtain ⟨hb, hlc, hcm⟩ := hc
        rw [Option.bind_eq_some_iff] at h
        obtain ⟨elems, he, h⟩ := h
        rw [Option.map_eq_some_iff] at h
        obtain ⟨rest, hr, h⟩ := h
        injection h with h1 h2
        obtain ⟨hel, hget⟩ := mapM_some he
        rw [List.length_range] at hel
        have hget' : ∀ i (hi : i < elems.length), ∃ cs, cs.length = sz ∧ (∀ j u, cs[j]? = some u → W.cell? (a.add ((0 + i) * sz + j)) = some u) ∧ DataW.trod enc P W base spare held f e cs = some elems[i] := by
          intro i hi
          obtain ⟨b, hb1, hb2⟩ := hget i i (by rw [List.getElem?_range (by omega)])
          rw [List.getElem?_eq_getElem hi] at hb1
          injection hb1 with hb1
          rw [Option.bind_eq_some_iff] at hb2
          obtain ⟨cs, hcs, ht2⟩ := hb2
          rw [hsz] at hcs
          unfold World.cells? at hcs
          rw [if_pos (by rw [ablock]; exact hb)] at hcs
          obtain ⟨hl2, hg2⟩ := mapM_some hcs
          rw [List.length_range] at hl2
          refine ⟨cs, hl2, fun j u hu => ?_, by rw [ht2, hb1]⟩
          have hj : j < sz := by rw [← hl2]; exact (List.getElem?_eq_some_iff.1 hu).1
          obtain ⟨u', hu1, hu2⟩ := hg2 j j (by rw [List.getElem?_range hj])
          rw [hu] at hu1
          injection hu1 with hu1
          rw [hu1, ← hu2, aadd, Nat.zero_add]
        have go : ∀ (l : List (DataW H × List MemPlace)) (o : Nat), (∀ i (hi : i < l.length), ∃ cs, cs.length = sz ∧ (∀ j u, cs[j]? = some u → W.cell? (a.add ((o + i) * sz + j)) = some u) ∧ DataW.trod enc P W base spare held f e cs = some l[i]) →
            ∃ xs, RepRows W anyB sz a (o * sz) (xs.map en) ∧ All2 R xs (l.map (·.1)) := by
          intro l
          induction l with
          | nil => intro o _; exact ⟨[], trivial, .nil⟩
          | cons y l ihl =>
            intro o hy
            obtain ⟨cs, c1, c2, c3⟩ := hy 0 (by simp)
            obtain ⟨x, x1, x2⟩ := ih cs y.1 y.2 c3
            obtain ⟨xs, h3, h4⟩ := ihl (o + 1) (fun i hi => by
              obtain ⟨cs, c1, c2, c3⟩ := hy (i + 1) (by simp; omega)
              exact ⟨cs, c1, by rw [show o + 1 + i = o + (i + 1) by omega]; exact c2, c3⟩)
            refine ⟨x :: xs, ⟨hlen x, RepCells.of x1 (fun j u hu => c2 j u hu), ?_⟩, .cons x2 h4⟩
            rw [Nat.succ_mul] at h3
            exact h3
        obtain ⟨xs, h3, h4⟩ := go elems 0 hget'
        rw [Nat.zero_mul] at h3
        refine ⟨xs, elems.map (·.1), ⟨some a, len, cap, rfl, ?_, ⟨hlc, hcm⟩, ?_⟩, h4, .inr ⟨_, h1.symm⟩⟩
        · have := h4.length_eq
          simp at this ⊢
          omega
        · cases helem : elems with
          | nil => subst helem; cases h4; exact .inl rfl
          | cons y l =>
            refine .inr ⟨a, rfl, trivial, ?_, h3⟩
            obtain ⟨cs, c1, c2, _⟩ := hget' 0 (by rw [helem]; simp)
            have hc0 : 0 < cs.length := by omega
            have := c2 0 cs[0] (List.getElem?_eq_getElem hc0)
            have := lt_of_cell this
            rwa [ablock] at this
      · cases h
end
end Go.Proofs.Am
set_option maxRecDepth 100000
set_option maxHeartbeats 4000000
namespace Go.Proofs.Am
open Go.Proofs.YtfflfbhnedkppaaGreatDoor.Rows (uptoBulk uptoBulkAll uptoSmall)
theorem wf_i16 {n : Int} (h : (Lit.int .i16 n).wf = true) : i16r n := by
  simp only [Lit.wf, IntKind.min, IntKind.max, IntKind.signed, IntKind.bits, Bool.and_eq_true, decide_eq_true_eq, if_true] at h
  unfold i16r
  omega
section
variable {H : Type} {enc : TypeId × Value → H} {W : World} {base : Nat} {spare : Nat → Bool} {held : Bool}
def Flds (enc : TypeId × Value → H) (W : World) (base : Nat) (spare : Nat → Bool) (held : Bool) (f : Nat) : List TypeId → List Value → List (DataW H) → Prop
  | [], [], [] => True
  | t :: ts, v :: vs, d :: ds => (∃ p, DataW.trod enc Tryz.prog W base spare held f t [v] = some (d, p)) ∧ Flds enc W base spare held f ts vs ds
  | _, _, _ => False
theorem Flds.cons {f : Nat} {t : TypeId} {ts : List TypeId} {cs : List Value} {ds : List (DataW H)} (h : Flds enc W base spare held f (t :: ts) cs ds) :
    ∃ v vs d ds' p, cs = v :: vs ∧ ds = d :: ds' ∧ DataW.trod enc Tryz.prog W base spare held f t [v] = some (d, p) ∧ Flds enc W base spare held f ts vs ds' := by
  cases cs with
  | nil => cases ds <;> exact h.elim
  | cons v vs => cases ds with
    | nil => exact h.elim
    | cons d ds => obtain ⟨⟨p, hp⟩, hr⟩ := h; exact ⟨v, vs, d, ds, p, rfl, rfl, hp, hr⟩
theorem Flds.nil {f : Nat} {cs : List Value} {ds : List (DataW H)} (h : Flds enc W base spare held f [] cs ds) : cs = [] ∧ ds = [] := by
  cases cs <;> cases ds <;> first | exact ⟨rfl, rfl⟩ | exact h.elim
theorem flds_of {f : Nat} : ∀ (tys : List TypeId) (k : Nat) (cs : List Value) (xs : List (DataW H × List MemPlace)), (∀ t ∈ tys, Tryz.prog.cellsOf t = 1) → cs.length = k + tys.length →
    ((tys.zipIdx k).map fun p => (p.2, p.1)).mapM (fun x => DataW.trod enc Tryz.prog W base spare held f x.2 ((cs.drop x.1).take (Tryz.prog.cellsOf x.2))) = some xs → Flds enc W base spare held f tys (cs.drop k) (xs.map (·.1)) := by
  intro tys
  induction tys with
  | nil =>
    intro k cs xs _ hl h
    simp at h
    subst h
    rw [List.drop_of_length_le (by simpa using Nat.le_of_eq hl)]
    trivial
  | cons t ts ih =>
    intro k cs xs ht hl h
    simp only [List.zipIdx_cons, List.map_cons, List.mapM_cons, Option.bind_eq_bind, Option.bind_eq_some_iff, Option.pure_def, Option.some.injEq] at h
    obtain ⟨b, hb, r, hr, rfl⟩ := h
    have hk : k < cs.length := by simp at hl; omega
    rw [List.drop_eq_getElem_cons hk]
    have h1 := ih (k + 1) cs r (fun u hu => ht u (by simp [hu])) (by simp at hl; omega) hr
    rw [ht t (by simp), List.drop_eq_getElem_cons hk] at hb
    exact ⟨⟨b.2, hb⟩, h1⟩
theorem open_agg {t : TypeId} {fs : Array Field} {tys : List TypeId} {f : Nat} {cs : List Value} {d : DataW H} {p : List MemPlace} (ht : Tryz.prog.underlying t = some (.struct fs)) (hf : fs.toList.map (fun x => (x.offset, x.type)) = (tys.zipIdx 0).map fun p => (p.2, p.1))
    (hc : Tryz.prog.cellsOf t = tys.length) (ho : tys.all (fun u => Tryz.prog.cellsOf u == 1) = true) (h : DataW.trod enc Tryz.prog W base spare held f t cs = some (d, p)) : ∃ f' ds, f = f' + 1 ∧ d = .agg ds ∧ Flds enc W base spare held f' tys cs ds := by
  obtain ⟨f', xs, h1, h2, h3, h4⟩ := trod_struct ht h
  rw [hf] at h3
  exact ⟨f', _, h1, h4, flds_of tys 0 cs xs (fun u hu => by simpa using List.all_eq_true.1 ho u hu) (by rw [h2, hc]; simp) h3⟩
theorem cells32 : Tryz.prog.cellsOf 32 = 6 := by kernel_rfl
theorem cells56 : Tryz.prog.cellsOf 56 = 7 := by kernel_rfl
theorem cells65 : Tryz.prog.cellsOf 65 = 3 := by kernel_rfl
theorem cells67 : Tryz.prog.cellsOf 67 = 4 := by kernel_rfl
theorem cells69 : Tryz.prog.cellsOf 69 = 3 := by kernel_rfl
theorem cells41 : Tryz.prog.cellsOf 41 = 8 := by kernel_rfl
theorem cells28 : Tryz.prog.cellsOf 28 = 6 := by kernel_rfl
theorem cells9 : Tryz.prog.cellsOf 9 = 1 := by kernel_rfl
theorem wdL_all {ds : List (DataW H)} {xs : List Ex} (h : All2 (fun x d => wdE x ∧ (subE x).length ≤ uptoBulk d) xs ds) : wdL xs ∧ (subL xs).length ≤ uptoBulkAll ds := by
  induction h with
  | nil => exact ⟨by rw [wdL]; trivial, by simp [subL, uptoBulkAll]⟩
  | cons h _ ih => exact ⟨by rw [wdL]; exact ⟨h.1, ih.1⟩, by rw [subL, List.length_append, uptoBulkAll]; omega⟩
theorem bulk_sl {d : DataW H} {ds : List (DataW H)} (h : (d = .nil ∧ ds = []) ∨ ∃ rest, d = .slice ds rest) : uptoBulkAll ds + 1 ≤ uptoBulk d := by
  rcases h with ⟨rfl, rfl⟩ | ⟨rest, rfl⟩ <;> simp [uptoBulk, uptoBulkAll]
theorem br_E : ∀ (f : Nat) (cs : List Value) (d : DataW H) (p : List MemPlace), DataW.trod enc Tryz.prog W base spare held f 32 cs = some (d, p) → ∃ x : Ex, RepL W anyB (encE x) cs ∧ (wdE x ∧ (subE x).length ≤ uptoBulk d) := by
  intro f
  induction f using Nat.strongRecOn with
  | ind f ih =>
    intro cs d p h
    obtain ⟨f', ds, rfl, rfl, hF⟩ := open_agg (tys := [3, 9, 29, 3, 30, 3]) Tryz.underlying32 rfl cells32 (by kernel_rfl) h
    obtain ⟨v0, _, d0, _, p0, rfl, rfl, h0, hF⟩ := hF.cons
    obtain ⟨v1, _, d1, _, p1, rfl, rfl, h1, hF⟩ := hF.cons
    obtain ⟨v2, _, d2, _, p2, rfl, rfl, h2, hF⟩ := hF.cons
    obtain ⟨v3, _, d3, _, p3, rfl, rfl, h3, hF⟩ := hF.cons
    obtain ⟨v4, _, d4, _, p4, rfl, rfl, h4, hF⟩ := hF.cons
    obtain ⟨v5, _, d5, _, p5, rfl, rfl, h5, hF⟩ := hF.cons
    obtain ⟨rfl, rfl⟩ := hF.nil
    obtain ⟨k, rfl, rfl, _⟩ := trod_int Tryz.underlying3 h0
    obtain ⟨n, rfl, rfl, hn⟩ := trod_str Tryz.underlying9 h1
    obtain ⟨v, rfl, rfl, hv⟩ := trod_int Tryz.underlying29 h2
    obtain ⟨o, rfl, rfl, _⟩ := trod_int Tryz.underlying3 h3
    obtain ⟨q, rfl, rfl, _⟩ := trod_int Tryz.underlying3 h5
    obtain ⟨xs, es, hx, hA, hd⟩ := trod_rows encE (fun x d => wdE x ∧ (subE x).length ≤ uptoBulk d) Tryz.underlying30 cells32 (by omega) encE_len h4 (fun g hg => ih g (by omega))
    obtain ⟨hw, hs⟩ := wdL_all hA
    have hb := bulk_sl hd
    refine ⟨.mk k n v o xs q, .cons rfl (.cons ⟨rfl, hn⟩ (.cons rfl (.cons rfl (.cons ?_ (.cons rfl .nil))))), ?_, ?_⟩
    · rw [encEs_map]; exact hx
    · rw [wdE]; exact ⟨wf_i16 hv, hw⟩
    · rw [subE_len]
      simp only [Ex.args, uptoBulk, uptoBulkAll]
      omega
mutual
def cntS : St → Nat
  | .mk _ _ _ a b e _ => 1 + (subL a).length + cntM b + cntM e
def cntM : List St → Nat
  | [] => 0
  | x :: r => cntS x + cntM r
end
mutual
def wdS : St → Prop
  | .mk _ _ _ a b e _ => wdL a ∧ wdM b ∧ wdM e
def wdM : List St → Prop
  | [] => True
  | x :: r => wdS x ∧ wdM r
end
theorem wdM_all {ds : List (DataW H)} {xs : List St} (h : All2 (fun x d => wdS x ∧ cntS x ≤ uptoBulk d) xs ds) : wdM xs ∧ cntM xs ≤ uptoBulkAll ds := by
  induction h with
  | nil => exact ⟨by rw [wdM]; trivial, by simp [cntM, uptoBulkAll]⟩
  | cons h _ ih => exact ⟨by rw [wdM]; exact ⟨h.1, ih.1⟩, by rw [cntM, uptoBulkAll]; omega⟩
theorem br_S : ∀ (f : Nat) (cs : List Value) (d : DataW H) (p : List MemPlace), DataW.trod enc Tryz.prog W base spare held f 56 cs = some (d, p) → ∃ x : St, RepL W anyB (encS x) cs ∧ (wdS x ∧ cntS x ≤ uptoBulk d) := by
  intro f
  induction f using Nat.strongRecOn with
  | ind f ih =>
    intro cs d p h
    obtain ⟨f', ds, rfl, rfl, hF⟩ := open_agg (tys := [3, 9, 3, 30, 39, 39, 3]) Tryz.underlying56 rfl cells56 (by kernel_rfl) h
    obtain ⟨v0, _, d0, _, p0, rfl, rfl, h0, hF⟩ := hF.cons
    obtain ⟨v1, _, d1, _, p1, rfl, rfl, h1, hF⟩ := hF.cons
    obtain ⟨v2, _, d2, _, p2, rfl, rfl, h2, hF⟩ := hF.cons
    obtain ⟨v3, _, d3, _, p3, rfl, rfl, h3, hF⟩ := hF.cons
    obtain ⟨v4, _, d4, _, p4, rfl, rfl, h4, hF⟩ := hF.cons
    obtain ⟨v5, _, d5, _, p5, rfl, rfl, h5, hF⟩ := hF.cons
    obtain ⟨v6, _, d6, _, p6, rfl, rfl, h6, hF⟩ := hF.cons
    obtain ⟨rfl, rfl⟩ := hF.nil
    obtain ⟨k, rfl, rfl, _⟩ := trod_int Tryz.underlying3 h0
    obtain ⟨n, rfl, rfl, hn⟩ := trod_str Tryz.underlying9 h1
    obtain ⟨v, rfl, rfl, _⟩ := trod_int Tryz.underlying3 h2
    obtain ⟨q, rfl, rfl, _⟩ := trod_int Tryz.underlying3 h6
    obtain ⟨xs, es, hx, hA, hd⟩ := trod_rows encE (fun x d => wdE x ∧ (subE x).length ≤ uptoBulk d) Tryz.underlying30 cells32 (by omega) encE_len h3 (fun g _ => br_E g)
    obtain ⟨bs, fs, hx2, hA2, hd2⟩ := trod_rows encS (fun x d => wdS x ∧ cntS x ≤ uptoBulk d) Tryz.underlying39 cells56 (by omega) encS_len h4 (fun g hg => ih g (by omega))
    obtain ⟨cs, gs, hx3, hA3, hd3⟩ := trod_rows encS (fun x d => wdS x ∧ cntS x ≤ uptoBulk d) Tryz.underlying39 cells56 (by omega) encS_len h5 (fun g hg => ih g (by omega))
    obtain ⟨hw, hs⟩ := wdL_all hA
    obtain ⟨hw2, hs2⟩ := wdM_all hA2
    obtain ⟨hw3, hs3⟩ := wdM_all hA3
    have hb := bulk_sl hd
    have hb2 := bulk_sl hd2
    have hb3 := bulk_sl hd3
    refine ⟨.mk k n v xs bs cs q, .cons rfl (.cons ⟨rfl, hn⟩ (.cons rfl (.cons ?_ (.cons ?_ (.cons ?_ (.cons rfl .nil)))))), ?_, ?_⟩
    · rw [encEs_map]; exact hx
    · rw [encSs_map]; exact hx2
    · rw [encSs_map]; exact hx3
    · rw [wdS]; exact ⟨hw, hw2, hw3⟩
    · rw [cntS]
      simp only [uptoBulk, uptoBulkAll]
      omega
end
end Go.Proofs.Am
set_option maxRecDepth 100000
set_option maxHeartbeats 4000000
namespace Go.Proofs.Am
open Go.Proofs.YtfflfbhnedkppaaGreatDoor.Rows (uptoBulk uptoBulkAll uptoSmall)
section
variable {H : Type} {enc : TypeId × Value → H} {W : World} {base : Nat} {spare : Nat → Bool} {held : Bool}
theorem All2.mem {α β : Type} {R : α → β → Prop} {l : List α} {m : List β} (h : All2 R l m) : ∀ x ∈ l, ∃ y ∈ m, R x y := by
  induction h with
  | nil => intro x hx; cases hx
  | cons h _ ih =>
    intro x hx
    rcases List.mem_cons.1 hx with rfl | hx
    · exact ⟨_, List.mem_cons_self .., h⟩
    · obtain ⟨y, hy, hr⟩ := ih x hx; exact ⟨y, List.mem_cons_of_mem _ hy, hr⟩
theorem br_C (f : Nat) (cs : List Value) (d : DataW H) (p : List MemPlace) (h : DataW.trod enc Tryz.prog W base spare held f 65 cs = some (d, p)) : ∃ x : Cn, RepL W anyB (encC x) cs ∧ i16r x.value := by
  obtain ⟨f', ds, rfl, rfl, hF⟩ := open_agg (tys := [9, 29, 3]) Tryz.underlying65 rfl cells65 (by kernel_rfl) h
  obtain ⟨v0, _, d0, _, p0, rfl, rfl, h0, hF⟩ := hF.cons
  obtain ⟨v1, _, d1, _, p1, rfl, rfl, h1, hF⟩ := hF.cons
  obtain ⟨v2, _, d2, _, p2, rfl, rfl, h2, hF⟩ := hF.cons
  obtain ⟨rfl, rfl⟩ := hF.nil
  obtain ⟨n, rfl, rfl, hn⟩ := trod_str Tryz.underlying9 h0
  obtain ⟨v, rfl, rfl, hv⟩ := trod_int Tryz.underlying29 h1
  obtain ⟨q, rfl, rfl, _⟩ := trod_int Tryz.underlying3 h2
  exact ⟨⟨n, v, q⟩, .cons ⟨rfl, hn⟩ (.cons rfl (.cons rfl .nil)), wf_i16 hv⟩
theorem br_G (f : Nat) (cs : List Value) (d : DataW H) (p : List MemPlace) (h : DataW.trod enc Tryz.prog W base spare held f 67 cs = some (d, p)) : ∃ x : Gl, RepL W anyB (encG x) cs ∧ i16r x.init := by
  obtain ⟨f', ds, rfl, rfl, hF⟩ := open_agg (tys := [9, 3, 29, 3]) Tryz.underlying67 rfl cells67 (by kernel_rfl) h
  obtain ⟨v0, _, d0, _, p0, rfl, rfl, h0, hF⟩ := hF.cons
  obtain ⟨v1, _, d1, _, p1, rfl, rfl, h1, hF⟩ := hF.cons
  obtain ⟨v2, _, d2, _, p2, rfl, rfl, h2, hF⟩ := hF.cons
  obtain ⟨v3, _, d3, _, p3, rfl, rfl, h3, hF⟩ := hF.cons
  obtain ⟨rfl, rfl⟩ := hF.nil
  obtain ⟨n, rfl, rfl, hn⟩ := trod_str Tryz.underlying9 h0
  obtain ⟨l, rfl, rfl, _⟩ := trod_int Tryz.underlying3 h1
  obtain ⟨v, rfl, rfl, hv⟩ := trod_int Tryz.underlying29 h2
  obtain ⟨q, rfl, rfl, _⟩ := trod_int Tryz.underlying3 h3
  exact ⟨⟨n, l, v, q⟩, .cons ⟨rfl, hn⟩ (.cons rfl (.cons rfl (.cons rfl .nil))), wf_i16 hv⟩
theorem br_H (f : Nat) (cs : List Value) (d : DataW H) (p : List MemPlace) (h : DataW.trod enc Tryz.prog W base spare held f 69 cs = some (d, p)) : ∃ x : Ch, RepL W anyB (encH x) cs ∧ True := by
  obtain ⟨f', ds, rfl, rfl, hF⟩ := open_agg (tys := [9, 3, 3]) Tryz.underlying69 rfl cells69 (by kernel_rfl) h
  obtain ⟨v0, _, d0, _, p0, rfl, rfl, h0, hF⟩ := hF.cons
  obtain ⟨v1, _, d1, _, p1, rfl, rfl, h1, hF⟩ := hF.cons
  obtain ⟨v2, _, d2, _, p2, rfl, rfl, h2, hF⟩ := hF.cons
  obtain ⟨rfl, rfl⟩ := hF.nil
  obtain ⟨n, rfl, rfl, hn⟩ := trod_str Tryz.underlying9 h0
  obtain ⟨v, rfl, rfl, hv⟩ := trod_int Tryz.underlying3 h1
  obtain ⟨q, rfl, rfl, _⟩ := trod_int Tryz.underlying3 h2
  exact ⟨⟨n, v, q⟩, .cons ⟨rfl, hn⟩ (.cons rfl (.cons rfl .nil)), trivial⟩
theorem br_str (f : Nat) (cs : List Value) (d : DataW H) (p : List MemPlace) (h : DataW.trod enc Tryz.prog W base spare held f 9 cs = some (d, p)) : ∃ x : List UInt8, RepL W anyB (encStr x) cs ∧ True := by
  match cs, h with
  | [v], h => obtain ⟨n, rfl, rfl, hn⟩ := trod_str Tryz.underlying9 h; exact ⟨n, .cons ⟨rfl, hn⟩ .nil, trivial⟩
  | [], h => cases f <;> simp [DataW.trod, Tryz.underlying9] at h
  | _ :: _ :: _, h => cases f <;> simp [DataW.trod, Tryz.underlying9] at h
theorem br_T (f : Nat) (cs : List Value) (d : DataW H) (p : List MemPlace) (h : DataW.trod enc Tryz.prog W base spare held f 41 cs = some (d, p)) : ∃ x : Tk, RepL W anyB (encT x) cs ∧ (wdM x.body ∧ cntM x.body ≤ uptoBulk d) := by
  obtain ⟨f', ds, rfl, rfl, hF⟩ := open_agg (tys := [9, 3, 3, 9, 9, 3, 39, 3]) Tryz.underlying41 rfl cells41 (by kernel_rfl) h
  obtain ⟨v0, _, d0, _, p0, rfl, rfl, h0, hF⟩ := hF.cons
  obtain ⟨v1, _, d1, _, p1, rfl, rfl, h1, hF⟩ := hF.cons
  obtain ⟨v2, _, d2, _, p2, rfl, rfl, h2, hF⟩ := hF.cons
  obtain ⟨v3, _, d3, _, p3, rfl, rfl, h3, hF⟩ := hF.cons
  obtain ⟨v4, _, d4, _, p4, rfl, rfl, h4, hF⟩ := hF.cons
  obtain ⟨v5, _, d5, _, p5, rfl, rfl, h5, hF⟩ := hF.cons
  obtain ⟨v6, _, d6, _, p6, rfl, rfl, h6, hF⟩ := hF.cons
  obtain ⟨v7, _, d7, _, p7, rfl, rfl, h7, hF⟩ := hF.cons
  obtain ⟨rfl, rfl⟩ := hF.nil
  obtain ⟨n, rfl, rfl, hn⟩ := trod_str Tryz.underlying9 h0
  obtain ⟨a, rfl, rfl, _⟩ := trod_int Tryz.underlying3 h1
  obtain ⟨b, rfl, rfl, _⟩ := trod_int Tryz.underlying3 h2
  obtain ⟨c, rfl, rfl, hc⟩ := trod_str Tryz.underlying9 h3
  obtain ⟨e, rfl, rfl, he⟩ := trod_str Tryz.underlying9 h4
  obtain ⟨g, rfl, rfl, _⟩ := trod_int Tryz.underlying3 h5
  obtain ⟨q, rfl, rfl, _⟩ := trod_int Tryz.underlying3 h7
  obtain ⟨bs, fs, hx2, hA2, hd2⟩ := trod_rows encS (fun x d => wdS x ∧ cntS x ≤ uptoBulk d) Tryz.underlying39 cells56 (by omega) encS_len h6 (fun g _ => br_S g)
  obtain ⟨hw2, hs2⟩ := wdM_all hA2
  have hb2 := bulk_sl hd2
  refine ⟨⟨n, a, b, c, e, g, bs, q⟩, .cons ⟨rfl, hn⟩ (.cons rfl (.cons rfl (.cons ⟨rfl, hc⟩ (.cons ⟨rfl, he⟩ (.cons rfl (.cons ?_ (.cons rfl .nil))))))), hw2, ?_⟩
  · rw [encSs_map]; exact hx2
  · simp only [uptoBulk, uptoBulkAll]
    omega
def cntT : List Tk → Nat
  | [] => 0
  | t :: r => cntM t.body + cntT r
theorem cntT_all {ds : List (DataW H)} {xs : List Tk} (h : All2 (fun x d => wdM x.body ∧ cntM x.body ≤ uptoBulk d) xs ds) : (∀ t ∈ xs, wdM t.body) ∧ cntT xs ≤ uptoBulkAll ds := by
  induction h with
  | nil => exact ⟨by simp, by simp [cntT, uptoBulkAll]⟩
  | cons h _ ih => exact ⟨fun t ht => by rcases List.mem_cons.1 ht with rfl | ht; exact h.1; exact ih.1 t ht, by rw [cntT, uptoBulkAll]; omega⟩
theorem br_P (f : Nat) (cs : List Value) (d : DataW H) (p : List MemPlace) (h : DataW.trod enc Tryz.prog W base spare held f 28 cs = some (d, p)) : ∃ x : Pg, RepL W anyB (encP x) cs ∧ (∀ c ∈ x.consts, i16r c.value) ∧ (∀ g ∈ x.globals, i16r g.init) ∧ (∀ t ∈ x.tasks, wdM t.body) ∧ cntT x.tasks ≤ uptoBulk d := by
  obtain ⟨f', ds, rfl, rfl, hF⟩ := open_agg (tys := [22, 23, 24, 24, 25, 26]) Tryz.underlying28 rfl cells28 (by kernel_rfl) h
  obtain ⟨v0, _, d0, _, p0, rfl, rfl, h0, hF⟩ := hF.cons
  obtain ⟨v1, _, d1, _, p1, rfl, rfl, h1, hF⟩ := hF.cons
  obtain ⟨v2, _, d2, _, p2, rfl, rfl, h2, hF⟩ := hF.cons
  obtain ⟨v3, _, d3, _, p3, rfl, rfl, h3, hF⟩ := hF.cons
  obtain ⟨v4, _, d4, _, p4, rfl, rfl, h4, hF⟩ := hF.cons
  obtain ⟨v5, _, d5, _, p5, rfl, rfl, h5, hF⟩ := hF.cons
  obtain ⟨rfl, rfl⟩ := hF.nil
  obtain ⟨cn, _, hx0, hA0, hd0⟩ := trod_rows encC (fun (x : Cn) _ => i16r x.value) Tryz.underlying22 cells65 (by omega) encC_len h0 (fun g _ => br_C g)
  obtain ⟨gl, _, hx1, hA1, hd1⟩ := trod_rows encG (fun (x : Gl) _ => i16r x.init) Tryz.underlying23 cells67 (by omega) encG_len h1 (fun g _ => br_G g)
  obtain ⟨se, _, hx2, hA2, hd2⟩ := trod_rows encStr (fun _ _ => True) Tryz.underlying24 cells9 (by omega) encStr_len h2 (fun g _ => br_str g)
  obtain ⟨ou, _, hx3, hA3, hd3⟩ := trod_rows encStr (fun _ _ => True) Tryz.underlying24 cells9 (by omega) encStr_len h3 (fun g _ => br_str g)
  obtain ⟨ch, _, hx4, hA4, hd4⟩ := trod_rows encH (fun _ _ => True) Tryz.underlying25 cells69 (by omega) encH_len h4 (fun g _ => br_H g)
  obtain ⟨tk, ts, hx5, hA5, hd5⟩ := trod_rows encT (fun x d => wdM x.body ∧ cntM x.body ≤ uptoBulk d) Tryz.underlying26 cells41 (by omega) encT_len h5 (fun g _ => br_T g)
  obtain ⟨hw, hc⟩ := cntT_all hA5
  have hb := bulk_sl hd5
  refine ⟨⟨cn, gl, se, ou, ch, tk⟩, .cons hx0 (.cons hx1 (.cons hx2 (.cons hx3 (.cons hx4 (.cons hx5 .nil))))), fun c hc => ?_, fun c hc => ?_, hw, ?_⟩
  · obtain ⟨_, _, h⟩ := hA0.mem c hc; exact h
  · obtain ⟨_, _, h⟩ := hA1.mem c hc; exact h
  · simp only [uptoBulk, uptoBulkAll]
    omega
/-- The pure bounds. -/
theorem allL_append' (a b : List St) : (allL (a ++ b)).length = (allL a).length + (allL b).length := by rw [allL_append, List.length_append]
mutual
theorem cntS_eq : ∀ x : St, (stmS x).length + (allL (stmS x)).length = cntS x
  | .mk k n v a b e p => by
    have h1 := cntM_eq b
    have h2 := cntM_eq e
    rw [stmS, cntS, List.length_cons, allL, List.length_append, List.length_append, allL_append']
    simp only [St.args]
    omega
theorem cntM_eq : ∀ l : List St, (stmL l).length + (allL (stmL l)).length = cntM l
  | [] => rfl
  | x :: r => by
    have h1 := cntS_eq x
    have h2 := cntM_eq r
    rw [stmL, cntM, List.length_append, allL_append']
    omega
end
theorem szT_cnt (l : List Tk) : szT l = cntT l := by
  induction l with
  | nil => rfl
  | cons t r ih => rw [szT, cntT, ih, ← cntM_eq]; rfl
mutual
theorem depE_le : ∀ x : Ex, depE x ≤ (subE x).length
  | .mk k n v o a p => by have := depL_le a; rw [depE, subE, List.length_cons]; omega
theorem depL_le : ∀ l : List Ex, depL l ≤ (subL l).length
  | [] => by simp [depL]
  | x :: r => by have := depE_le x; have := depL_le r; rw [depL, subL, List.length_append]; omega
end
mutual
theorem depS_le : ∀ x : St, depS x ≤ cntS x
  | .mk k n v a b e p => by have := depL_le a; have := depM_le b; have := depM_le e; rw [depS, cntS]; omega
theorem depM_le : ∀ l : List St, depM l ≤ cntM l
  | [] => by simp [depM]
  | x :: r => by have := depS_le x; have := depM_le r; rw [depM, cntM]; omega
end
theorem depT_le (l : List Tk) : depT l ≤ cntT l := by
  induction l with
  | nil => simp [depT]
  | cons t r ih => have := depM_le t.body; rw [depT, cntT]; omega
/-- An argument of a struct's type. -/
theorem agg_of {t : TypeId} {fs : Array Field} (ht : Tryz.prog.underlying t = some (.struct fs)) {r : Go.Reach} {b : Nat} {v : Value} (h : Value.okWide Tryz.prog W r b t v) : ∃ cs : Array Value, v = .agg cs := by
  unfold Value.okWide at h
  rw [ht] at h
  obtain ⟨cs, h1, _⟩ := h
  exact ⟨cs, h1⟩
theorem arg_P {v : Value} {d : DataW H} {ps : List MemPlace} {r : Go.Reach} {b : Nat} (hv : Value.okWide Tryz.prog W r b 28 v) (h : DataW.Trod enc Tryz.prog W base spare held 28 v d ps) :
    ∃ p : Pg, RepA W anyB (.agg (encP p)) v ∧ (∀ c ∈ p.consts, i16r c.value) ∧ (∀ g ∈ p.globals, i16r g.init) ∧ (∀ t ∈ p.tasks, wdM t.body) ∧ cntT p.tasks ≤ uptoBulk d := by
  obtain ⟨cs, rfl⟩ := agg_of Tryz.underlying28 hv
  obtain ⟨f, hf⟩ := h
  obtain ⟨x, hx, h2⟩ := br_P f _ d ps hf
  exact ⟨x, ⟨cs.toList, by simp, hx⟩, h2⟩
end
end Go.Proofs.Am
set_option maxRecDepth 100000
set_option maxHeartbeats 4000000
namespace Go.Proofs
def Tryz.laysM171_ren : Go.Shelf.Ren := ⟨fun | 171 => 86 | 243 => 159 | 246 => 199 | 283 => 226 | 284 => 227 | 285 => 228 | 286 => 229 | 129 => 240 | 317 => 239 | 318 => 241 | 319 => 242 | 320 => 243 | 337 => 246 | 338 => 247 | n => n, fun | 3 => 3 | 9 => 9 | 2 => 2 | 4 => 4 | 171 => 245 | 0 => 0 | 53 => 246 | 37 => 115 | 5 => 5 | 173 => 249 | 212 => 262 | 51 => 263 | 20 => 20 | 213 => 264 | 46 => 265 | 232 => 284 | 233 => 285 | n => n, fun | 17 => 4 | 18 => 6 | 19 => 7 | n => n⟩
theorem Tryz.laysM171 : Go.Proofs.LaysM.n171 Tryz.prog Tryz.laysM171_ren := {
 mixed := by kernel_rfl
 f129 := Tryz.func240.trans (congrArg some (by kernel_rfl))
 f171 := Tryz.func86.trans (congrArg some (by kernel_rfl))
 f243 := Tryz.func159.trans (congrArg some (by kernel_rfl))
 f246 := Tryz.func199.trans (congrArg some (by kernel_rfl))
 f283 := Tryz.func226.trans (congrArg some (by kernel_rfl))
 f284 := Tryz.func227.trans (congrArg some (by kernel_rfl))
 f285 := Tryz.func228.trans (congrArg some (by kernel_rfl))
 f286 := Tryz.func229.trans (congrArg some (by kernel_rfl))
 f317 := Tryz.func239.trans (congrArg some (by kernel_rfl))
 f318 := Tryz.func241.trans (congrArg some (by kernel_rfl))
 f319 := Tryz.func242.trans (congrArg some (by kernel_rfl))
 f320 := Tryz.func243.trans (congrArg some (by kernel_rfl))
 f337 := Tryz.func246.trans (congrArg some (by kernel_rfl))
 f338 := Tryz.func247.trans (congrArg some (by kernel_rfl))
 t0 := Tryz.underlying0
 a0 := Tryz.isAgg0
 z0 := Tryz.sizeOf0
 v0 := Tryz.zeroValue0
 t2 := Tryz.underlying2
 a2 := Tryz.isAgg2
 z2 := Tryz.sizeOf2
 v2 := Tryz.zeroValue2
 t3 := Tryz.underlying3
 a3 := Tryz.isAgg3
 z3 := Tryz.sizeOf3
 v3 := Tryz.zeroValue3
 t4 := Tryz.underlying4
 a4 := Tryz.isAgg4
 z4 := Tryz.sizeOf4
 v4 := Tryz.zeroValue4
 t5 := Tryz.underlying5
 a5 := Tryz.isAgg5
 z5 := Tryz.sizeOf5
 v5 := Tryz.zeroValue5
 t9 := Tryz.underlying9
 a9 := Tryz.isAgg9
 z9 := Tryz.sizeOf9
 v9 := Tryz.zeroValue9
 t20 := Tryz.underlying20
 a20 := Tryz.isAgg20
 z20 := Tryz.sizeOf20
 v20 := Tryz.zeroValue20
 t37 := Tryz.underlying115
 a37 := Tryz.isAgg115
 z37 := Tryz.sizeOf115
 v37 := Tryz.zeroValue115
 t46 := Tryz.underlying265
 a46 := Tryz.isAgg265
 z46 := Tryz.sizeOf265
 v46 := Tryz.zeroValue265
 t51 := Tryz.underlying263
 a51 := Tryz.isAgg263
 z51 := Tryz.sizeOf263
 v51 := Tryz.zeroValue263
 t53 := Tryz.underlying246
 a53 := Tryz.isAgg246
 z53 := Tryz.sizeOf246
 v53 := Tryz.zeroValue246
 t171 := Tryz.underlying245
 a171 := Tryz.isAgg245
 z171 := Tryz.sizeOf245
 v171 := Tryz.zeroValue245
 t173 := Tryz.underlying249
 a173 := Tryz.isAgg249
 z173 := Tryz.sizeOf249
 v173 := Tryz.zeroValue249
 t212 := Tryz.underlying262
 a212 := Tryz.isAgg262
 z212 := Tryz.sizeOf262
 v212 := Tryz.zeroValue262
 t213 := Tryz.underlying264
 a213 := Tryz.isAgg264
 z213 := Tryz.sizeOf264
 t232 := Tryz.underlying284
 a232 := Tryz.isAgg284
 z232 := Tryz.sizeOf284
 v232 := Tryz.zeroValue284
 t233 := Tryz.underlying285
 a233 := Tryz.isAgg285
 z233 := Tryz.sizeOf285
 v233 := Tryz.zeroValue285
 g17 := by kernel_rfl
 g18 := by kernel_rfl
 g19 := by kernel_rfl
 i0 := by kernel_rfl
 i2 := by kernel_rfl
 i3 := by kernel_rfl
 i4 := by kernel_rfl
 i5 := by kernel_rfl
 i9 := by kernel_rfl
 i20 := by kernel_rfl
 i37 := by kernel_rfl
 i46 := by kernel_rfl
 i51 := by kernel_rfl
 i53 := by kernel_rfl
 i171 := by kernel_rfl
 i173 := by kernel_rfl
 i212 := by kernel_rfl
 i232 := by kernel_rfl
 i233 := by kernel_rfl
 m17 := by kernel_rfl
 m18 := by kernel_rfl
 m19 := by kernel_rfl }
open Go.RowKit Go.Sort Go.Lib in
theorem Tryz.strconv_Itoa (n : Int) (h0 : -9223372036854775808 ≤ n) (h1 : n ≤ 9223372036854775807) (w : World) (htab : Lib.TabIs Tryz.prog w "internal/strconv.uint64pow10" .u64 Lib.pow10Tab) :
  Calls Tryz.prog 86 #[.int .i64 n] w fun e w' => e = .returned (.string ⟨(Lib.itoa n).toArray⟩) ∧ ∃ k os, w' = grow (w.drewN k) os := Any.strconv_Itoa Tryz.laysM171 n h0 h1 w htab
def Tryz.lays157_ren : Go.Shelf.Ren := ⟨fun | 157 => 206 | 229 => 232 | 199 => 233 | 261 => 244 | 311 => 248 | 312 => 249 | n => n, fun | 9 => 9 | 31 => 24 | 3 => 3 | 5 => 5 | 4 => 4 | 119 => 251 | 0 => 0 | 40 => 253 | 152 => 267 | 21 => 21 | 154 => 269 | 51 => 263 | 141 => 271 | 196 => 277 | 193 => 274 | 198 => 279 | 49 => 256 | 194 => 275 | 201 => 282 | 226 => 286 | 46 => 265 | 227 => 287 | n => n, fun | 0 => 3 | 6 => 5 | n => n⟩
theorem Tryz.lays157 : Go.Proofs.Lays.n157 Tryz.prog Tryz.lays157_ren := {
 mixed := by kernel_rfl
 f157 := Tryz.func206.trans (congrArg some (by kernel_rfl))
 f199 := Tryz.func233.trans (congrArg some (by kernel_rfl))
 f229 := Tryz.func232.trans (congrArg some (by kernel_rfl))
 f261 := Tryz.func244.trans (congrArg some (by kernel_rfl))
 f311 := Tryz.func248.trans (congrArg some (by kernel_rfl))
 f312 := Tryz.func249.trans (congrArg some (by kernel_rfl))
 t0 := Tryz.underlying0
 a0 := Tryz.isAgg0
 z0 := Tryz.sizeOf0
 v0 := Tryz.zeroValue0
 t3 := Tryz.underlying3
 a3 := Tryz.isAgg3
 z3 := Tryz.sizeOf3
 v3 := Tryz.zeroValue3
 t4 := Tryz.underlying4
 a4 := Tryz.isAgg4
 z4 := Tryz.sizeOf4
 v4 := Tryz.zeroValue4
 t5 := Tryz.underlying5
 a5 := Tryz.isAgg5
 z5 := Tryz.sizeOf5
 v5 := Tryz.zeroValue5
 t9 := Tryz.underlying9
 a9 := Tryz.isAgg9
 z9 := Tryz.sizeOf9
 v9 := Tryz.zeroValue9
 t21 := Tryz.underlying21
 a21 := Tryz.isAgg21
 z21 := Tryz.sizeOf21
 v21 := Tryz.zeroValue21
 t31 := Tryz.underlying24
 a31 := Tryz.isAgg24
 z31 := Tryz.sizeOf24
 v31 := Tryz.zeroValue24
 t40 := Tryz.underlying253
 a40 := Tryz.isAgg253
 z40 := Tryz.sizeOf253
 v40 := Tryz.zeroValue253
 t46 := Tryz.underlying265
 a46 := Tryz.isAgg265
 z46 := Tryz.sizeOf265
 v46 := Tryz.zeroValue265
 t49 := Tryz.underlying256
 a49 := Tryz.isAgg256
 z49 := Tryz.sizeOf256
 v49 := Tryz.zeroValue256
 t51 := Tryz.underlying263
 a51 := Tryz.isAgg263
 z51 := Tryz.sizeOf263
 v51 := Tryz.zeroValue263
 t119 := Tryz.underlying251
 a119 := Tryz.isAgg251
 z119 := Tryz.sizeOf251
 t141 := Tryz.underlying271
 a141 := Tryz.isAgg271
 z141 := Tryz.sizeOf271
 v141 := Tryz.zeroValue271
 t152 := Tryz.underlying267
 a152 := Tryz.isAgg267
 z152 := Tryz.sizeOf267
 v152 := Tryz.zeroValue267
 t154 := Tryz.underlying269
 a154 := Tryz.isAgg269
 z154 := Tryz.sizeOf269
 v154 := Tryz.zeroValue269
 t193 := Tryz.underlying274
 a193 := Tryz.isAgg274
 z193 := Tryz.sizeOf274
 v193 := Tryz.zeroValue274
 t194 := Tryz.underlying275
 a194 := Tryz.isAgg275
 z194 := Tryz.sizeOf275
 v194 := Tryz.zeroValue275
 t196 := Tryz.underlying277
 a196 := Tryz.isAgg277
 z196 := Tryz.sizeOf277
 v196 := Tryz.zeroValue277
 t198 := Tryz.underlying279
 a198 := Tryz.isAgg279
 z198 := Tryz.sizeOf279
 v198 := Tryz.zeroValue279
 t201 := Tryz.underlying282
 a201 := Tryz.isAgg282
 z201 := Tryz.sizeOf282
 v201 := Tryz.zeroValue282
 t226 := Tryz.underlying286
 a226 := Tryz.isAgg286
 z226 := Tryz.sizeOf286
 v226 := Tryz.zeroValue286
 t227 := Tryz.underlying287
 a227 := Tryz.isAgg287
 z227 := Tryz.sizeOf287
 v227 := Tryz.zeroValue287
 g0 := by kernel_rfl
 g6 := by kernel_rfl }
open Go.RowKit Go.Lib in
theorem Tryz.strings_Fields (s : ByteArray) (w : World) (hs : s.size < 4294967281) (hascii : ∀ (j : Nat) b, s.data.toList[j]? = some b → b.toNat < 128) (htab : Lib.TabIs Tryz.prog w "strings.asciiSpace" .u8 Lib.asciiSpaceTab) :
  Calls Tryz.prog 206 #[.string s] w fun e w' =>
   e = .returned (.slice (some ⟨w.heap.size, 0, none⟩) (Lib.fields s.data.toList).length (Lib.fields s.data.toList).length) ∧ w' = w.alloc (.cells ((Lib.fields s.data.toList).map fun l => Value.string ⟨l.toArray⟩).toArray 9) := Any.strings_Fields Tryz.lays157 (by kernel_rfl) (by kernel_rfl) s w hs hascii htab
end Go.Proofs
namespace Go.Proofs.Am
open Go.RowKit
def kwText : List UInt8 := [99, 104, 97, 110, 110, 101, 108, 32, 99, 104, 101, 99, 107, 112, 111, 105, 110, 116, 32, 99, 111, 110, 115, 116, 32, 100, 101, 97, 100, 108, 105, 110, 101, 32, 101, 108, 115, 101, 32, 101, 109, 105, 116, 32, 101, 118, 101, 114, 121, 32, 102, 114, 101, 115, 104, 32, 105, 102, 32, 108, 101, 116, 32, 111, 110, 32, 111, 117, 116, 112, 117, 116, 32, 114, 101, 97, 100, 32, 114, 101, 112, 101, 97, 116, 32, 114, 101, 116, 117, 114, 110, 32, 115, 101, 110, 100, 32, 115, 101, 110, 115, 111, 114, 32, 116, 97, 115, 107, 32, 116, 111, 103, 101, 116, 104, 101, 114, 32, 118, 97, 114, 32, 119, 104, 105, 108, 101, 32, 119, 105, 116, 104, 105, 110]
theorem kw_fields : Lib.fields kwText = kws := by kernel_rfl
theorem kw_ascii : kwText.all (fun b => decide (b.toNat < 128)) = true := by kernel_rfl
theorem ints_of {w : World} {F : Nat → Prop} {k : IntKind} : ∀ {zs : List Int} {vs : List Value}, RepL w F (zs.map (C.int k)) vs → vs = zs.map (Value.int k) := by
 intro zs
 induction zs with
 | nil => intro vs h; cases h; rfl
 | cons z r ih =>
  intro vs h
  cases h with
  | cons h1 h2 => rw [ih h2, List.map_cons]; congr 1
theorem tab_of {w : World} (h : GlobOk zG w) {g : Nat} {name : String} {k : IntKind} {zs : List Int} (hg : Tryz.prog.globalNamed name = some g) (hG : zG.glob g = some (zs.map (C.int k))) : Lib.TabIs Tryz.prog w name k zs := by
 obtain ⟨h1, h2, vs, ty, fz, h3, hl⟩ := h g _ hG
 unfold Lib.TabIs World.var?
 rw [hg]
 simp only [Option.bind_some, h3]
 rw [← ints_of hl]
theorem space_tab : zG.glob 3 = some (Lib.asciiSpaceTab.map (C.int .u8)) := by kernel_rfl
theorem pow_tab : zG.glob 4 = some (Lib.pow10Tab.map (C.int .u64)) := by kernel_rfl
/-- A new block of strings. -/
theorem strs_rep {w : World} {F : Nat → Prop} {b : Nat} {ss : List (List UInt8)} {vs : Array Value} {ty : TypeId} (hh : w.heap[b]? = some (.cells vs ty (0, 0))) (hv : vs.toList = ss.map fun l => Value.string ⟨l.toArray⟩) (hm : ∀ s ∈ ss, s.length ≤ maxLen) : RepRows w F 1 ⟨b, 0, none⟩ 0 (encStrs ss) := by
 refine RepRows.of (encStrs_rows ss) (RepCells.of (vs := vs.toList) ?_ fun j u hu => ?_)
 ·
  rw [hv]
  clear hv
  induction ss with
  | nil => exact .nil
  | cons s r ih =>
   rw [encStrs_cons]
   exact .cons ⟨rfl, hm s (by simp)⟩ (ih (fun s hs => hm s (by simp [hs])))
 ·
  rw [Nat.zero_add, aplain, cell_at hh]
  simpa using hu
theorem kw_len : kws.all (fun s => decide (s.length ≤ 100)) = true := by kernel_rfl
theorem holds206 : Holds Tryz.prog zG 206 [.c (.str kwText)] [.c (.sl 1 (encStrs kws))] := by
 refine ⟨⟨Tryz.f206, Tryz.func206, rfl, rfl⟩, fun ok w vs hng hglob hA => ?_⟩
 cases hA with
 | cons h r =>
  cases r
  obtain ⟨rfl, _⟩ : _ = Value.string ⟨kwText.toArray⟩ ∧ _ := h
  refine Calls.mono (Tryz.strings_Fields ⟨kwText.toArray⟩ w (by decide +kernel) (fun j b hb => ?_) (tab_of hglob (by kernel_rfl) space_tab)) fun e w' he => ?_
  ·
   have := List.all_eq_true.1 kw_ascii b (List.mem_of_getElem? hb)
   simpa using this
  ·
   obtain ⟨rfl, rfl⟩ := he
   have hkw : Lib.fields (⟨kwText.toArray⟩ : ByteArray).data.toList = kws := kw_fields
   rw [hkw]
   refine ⟨[_], rfl, .cons ⟨some ⟨w.heap.size, 0, none⟩, kws.length, kws.length, rfl, (encStrs_length _).symm, ⟨Nat.le_refl _, by decide +kernel⟩, .inr ⟨_, rfl, .inr (Nat.le_refl _), by simp only [World.alloc, Array.size_push]; omega, strs_rep (heap_alloc_new w _) (by simp) ?_⟩⟩ .nil, (Below.refl _ w).alloc (Nat.le_refl _) _⟩
   intro s hs
   have := List.all_eq_true.1 kw_len s hs
   simp at this
   simp only [maxLen]
   omega
theorem holds86 (n : Int) (h0 : -9223372036854775808 ≤ n) (h1 : n ≤ 9223372036854775807) : Holds Tryz.prog zG 86 [.c (.int .i64 n)] [.c (.str (Lib.itoa n))] := by
 refine ⟨⟨Tryz.f86, Tryz.func86, rfl, rfl⟩, fun ok w vs hng hglob hA => ?_⟩
 cases hA with
 | cons h r =>
  cases r
  obtain rfl : _ = Value.int .i64 n := h
  refine Calls.mono (Tryz.strconv_Itoa n h0 h1 w (tab_of hglob (by kernel_rfl) pow_tab)) fun e w' he => ?_
  obtain ⟨rfl, k, os, rfl⟩ := he
  refine ⟨[_], rfl, .cons ⟨rfl, by have := Lib.itoa_length_le n h0 h1; simp only [maxLen]; omega⟩ .nil, ?_⟩
  refine ⟨rfl, rfl, rfl, by simp [Sort.grow, World.drewN], fun b hb => ?_⟩
  simp only [Sort.grow, World.drewN]
  rw [Array.getElem?_append_left hb]
end Go.Proofs.Am
set_option maxRecDepth 100000
set_option maxHeartbeats 4000000
namespace Go.Proofs.Am
open Go.Proofs.YtfflfbhnedkppaaGreatDoor Go.RowKit
section
variable {H : Type} {enc : TypeId × Value → H} {W : World} {base : Nat} {spare : Nat → Bool} {held : Bool} {F : Nat → Prop}
abbrev noB : Nat → Prop := fun _ => False
/-- The cells of a datum that lies in no other block. -/
def datC : DataW Unit → Option (List C)
  | .lit (.int k z) => some [.int k z]
  | .lit (.string s) => some [.str s]
  | .lit (.bool b) => some [.bool b]
  | _ => none
theorem leaf_rep {e : TypeId} (he : (∃ k, Tryz.prog.underlying e = some (.int k)) ∨ Tryz.prog.underlying e = some .string ∨ Tryz.prog.underlying e = some .bool) (f : Nat) (cs : List Value) (d : DataW Unit) (p : List MemPlace) (h : DataW.trod (fun _ => ()) Tryz.prog W base spare held f e cs = some (d, p)) (l : List C) (hl : datC d = some l) : RepL W F l cs := by
  cases f with
  | zero => simp [DataW.trod] at h
  | succ f =>
    rcases he with ⟨k, he⟩ | he | he
    · match cs, h with
      | [v], h =>
        obtain ⟨n, rfl, rfl, _⟩ := trod_int he h
        injection hl with hl
        subst hl
        exact .cons rfl .nil
      | [], h => simp [DataW.trod, he] at h
      | _ :: _ :: _, h => simp [DataW.trod, he] at h
    · match cs, h with
      | [v], h =>
        obtain ⟨n, rfl, rfl, hn⟩ := trod_str he h
        injection hl with hl
        subst hl
        exact .cons ⟨rfl, hn⟩ .nil
      | [], h => simp [DataW.trod, he] at h
      | _ :: _ :: _, h => simp [DataW.trod, he] at h
    · match cs, h with
      | [v], h =>
        cases v <;> simp [DataW.trod, he] at h
        obtain ⟨rfl, rfl⟩ := h
        injection hl with hl
        subst hl
        exact .cons rfl .nil
      | [], h => simp [DataW.trod, he] at h
      | _ :: _ :: _, h => simp [DataW.trod, he] at h
theorem flat_rep {sz : Nat} : ∀ (rows : List (List C)) (cs : List Value), cs.length = rows.length * sz → (∀ i (hi : i < rows.length), RepL W F rows[i] ((cs.drop (i * sz)).take sz)) → RepL W F rows.flatten cs := by
  intro rows
  induction rows with
  | nil => intro cs hl _; simp at hl; subst hl; exact .nil
  | cons r rest ih =>
    intro cs hl h
    have h0 := h 0 (by simp)
    simp only [List.getElem_cons_zero, Nat.zero_mul, List.drop_zero] at h0
    have h1 := ih (cs.drop sz) (by rw [List.length_drop, hl, List.length_cons, Nat.succ_mul]; omega) fun i hi => by
      have := h (i + 1) (by simpa using hi)
      rw [List.getElem_cons_succ, Nat.succ_mul, Nat.add_comm (i * sz) sz] at this
      rw [List.drop_drop]
      exact this
    have := h0.append h1
    rwa [List.take_append_drop] at this
theorem arr_rep {t e : TypeId} {n sz : Nat} (ht : Tryz.prog.underlying t = some (.array n e)) (hsz : Tryz.prog.cellsOf e = sz) (hct : Tryz.prog.cellsOf t = n * sz) {f : Nat} {cs : List Value} {ds : List (DataW Unit)} {p : List MemPlace}
    (h : DataW.trod (fun _ => ()) Tryz.prog W base spare held f t cs = some (.agg ds, p)) (rows : List (List C)) (hn : rows.length = n)
    (hrow : ∀ (i : Nat) (hi : i < rows.length) f cs d p, DataW.trod (fun _ => ()) Tryz.prog W base spare held f e cs = some (d, p) → ds[i]? = some d → RepL W F rows[i] cs) : RepL W F rows.flatten cs := by
  cases f with
  | zero => simp [DataW.trod] at h
  | succ f =>
    have h2 : (if cs.length = Tryz.prog.cellsOf t then ((List.range n).mapM fun i => DataW.trod (fun _ => ()) Tryz.prog W base spare held f e ((cs.drop (i * Tryz.prog.cellsOf e)).take (Tryz.prog.cellsOf e))).map fun xs => (DataW.agg (xs.map (·.1)), xs.flatMap (·.2)) else none) = some (.agg ds, p) := by
      rw [← h]
      rcases cs with _ | ⟨c, _ | ⟨c', r⟩⟩ <;> simp [DataW.trod, ht]
    split at h2
    · rename_i hl
      rw [Option.map_eq_some_iff] at h2
      obtain ⟨xs, h3, h4⟩ := h2
      injection h4 with h4 h5
      injection h4 with h4
      obtain ⟨hxl, hx⟩ := mapM_some h3
      refine flat_rep rows cs (by rw [hl, hct, hn]) fun i hi => ?_
      obtain ⟨b, hb1, hb2⟩ := hx i i (by rw [List.getElem?_range (by omega)])
      rw [hsz] at hb2
      exact hrow i hi f _ b.1 b.2 hb2 (by rw [← h4, List.getElem?_map, hb1]; rfl)
    · cases h2
theorem leafs_rep {t e : TypeId} {n : Nat} (ht : Tryz.prog.underlying t = some (.array n e)) (hsz : Tryz.prog.cellsOf e = 1) (hct : Tryz.prog.cellsOf t = n) (he : (∃ k, Tryz.prog.underlying e = some (.int k)) ∨ Tryz.prog.underlying e = some .string ∨ Tryz.prog.underlying e = some .bool) {f : Nat} {cs : List Value} {ds : List (DataW Unit)} {p : List MemPlace}
    (h : DataW.trod (fun _ => ()) Tryz.prog W base spare held f t cs = some (.agg ds, p)) (g : List C) (hn : g.length = n) (hd : ds.map datC = g.map fun c => some [c]) : RepL W F g cs := by
  have h1 : (g.map fun c => [c]).flatten = g := by
    clear hn hd
    induction g with
    | nil => rfl
    | cons c r ih => rw [List.map_cons, List.flatten_cons, ih]; rfl
  rw [← h1]
  refine arr_rep ht hsz (by rw [hct, Nat.mul_one]) h _ (by simpa using hn) fun i hi f cs d p h2 h3 => ?_
  refine leaf_rep he f cs d p h2 _ ?_
  have h4 : (ds.map datC)[i]? = some (datC d) := by rw [List.getElem?_map, h3]; rfl
  rw [hd] at h4
  rw [List.getElem?_map] at h4
  simp only [List.length_map] at hi
  rw [List.getElem?_eq_getElem hi] at h4
  simp only [Option.map_some, Option.some.injEq] at h4
  rw [← h4]
  simp
theorem fields_rep {f : Nat} : ∀ (tys : List TypeId) (cs : List Value) (ds : List (DataW Unit)), Flds (fun _ => ()) W base spare held f tys cs ds → (∀ t ∈ tys, (∃ k, Tryz.prog.underlying t = some (.int k)) ∨ Tryz.prog.underlying t = some .string ∨ Tryz.prog.underlying t = some .bool) → ∀ g : List C, ds.map datC = g.map (fun c => some [c]) → RepL W F g cs := by
  intro tys
  induction tys with
  | nil =>
    intro cs ds h _ g hg
    obtain ⟨rfl, rfl⟩ := h.nil
    cases g with
    | nil => exact .nil
    | cons => simp at hg
  | cons t ts ih =>
    intro cs ds h ht g hg
    obtain ⟨v, vs, d, ds', p, rfl, rfl, h1, h2⟩ := h.cons
    cases g with
    | nil => simp at hg
    | cons c r =>
      simp only [List.map_cons, List.cons.injEq] at hg
      have h3 := leaf_rep (F := F) (ht t (by simp)) f [v] d p h1 [c] hg.1
      cases h3 with
      | cons h3 _ => exact .cons h3 (ih vs ds' h2 (fun u hu => ht u (by simp [hu])) r hg.2)
def stmtRows : List (List C) := [0, 1, 2, 3, 4, 5, 6, 7, 8, 9, 10, 11, 12, 13].map fun i => (gStatements.drop (i * 5)).take 5
theorem stmtRows_flat : stmtRows.flatten = gStatements := by kernel_rfl
def aggs : DataW Unit → Option (List (Option (List C)))
  | .agg ds => some (ds.map datC)
  | _ => none
def stDs : List (DataW Unit) := match (Rows.laid_trickle_ast_statements : DataW Unit) with | .agg ds => ds | _ => []
theorem stmt_aggs : stDs.map aggs = stmtRows.map fun r => some (r.map fun c => some [c]) := by kernel_rfl
theorem var_block {n : String} {g : Nat} {cs : Array Value} (hg : Tryz.prog.globalNamed n = some g) (h : W.var? Tryz.prog n = some cs) : g < W.heap.size ∧ ∃ ty fz, W.heap[g]? = some (.cells cs ty fz) := by
  unfold World.var? at h
  rw [hg] at h
  simp only [Option.bind_some] at h
  split at h
  · rename_i c ty fz hh
    injection h with h
    subst h
    exact ⟨(Array.getElem?_eq_some_iff.1 hh).1, ty, fz, hh⟩
  · cases h
def laidL : List (String × DataW Unit) := [("math/bits.deBruijn32tab", Rows.laid_math_bits_deBruijn32tab), ("math/bits.deBruijn64tab", Rows.laid_math_bits_deBruijn64tab), ("internal/strconv.uint64pow10", Rows.laid_internal_strconv_uint64pow10), ("unicode.White_Space", Rows.laid_unicode_White_Space), ("strings.asciiSpace", Rows.laid_strings_asciiSpace), ("trickle/ast.symbols", Rows.laid_trickle_ast_symbols), ("trickle/ast.levels", Rows.laid_trickle_ast_levels), ("trickle/ast.statements", Rows.laid_trickle_ast_statements)]
theorem glob_ok (h : laidMetH Tryz.prog laidL W) : GlobOk zG W := by
  have h : laidMet Tryz.prog laidL W := h
  obtain ⟨ps, hL, _⟩ := h
  obtain ⟨_, _, _, _, _, _, _, _, _, _, hL, _⟩ := hL
  obtain ⟨_, _, _, _, _, _, _, _, _, _, hL, _⟩ := hL
  obtain ⟨g4, t4, c4, f4, p4, _, n4, y4, v4, r4, hL, _⟩ := hL
  obtain ⟨_, _, _, _, _, _, _, _, _, _, hL, _⟩ := hL
  obtain ⟨g3, t3, c3, f3, p3, _, n3, y3, v3, r3, hL, _⟩ := hL
  obtain ⟨g0, t0, c0, f0, p0, _, n0, y0, v0, r0, hL, _⟩ := hL
  obtain ⟨g1, t1, c1, f1, p1, _, n1, y1, v1, r1, hL, _⟩ := hL
  obtain ⟨g2, t2, c2, f2, p2, _, n2, y2, v2, r2, hL, _⟩ := hL
  have e0 : g0 = 0 := Option.some.inj (n0.symm.trans (by kernel_rfl))
  have e1 : g1 = 1 := Option.some.inj (n1.symm.trans (by kernel_rfl))
  have e2 : g2 = 2 := Option.some.inj (n2.symm.trans (by kernel_rfl))
  have e3 : g3 = 3 := Option.some.inj (n3.symm.trans (by kernel_rfl))
  have e4 : g4 = 4 := Option.some.inj (n4.symm.trans (by kernel_rfl))
  subst e0 e1 e2 e3 e4
  have u0 : t0 = 199 := Option.some.inj (y0.symm.trans (by kernel_rfl))
  have u1 : t1 = 202 := Option.some.inj (y1.symm.trans (by kernel_rfl))
  have u2 : t2 = 227 := Option.some.inj (y2.symm.trans (by kernel_rfl))
  have u3 : t3 = 251 := Option.some.inj (y3.symm.trans (by kernel_rfl))
  have u4 : t4 = 262 := Option.some.inj (y4.symm.trans (by kernel_rfl))
  subst u0 u1 u2 u3 u4
  have b0 : RepL W noB gSymbols c0.toList := leafs_rep Tryz.underlying199 (by kernel_rfl) (by kernel_rfl) (.inr (.inl Tryz.underlying9)) r0 gSymbols (by kernel_rfl) (by kernel_rfl)
  have b1 : RepL W noB gLevels c1.toList := leafs_rep Tryz.underlying202 (by kernel_rfl) (by kernel_rfl) (.inl ⟨_, Tryz.underlying3⟩) r1 gLevels (by kernel_rfl) (by kernel_rfl)
  have b3 : RepL W noB gSpace c3.toList := leafs_rep Tryz.underlying251 (by kernel_rfl) (by kernel_rfl) (.inl ⟨_, Tryz.underlying5⟩) r3 gSpace (by kernel_rfl) (by kernel_rfl)
  have b4 : RepL W noB gPow c4.toList := leafs_rep Tryz.underlying262 (by kernel_rfl) (by kernel_rfl) (.inl ⟨_, Tryz.underlying246⟩) r4 gPow (by kernel_rfl) (by kernel_rfl)
  have b2 : RepL W noB gStatements c2.toList := by
    rw [← stmtRows_flat]
    refine arr_rep (sz := 5) (ds := stDs) Tryz.underlying227 (by kernel_rfl) (by kernel_rfl) r2 stmtRows (by kernel_rfl) fun i hi f cs d p h2 h3 => ?_
    obtain ⟨f', ds, rfl, rfl, hF⟩ := open_agg (tys := [4, 4, 4, 4, 3]) Tryz.underlying226 rfl (by kernel_rfl) (by kernel_rfl) h2
    refine fields_rep [4, 4, 4, 4, 3] cs ds hF ?_ _ ?_
    · intro t ht
      simp only [List.mem_cons, List.not_mem_nil, or_false] at ht
      rcases ht with rfl | rfl | rfl | rfl | rfl
      · exact .inr (.inr Tryz.underlying4)
      · exact .inr (.inr Tryz.underlying4)
      · exact .inr (.inr Tryz.underlying4)
      · exact .inr (.inr Tryz.underlying4)
      · exact .inl ⟨_, Tryz.underlying3⟩
    · have h4 := congrArg (fun l : List (Option (List (Option (List C)))) => l[i]?) stmt_aggs
      simp only [List.getElem?_map] at h4
      rw [List.getElem?_eq_getElem hi] at h4
      have h5 : (Option.map aggs (some (DataW.agg ds))) = some (some (ds.map datC)) := rfl
      have h6 := h4.symm.trans ((congrArg (Option.map aggs) h3).trans h5)
      simp only [Option.map_some, Option.some.injEq] at h6
      exact h6.symm
  intro g cs hg
  match g, hg with
  | 0, hg => obtain rfl := Option.some.inj hg; obtain ⟨a, ty, fz, b⟩ := var_block n0 v0; exact ⟨by decide, a, c0, ty, fz, b, b0⟩
  | 1, hg => obtain rfl := Option.some.inj hg; obtain ⟨a, ty, fz, b⟩ := var_block n1 v1; exact ⟨by decide, a, c1, ty, fz, b, b1⟩
  | 2, hg => obtain rfl := Option.some.inj hg; obtain ⟨a, ty, fz, b⟩ := var_block n2 v2; exact ⟨by decide, a, c2, ty, fz, b, b2⟩
  | 3, hg => obtain rfl := Option.some.inj hg; obtain ⟨a, ty, fz, b⟩ := var_block n3 v3; exact ⟨by decide, a, c3, ty, fz, b, b3⟩
  | 4, hg => obtain rfl := Option.some.inj hg; obtain ⟨a, ty, fz, b⟩ := var_block n4 v4; exact ⟨by decide, a, c4, ty, fz, b, b4⟩
  | n + 5, hg => cases hg
/-- What is read as an argument is read so in a world that has grown. -/
theorem args_stay {sp : Nat → Bool} (hl : laidOutB Tryz.prog = true) {W' : World} (hb : Below W.heap.size W W') : ∀ {ts : List TypeId} {vs : List Value} {ds : List (DataW H)} {ps : List MemPlace}, (∀ t ∈ ts, t < Tryz.prog.types.size ∧ Tryz.prog.readableRec t = true) → DataW.TrodAll enc Tryz.prog W 0 (fun _ => true) true ts vs ds ps →
    (∀ x ∈ ps, x.block < W.heap.size) → (∀ x ∈ ps, sp x.block = true) → DataW.TrodAll enc Tryz.prog W' 0 sp true ts vs ds ps := by
  intro ts
  induction ts with
  | nil =>
    intro vs ds ps _ h _ _
    cases vs <;> cases ds <;> exact h
  | cons t ts ih =>
    intro vs ds ps ht h hlt hs
    cases vs with
    | nil => exact h
    | cons v vs => cases ds with
      | nil => exact h
      | cons d ds =>
        obtain ⟨p, q, h1, h2, rfl⟩ := h
        obtain ⟨a1, a2⟩ := ht t (by simp)
        exact ⟨p, q, WideElems.Trod_stays hl a2 a1 h1 (fun x hx => hb.same (hlt x (by simp [hx]))) (fun x hx => hs x (by simp [hx])), ih (fun u hu => ht u (by simp [hu])) h2 (fun x hx => hlt x (by simp [hx])) (fun x hx => hs x (by simp [hx])), rfl⟩
theorem all_append {W' : World} {b : Nat} {sp : Nat → Bool} {hd : Bool} : ∀ {ts ts' : List TypeId} {vs vs' : List Value} {ds ds' : List (DataW H)} {p q : List MemPlace}, DataW.TrodAll enc Tryz.prog W' b sp hd ts vs ds p → DataW.TrodAll enc Tryz.prog W' b sp hd ts' vs' ds' q → DataW.TrodAll enc Tryz.prog W' b sp hd (ts ++ ts') (vs ++ vs') (ds ++ ds') (p ++ q) := by
  intro ts
  induction ts with
  | nil =>
    intro ts' vs vs' ds ds' p q h1 h2
    cases vs <;> cases ds <;> first | exact h1.elim | (have h1 : p = [] := h1; subst h1; exact h2)
  | cons t ts ih =>
    intro ts' vs vs' ds ds' p q h1 h2
    cases vs with
    | nil => exact h1.elim
    | cons v vs => cases ds with
      | nil => exact h1.elim
      | cons d ds =>
        obtain ⟨p1, q1, a, b, rfl⟩ := h1
        exact ⟨p1, q1 ++ q, a, ih b h2, by rw [List.append_assoc]⟩
/-- A call that answers true and writes nothing that was there. -/
theorem post_true {f : Func} {s : ChangeSpec} {fresh handsOn again : Bool} {W' : World} {args : Array Value} {ds : List (DataW H)} {before : List MemPlace} (hl : laidOutB Tryz.prog = true) (hres : f.resultTypes = #[4]) (hvars : s.vars = [])
    (hW : DataW.Whole enc Tryz.prog f.params.toList s.vars false W args.toList ds [] before) (hfn : s.fn H (ds ++ []) = { results := [.lit (.bool true)], args := ds }) (ht : ∀ t ∈ f.params.toList, t < Tryz.prog.types.size ∧ Tryz.prog.readableRec t = true)
    (hb : Below W.heap.size W W') : s.post enc Tryz.prog f false fresh handsOn again W args (.bool true) W' := by
  obtain ⟨p, q, hA, hV, hq, hz, hn⟩ := id hW
  have hlt := hW.lt
  rw [hvars] at hV
  have hV' : q = [] := hV
  subst hV'
  rw [List.append_nil] at hq
  subst hq
  have r4 : ∀ (b : Nat) (sp : Nat → Bool) (hd : Bool), DataW.TrodAll enc Tryz.prog W' b sp hd [4] [.bool true] [.lit (.bool true)] [] := fun b sp hd => ⟨[], [], ⟨1, by simp [DataW.trod, Tryz.underlying4, Value.cells]⟩, rfl, rfl⟩
  have hr4 : f.resultTypes.toList = [4] := by rw [hres]
  have hrl : (Value.bool true).resultList f.resultTypes.size = [.bool true] := by rw [hres]; rfl
  refine ⟨ds, [], before, [], before, [], hW, ?_, ?_, ?_, ?_, fun _ => ⟨?_, ?_⟩⟩
  · rw [hr4, hrl, hfn]; exact r4 _ _ _
  · rw [hfn]; exact args_stay hl hb ht hA hlt (fun x hx => by simpa using hlt x hx)
  · rw [hfn, hvars]; rfl
  · exact hb.frame _
  · exact RowKit.ok_one hres rfl (RowKit.okWide_bool_mk Tryz.underlying4 _)
  · refine ⟨[.lit (.bool true)] ++ ds, [], before, ⟨before, [], ?_, by rw [hvars]; rfl, by simp, ?_, fun h => by cases h⟩, fun p hp _ => hp⟩
    · rw [hr4, hrl]
      exact all_append (p := []) (r4 _ _ _) (args_stay hl hb ht hA hlt (fun _ _ => rfl))
    · intro b off hp
      rw [hb.frozen (p := ⟨b, off, none⟩) (hlt _ hp)]
      exact hz b off hp
end
end Go.Proofs.Am
namespace Go.Proofs.Am
open Go.RowKit
theorem size117 : (Tryz.prog.info? 117).map (·.size) = some 2 := by kernel_rfl
theorem lies117 : liesAt Tryz.prog Tryz.prog.depth 117 (2 / Tryz.prog.cellsOf 117) 0 117 1 = true := by kernel_rfl
theorem info5 : (Tryz.prog.info? 5).map (fun i => (i.zero, i.size, i.bytes)) = some (some (.int .u8 0), 1, 1) := by kernel_rfl
theorem cells5 : Tryz.prog.cellsOf 5 = 1 := by kernel_rfl
set_option maxHeartbeats 1000000 in
set_option maxRecDepth 100000 in
theorem bcheck_used (b : Nat) (w : World) (h0 : w.cell? ⟨b, 0, none⟩ = some (.pointer (some ⟨b, 0, none⟩))) :
    Calls Tryz.prog 158 #[.pointer (some ⟨b, 0, none⟩)] w fun e w' => e = .returned (.tuple #[]) ∧ w' = w := by
  obtain ⟨j, hj, _⟩ := Option.map_eq_some_iff.1 size117
  go_enter Tryz.func158, Tryz.ntmps158
  go_wp2
  rw [Lib.run_neq_ptr_same w _ Tryz.underlying114 hj]
  go_wp2
  go_end0
  exact ⟨rfl, rfl⟩
set_option maxHeartbeats 1000000 in
set_option maxRecDepth 100000 in
theorem bcheck_fresh (b : Nat) (w : World) (h0 : w.cell? ⟨b, 0, none⟩ = some (.pointer none)) (hsh : w.shape? b = some (117, 2)) (hfz : w.frozen? ⟨b, 0, none⟩ = false) :
    Calls Tryz.prog 158 #[.pointer (some ⟨b, 0, none⟩)] w fun e w' => e = .returned (.tuple #[]) ∧ w' = w.setCell ⟨b, 0, none⟩ (.pointer (some ⟨b, 0, none⟩)) := by
  obtain ⟨j, hj, hjs⟩ := Option.map_eq_some_iff.1 size117
  go_enter Tryz.func158, Tryz.ntmps158
  go_wp2
  rw [Lib.run_to_unsafe w ⟨b, 0, none⟩ Tryz.underlying114 Tryz.underlying222 hj (by rw [hjs]; decide) hsh (Nat.zero_lt_succ 1)]
  simp only [Result.andThen]
  rw [Oper.upon_value]
  go_wp2
  rw [run_callFunc_extern Tryz.func198 (by kernel_rfl) (by kernel_rfl) (by kernel_rfl) (e := Extern.AbiNoEscape.same) (by kernel_rfl)]
  rw [Lib.run_noEscape]
  simp only [Result.andThen]
  rw [Oper.upon_value]
  go_wp2
  rw [Lib.run_from_unsafe w ⟨b, 0, none⟩ Tryz.underlying222 Tryz.underlying114 hj hsh lies117]
  simp only [Result.andThen]
  rw [Oper.upon_value]
  go_wp2
  go_end0
  exact ⟨rfl, rfl⟩
set_option maxRecDepth 100000 in
theorem bappend (w : World) (ty : TypeId) (v : Value) (n : Nat) (xs : List Value) (hown : w.ownsRow 0 5 1 v n xs) (s : ByteArray) (hbytes : n + s.size ≤ 140737488355328) :
    ∃ v' w', (Builtin.append_ #[115, 9] ty #[v, .string s]).run Tryz.prog w = .ok v' w' ∧ w'.ownsRow 0 5 1 v' (n + s.size) (xs ++ Lib.strCells s) ∧ w.grownBy w' v.ownBlock ∧
      (∀ g, v'.ownBlock = some g → v.ownBlock = some g ∨ w.heap.size ≤ g) := by
  obtain ⟨i, hi, hz⟩ := Option.map_eq_some_iff.1 info5
  injection hz with hz1 hz2
  injection hz2 with hz2 hz3
  have hm : n + s.size ≤ maxLen := by unfold maxLen; omega
  obtain ⟨v', w', hr, h2, h3, _⟩ := Lib.run_append_own_string (P := Tryz.prog) w 0 115 9 ty 5 i Tryz.underlying115 Tryz.underlying9 hi hz1 hz2 hz3 v n xs hown s hm hbytes (Nat.zero_le _)
  refine ⟨v', w', hr, h2, h3, fun g hg => ?_⟩
  rcases hown.2 with ⟨rfl, rfl⟩ | ⟨g0, cap, cur, rfl, _, hg0, hnc, hcm, hcs, htk⟩
  · have hx : xs = [] := List.eq_nil_of_length_eq_zero (by simpa using hown.1)
    subst hx
    obtain ⟨v1, w1, hr1, h21, _, _⟩ := Lib.run_append_own_string (P := Tryz.prog) w w.heap.size 115 9 ty 5 i Tryz.underlying115 Tryz.underlying9 hi hz1 hz2 hz3 (.slice none 0 0) 0 [] (World.ownsRow_nil _ _ _ _) s hm hbytes (Nat.le_refl _)
    have he := hr.symm.trans hr1
    injection he with he1 he2
    subst he1
    exact .inr (h21.lt g hg).1
  · by_cases hroom : n + s.size ≤ cap
    · left
      have hr1 := Lib.run_append_room_string (P := Tryz.prog) w 115 9 ty 5 i Tryz.underlying115 Tryz.underlying9 hi hz2 g0 n cap cur hg0 s hroom (by omega)
      have he := hr.symm.trans hr1
      injection he with he1 he2
      subst he1
      exact hg
    · right
      have hg48 : Builtin.nextslicecap (n + s.size) cap * i.bytes ≤ 281474976710656 := by rw [hz3]; exact growslice_fits (by omega) (by omega)
      have hr1 := Lib.run_append_grow_string (P := Tryz.prog) w 115 9 ty 5 i (.int .u8 0) Tryz.underlying115 Tryz.underlying9 hi hz1 ⟨g0, 0, none⟩ n cap xs (by rw [hz2]; simpa using hown.1) (hown.cells (g := g0) rfl) s (by omega) (by omega) hg48
      have he := hr.symm.trans hr1
      injection he with he1 he2
      subst he1
      injection hg with hg
      exact Nat.le_of_eq hg
theorem wpList_bappend {w : World} {ops : Array Oper} {rest : List Oper} {o : Oper} {a : Act} {Q : Exit → Act → World → Prop} (hgd : o.guard = none) (sl x : Operand)
    (ho : o.op = .call { callee := .builtin .append, args := #[sl, x], argTypes := #[115, 9] }) (v : Value) (n : Nat) (xs : List Value) (hs : a.eval sl = v) (hown : w.ownsRow 0 5 1 v n xs) (s : ByteArray) (hx : a.eval x = .string s) (hbytes : n + s.size ≤ 140737488355328)
    (h : ∀ v' w', w'.ownsRow 0 5 1 v' (n + s.size) (xs ++ Lib.strCells s) → w.grownBy w' v.ownBlock → (∀ g, v'.ownBlock = some g → v.ownBlock = some g ∨ w.heap.size ≤ g) → wpList Tryz.prog ops Q rest (a.put o.dst v') w') : wpList Tryz.prog ops Q (o :: rest) a w := by
  refine wpList_plain hgd fun K hK => ?_
  obtain ⟨v', w', hr, h2, h3, h4⟩ := bappend w o.type v n xs hown s hbytes
  unfold Oper.wp execOp
  simp only [ho, resolve, invoke, builtin, Sem.run_bind, Sem.run_pure, Result.andThen_ok, List.map_toArray, List.map_cons, List.map_nil, hs, hx, hr]
  exact hK _ _ (h v' w' h2 h3 h4)
/-- A builder in block b, of the bytes l: its own blocks are b and its buffer's. -/
def BldAt (b : Nat) (l : List UInt8) (w : World) (p v : Value) : Prop :=
  (p = .pointer none ∨ p = .pointer (some ⟨b, 0, none⟩)) ∧ w.heap[b]? = some (.cells #[p, v] 117 (0, 0)) ∧ w.ownsRow 0 5 1 v l.length (Lib.byteCells l) ∧ v.ownBlock ≠ some b ∧ (l = [] → v = .slice none 0 0)
def bldP (b : Nat) (l : List UInt8) : OP := fun F w fp => ∃ p v, BldAt b l w p v ∧ ∀ x, fp x ↔ (x = b ∨ v.ownBlock = some x)
theorem Stab.bld {b : Nat} {l : List UInt8} : Stab (bldP b l) := by
  rintro F F' w w' fp ⟨p, v, ⟨h1, h2, h3, h4, h5⟩, h6⟩ hk hs
  exact ⟨p, v, ⟨h1, (hs b ((h6 b).2 (.inl rfl))).trans h2, ownsRow_same h3 (fun g hg => hs g ((h6 g).2 (.inr hg))), h4, h5⟩, h6⟩
set_option maxHeartbeats 2000000 in
set_option maxRecDepth 100000 in
theorem bwrite_used (b : Nat) (l : List UInt8) (v : Value) (s : ByteArray) (w : World) (h : BldAt b l w (.pointer (some ⟨b, 0, none⟩)) v) (hlen : l.length + s.size ≤ 140737488355328) (hs0 : s.size ≠ 0) (w0 : World) (R : Ending → World → Prop) (hR : ∀ e w', R e w' → e = .returned (.tuple #[]) ∧ w' = w) (hck : Calls Tryz.prog 158 #[.pointer (some ⟨b, 0, none⟩)] w0 R) :
    Calls Tryz.prog 85 #[.pointer (some ⟨b, 0, none⟩), .string s] w0 fun e w' => (∃ u, e = .returned u) ∧ ∃ v', BldAt b (l ++ s.data.toList) w' (.pointer (some ⟨b, 0, none⟩)) v' ∧ (∀ g, v'.ownBlock = some g → v.ownBlock = some g ∨ w.heap.size ≤ g) ∧
      w'.os = w.os ∧ w'.tape = w.tape ∧ w'.output = w.output ∧ w.heap.size ≤ w'.heap.size ∧ ∀ k, k < w.heap.size → k ≠ b → v.ownBlock ≠ some k → w'.heap[k]? = w.heap[k]? := by
  obtain ⟨_, hbk, hown, hne, _⟩ := h
  have c0 : w.cell? ⟨b, 0, none⟩ = some (.pointer (some ⟨b, 0, none⟩)) := by rw [Lib.cell_of_heap hbk]; rfl
  have c1 : w.cell? ⟨b, 1, none⟩ = some v := by rw [Lib.cell_of_heap hbk]; rfl
  go_enter Tryz.func85, Tryz.ntmps85
  go_wp2_with (go_at_call 158; refine hck.mono ?_)
  intro e w1 hw1
  obtain ⟨rfl, rfl⟩ := hR e w1 hw1
  go_wp2_with (at_builtin; refine wpList_bappend rfl _ _ rfl v _ _ rfl hown s rfl hlen ?_)
  intro v' w2 hown' hgrow hblk
  have hlt : b < w1.heap.size := by
    rcases Nat.lt_or_ge b w1.heap.size with h' | h'
    · exact h'
    · simp [Array.getElem?_eq_none h'] at hbk
  have hb2 : w2.heap[b]? = some (.cells #[.pointer (some ⟨b, 0, none⟩), v] 117 (0, 0)) := by
    rw [hgrow.block b hlt (fun e => hne e.symm)]
    exact hbk
  have d0 : w2.cell? ⟨b, 0, none⟩ = some (.pointer (some ⟨b, 0, none⟩)) := by rw [Lib.cell_of_heap hb2]; rfl
  have d1 : w2.cell? ⟨b, 1, none⟩ = some v := by rw [Lib.cell_of_heap hb2]; rfl
  have f1 : w2.frozen? ⟨b, 1, none⟩ = false := Lib.frozen_of_heap hb2 1
  obtain ⟨ao, n', cap, rfl⟩ : ∃ ao n' cap, v' = .slice ao n' cap := by
    rcases hown'.2 with ⟨hv, _⟩ | ⟨g, cap, cur, hv, _⟩
    · exact ⟨_, _, _, hv⟩
    · exact ⟨_, _, _, hv⟩
  go_wp2
  go_ret2
  have hneb : (Value.slice ao n' cap).ownBlock ≠ some b := fun e => by
    rcases hblk b e with h1 | h1
    · exact hne h1
    · omega
  refine ⟨⟨_, rfl⟩, .slice ao n' cap, ⟨.inr rfl, ?_, ?_, hneb, fun e => ?_⟩, hblk, hgrow.os, hgrow.tape, hgrow.output, ?_, fun k hk h1 h2 => ?_⟩
  · simp [World.setCell, Array.getElem?_modify, hb2]
  · have he : (l ++ s.data.toList).length = l.length + s.size := by rw [List.length_append, Lib.size_eq]
    rw [he, Lib.byteCells_append, ← Lib.strCells_eq]
    refine ownsRow_same hown' fun g hg => ?_
    exact Below.heap_setCell _ _ _ _ (fun e => hneb (by rw [hg]; exact congrArg some e))
  · have h1 := congrArg List.length e
    rw [List.length_append, List.length_nil, ← Lib.size_eq] at h1
    omega
  · show w1.heap.size ≤ (w2.heap.modify _ _).size
    rw [Array.size_modify]; exact hgrow.size
  · exact (Below.heap_setCell _ _ _ _ h1).trans (hgrow.block k hk (fun e => h2 e.symm))
theorem mk_size (s : List UInt8) : (⟨s.toArray⟩ : ByteArray).size = s.length := by simp [ByteArray.size]
theorem fnOk85 : FnOk Tryz.prog 85 := ⟨Tryz.f85, by kernel_rfl, rfl, by rfl⟩
theorem fnOk90 : FnOk Tryz.prog 90 := ⟨Tryz.f90, by kernel_rfl, rfl, by rfl⟩
set_option maxRecDepth 100000 in
theorem holds85 (b : Nat) (l s : List UInt8) (hl : l.length + s.length ≤ 140737488355328) (hs : s ≠ []) : HoldsO Tryz.prog zG 85 [.c (.val (.pointer (some ⟨b, 0, none⟩))), .c (.str s)] (bldP b l) none (bldP b (l ++ s)) := by
  refine ⟨fnOk85, Stab.bld, fun okp w vs fp hng hglob hA hp hfp => ?_⟩
  obtain ⟨v1, v2, rfl, h1, h2⟩ : ∃ v1 v2, vs = [v1, v2] ∧ RepA w okp (.c (.val (.pointer (some ⟨b, 0, none⟩)))) v1 ∧ RepA w okp (.c (.str s)) v2 := by
    cases hA with
    | cons h1 r => cases r with
      | cons h2 r => cases r; exact ⟨_, _, rfl, h1, h2⟩
  obtain rfl : v1 = .pointer (some ⟨b, 0, none⟩) := h1.1
  obtain ⟨rfl, _⟩ : v2 = .string ⟨s.toArray⟩ ∧ s.length ≤ maxLen := h2
  obtain ⟨p, v, ⟨hp1, hbk, hown, hne, hl0⟩, hfp2⟩ := hp
  have hsz := mk_size s
  have hlt : b < w.heap.size := (hfp b ((hfp2 b).2 (.inl rfl))).1
  have key : ∀ w1 : World, BldAt b l w1 (.pointer (some ⟨b, 0, none⟩)) v → w1.os = w.os → w1.tape = w.tape → w1.output = w.output → w1.heap.size = w.heap.size → (∀ k, k ≠ b → w1.heap[k]? = w.heap[k]?) →
      Calls Tryz.prog 158 #[.pointer (some ⟨b, 0, none⟩)] w (fun e w' => e = .returned (.tuple #[]) ∧ w' = w1) → Calls Tryz.prog 85 (([Value.pointer (some ⟨b, 0, none⟩), Value.string ⟨s.toArray⟩] ++ []).toArray) w fun e w' => ObjPost zG okp w fp none (bldP b (l ++ s)) e w' := by
    intro w1 h1 e1 e2 e3 e4 e5 hck
    refine (bwrite_used b l v ⟨s.toArray⟩ w1 h1 (by rw [hsz]; exact hl) (by rw [hsz]; simpa using hs) w _ (fun _ _ h => h) hck).mono ?_
    rintro e w' ⟨⟨u, rfl⟩, v', hB, hblk, q1, q2, q3, q4, q5⟩
    have hsame : ∀ k, k < w.heap.size → ¬ fp k → w'.heap[k]? = w.heap[k]? := fun k hk hf => by
      have hkb : k ≠ b := fun e => hf ((hfp2 k).2 (.inl e))
      exact (q5 k (by omega) hkb (fun e => hf ((hfp2 k).2 (.inr e)))).trans (e5 k hkb)
    refine ⟨u, fun x => x = b ∨ v'.ownBlock = some x, rfl, trivial, ⟨_, v', hB, fun x => Iff.rfl⟩, fun x hx => ?_, ⟨q1.trans e1, q2.trans e2, q3.trans e3, by omega, hsame⟩⟩
    rcases hx with rfl | hx
    · exact ⟨by omega, .inl ((hfp2 x).2 (.inl rfl))⟩
    · refine ⟨(hB.2.2.1.lt x hx).2, ?_⟩
      rcases hblk x hx with h3 | h3
      · exact .inl ((hfp2 x).2 (.inr h3))
      · exact .inr (by omega)
  rcases hp1 with rfl | rfl
  · have hbk2 : (w.setCell ⟨b, 0, none⟩ (.pointer (some ⟨b, 0, none⟩))).heap[b]? = some (.cells #[.pointer (some ⟨b, 0, none⟩), v] 117 (0, 0)) := by
      simp [World.setCell, Array.getElem?_modify, hbk]
    refine key (w.setCell ⟨b, 0, none⟩ (.pointer (some ⟨b, 0, none⟩))) ⟨.inr rfl, hbk2, ownsRow_same hown (fun g hg => Below.heap_setCell _ _ _ _ (fun e => hne (by rw [hg]; exact congrArg some e))), hne, hl0⟩ rfl rfl rfl (by simp [World.setCell]) (fun k hk => Below.heap_setCell _ _ _ _ hk) ?_
    exact bcheck_fresh b w (by rw [Lib.cell_of_heap hbk]; rfl) (by simp [World.shape?, hbk]) (Lib.frozen_of_heap hbk 0)
  · exact key w ⟨.inr rfl, hbk, hown, hne, hl0⟩ rfl rfl rfl rfl (fun _ _ => rfl) (bcheck_used b w (by rw [Lib.cell_of_heap hbk]; rfl))
theorem freeze_other (w : World) (a : Addr) (n k : Nat) (h : k ≠ a.block) : (w.freeze a n).heap[k]? = w.heap[k]? := by
  unfold World.freeze
  split
  · rfl
  · rw [Array.getElem?_modify, if_neg (fun e => h e.symm)]
set_option maxHeartbeats 2000000 in
set_option maxRecDepth 100000 in
theorem bstring_nil (b : Nat) (p : Value) (w : World) (hbk : w.heap[b]? = some (.cells #[p, .slice none 0 0] 117 (0, 0))) :
    Calls Tryz.prog 90 #[.pointer (some ⟨b, 0, none⟩)] w fun e w' => e = .returned (.string ⟨#[]⟩) ∧ w'.heap = w.heap ∧ w'.os = w.os ∧ w'.tape = w.tape ∧ w'.output = w.output := by
  have hUS : ∀ (W : World) (q : Option Addr), (Builtin.unsafeString_ #[195, 3] 9 #[.pointer q, .int .i64 0]).run Tryz.prog W = .ok (.string .empty) W := fun W q => Lib.run_unsafeString_none W _ _ _ q
  have c1 : w.drew.cell? ⟨b, 1, none⟩ = some (.slice none 0 0) := by
    have : w.drew.heap[b]? = some (.cells #[p, .slice none 0 0] 117 (0, 0)) := hbk
    rw [Lib.cell_of_heap this]; rfl
  have hSD : (Builtin.unsafeSliceData_ #[115] 195 #[.slice none 0 0]).run Tryz.prog w.drew = .ok (.pointer none) w.drew := rfl
  go_enter Tryz.func90, Tryz.ntmps90
  go_wp2
  go_region
  all_goals (go_wp2; go_ret; exact ⟨rfl, rfl, rfl, rfl, rfl⟩)
set_option maxHeartbeats 2000000 in
set_option maxRecDepth 100000 in
theorem bstring_full (b : Nat) (l : List UInt8) (p v : Value) (w : World) (hbk : w.heap[b]? = some (.cells #[p, v] 117 (0, 0))) (hown : w.ownsRow 0 5 1 v l.length (Lib.byteCells l)) (h0 : l ≠ []) :
    Calls Tryz.prog 90 #[.pointer (some ⟨b, 0, none⟩)] w fun e w' => e = .returned (.string ⟨l.toArray⟩) ∧ w'.heap.size = w.heap.size ∧ (∀ k, v.ownBlock ≠ some k → w'.heap[k]? = w.heap[k]?) ∧ w'.os = w.os ∧ w'.tape = w.tape ∧ w'.output = w.output := by
  have hl0 : l.length ≠ 0 := by simpa using h0
  obtain ⟨g, cap, cur, rfl, hbg, hg, hnc, hcm, hcs, htake⟩ : ∃ g cap cur, v = .slice (some ⟨g, 0, none⟩) l.length cap ∧ 0 ≤ g ∧ w.heap[g]? = some (.cells cur 5 (0, 0)) ∧ l.length ≤ cap ∧ cap ≤ maxLen ∧ cur.size = cap * 1 ∧ cur.toList.take (l.length * 1) = Lib.byteCells l := by
    rcases hown.2 with ⟨_, hz⟩ | ⟨g, cap, cur, hv, r⟩
    · exact absurd hz hl0
    · exact ⟨g, cap, cur, hv, r⟩
  have c1 : w.drew.cell? ⟨b, 1, none⟩ = some (.slice (some ⟨g, 0, none⟩) l.length cap) := by
    have : w.drew.heap[b]? = some (.cells #[p, .slice (some ⟨g, 0, none⟩) l.length cap] 117 (0, 0)) := hbk
    rw [Lib.cell_of_heap this]; rfl
  have hSD : (Builtin.unsafeSliceData_ #[115] 195 #[.slice (some ⟨g, 0, none⟩) l.length cap]).run Tryz.prog w.drew = .ok (.pointer (some ⟨g, 0, none⟩)) w.drew :=
    Lib.run_unsafeSliceData_row _ _ _ _ _ _ (by omega)
  have hUS : (Builtin.unsafeString_ #[195, 3] 9 #[.pointer (some ⟨g, 0, none⟩), .int .i64 l.length]).run Tryz.prog w.drew = .ok (.string ⟨l.toArray⟩) (w.drew.freeze ⟨g, 0, none⟩ l.length) := by
    refine Lib.run_unsafeString_row w.drew 195 3 9 5 Tryz.underlying195 cells5 g cur.size (by have hg' : w.drew.heap[g]? = some (.cells cur 5 (0, 0)) := hg; simp [World.shape?, hg']) l h0 (by omega) (by unfold maxLen at hcm; omega) ?_
    intro j x hx
    have := hown.cells (g := g) rfl j (.int .u8 x.toNat) (by simp [Lib.byteCells, hx])
    exact this
  go_enter Tryz.func90, Tryz.ntmps90
  go_wp2
  go_region
  all_goals (go_wp2; go_ret; exact ⟨rfl, by simp [World.freeze, hl0], fun k hk => freeze_other _ _ _ k (fun e => hk (by rw [e]; rfl)), by simp [World.freeze, hl0] <;> rfl, by simp [World.freeze, hl0] <;> rfl, by simp [World.freeze, hl0] <;> rfl⟩)
/-- Behind 'String' nothing more is known of the builder than where it lies. -/
def spentP : OP := fun _ w fp => True
theorem Stab.spent : Stab spentP := fun _ _ _ _ _ _ _ _ => trivial
set_option maxRecDepth 100000 in
theorem holds90 (b : Nat) (l : List UInt8) : HoldsO Tryz.prog zG 90 [.c (.val (.pointer (some ⟨b, 0, none⟩)))] (bldP b l) (some [.c (.str l)]) spentP := by
  refine ⟨fnOk90, Stab.spent, fun okp w vs fp hng hglob hA hp hfp => ?_⟩
  obtain ⟨v1, rfl, h1⟩ : ∃ v1, vs = [v1] ∧ RepA w okp (.c (.val (.pointer (some ⟨b, 0, none⟩)))) v1 := by
    cases hA with
    | cons h1 r => cases r; exact ⟨_, rfl, h1⟩
  obtain rfl : v1 = .pointer (some ⟨b, 0, none⟩) := h1.1
  obtain ⟨p, v, ⟨hp1, hbk, hown, hne, hl0⟩, hfp2⟩ := hp
  have hlm : l.length ≤ maxLen := by
    rcases hown.2 with ⟨_, h⟩ | ⟨g, cap, cur, _, _, _, h1, h2, _⟩ <;> omega
  have fin : ∀ (w' : World), w'.heap.size = w.heap.size → (∀ k, v.ownBlock ≠ some k → w'.heap[k]? = w.heap[k]?) → w'.os = w.os → w'.tape = w.tape → w'.output = w.output → ObjPost zG okp w fp (some [.c (.str l)]) spentP (.returned (.string ⟨l.toArray⟩)) w' := by
    intro w' e1 e2 e3 e4 e5
    exact ⟨_, fp, rfl, ⟨rfl, [_], rfl, .cons ⟨rfl, hlm⟩ .nil⟩, trivial, fun x hx => ⟨by rw [e1]; exact (hfp x hx).1, .inl hx⟩, ⟨e3, e4, e5, by omega, fun k _ hk => e2 k (fun e => hk ((hfp2 k).2 (.inr e)))⟩⟩
  by_cases h0 : l = []
  · subst h0
    obtain rfl := hl0 rfl
    refine (bstring_nil b p w hbk).mono ?_
    rintro e w' ⟨rfl, h2, h3, h4, h5⟩
    exact fin w' (by rw [h2]) (fun k _ => by rw [h2]) h3 h4 h5
  · refine (bstring_full b l p v w hbk hown h0).mono ?_
    rintro e w' ⟨rfl, h2, h3, h4, h5, h6⟩
    exact fin w' h2 h3 h4 h5 h6
end Go.Proofs.Am
set_option maxRecDepth 100000
set_option maxHeartbeats 4000000
namespace Go.Proofs.Am
open Nat (reduceEqDiff reduceAdd reduceMul reduceLeDiff reduceLT reduceSub)
def ixF {α : Type} (p : α → Bool) : Nat → List α → Int
 | _, [] => -1
 | i, x :: r => if p x then i else ixF p (i + 1) r
theorem ixF_none {α : Type} {p : α → Bool} {l : List α} (h : l.any p = false) (i : Nat) : ixF p i l = -1 := by
 induction l generalizing i with
 | nil => rfl
 | cons x r ih => simp at h; simp [ixF, h.1, ih (by simpa using h.2)]
theorem ixF_mid {α : Type} {p : α → Bool} {a b : List α} {y : α} (h : a.any p = false) (hy : p y = true) (i : Nat) : ixF p i (a ++ y :: b) = ((i + a.length : Nat) : Int) := by
 induction a generalizing i with
 | nil => simp [ixF, hy]
 | cons x r ih => simp at h; simp [ixF, h.1, ih (by simpa using h.2)]; omega
theorem ixF_ge {α : Type} (p : α → Bool) (l : List α) (i : Nat) : decide (ixF p i l ≥ 0) = l.any p := by
 induction l generalizing i with
 | nil => rfl
 | cons x r ih =>
  simp only [ixF, List.any_cons]
  split
  ·
   rename_i h; simp [h]
  ·
   rename_i h; simp [h, ih]
theorem prog156 : Tryz.prog.funcs[156]? = some Tryz.f156 := by kernel_rfl
theorem holds156 (F : Nat) (p : Ex → Bool) (l : List Ex) (hF : ∀ y ∈ l, Holds Tryz.prog zG F [.agg [.int .i64 y.kind, .str y.name, .int .i16 y.value, .int .i64 y.op, .sl 6 (encEs y.args), .int .i64 y.pos]] [.c (.bool (p y))]) : Holds Tryz.prog zG 156 [.c (.sl 6 (encEs l)), .c (.fn F)] [.c (.int .i64 (ixF p 0 l))] := by
 refine holds_of_body zT prog156 rfl rfl rfl (by simp [Tryz.f156]) ?_
 refine aw_ops zT fun K1 hK1 => ?_
 refine sg ?_
 refine hK1 _ ?_
 clear hK1
 refine aw_seq fun K2 hK2 => ?_
 refine aw_ops zT fun K3 hK3 => ?_
 refine sg ?_
 intros
 refine hK3 _ ?_
 clear hK3
 refine aw_block ?_
 refine aw_range (α := Ex) (l) (fun dn => dn.any p = false) (fun dn => [(8, .cell (.c (.int .i64 dn.length)))]) (fun dn => []) [] [4, 5, 8, 9, 10, 11, 12, 13, 14, 15, 16, 17, 18] [] rfl ?_ ?_ ?_ ?_
 ·
  simp only [amset, amlib, zset, eq_self, ↓reduceIte, reduceCtorEq, Nat.reduceBEq, reduceEqDiff, reduceAdd, reduceMul, reduceLeDiff, reduceLT, reduceSub] <;> simp [eq_self]
 ·
  simp only [amset, amlib, zset, eq_self, ↓reduceIte, reduceCtorEq, Nat.reduceBEq, reduceEqDiff, reduceAdd, reduceMul, reduceLeDiff, reduceLT, reduceSub] <;> simp [eq_self]
 ·
  intro hI R
  refine aw_nm ?_
  refine aw_ops zT fun K4 hK4 => ?_
  refine sg ?_
  refine hK4 _ ?_
  clear hK4
  refine aw_seq fun K5 hK5 => ?_
  refine aw_cond (t := false) (by simp [evalO, S.get, amLook]) (fun h => nomatch h) (fun _ => ?_)
  refine aw_exit ?_
  simp only [thenQ, blkQ, if_true, reduceIte, Nat.reduceEqDiff, eq_self]
  refine hK2 _ ?_
  clear hK2
  refine aw_ops zT fun K6 hK6 => ?_
  refine sg ?_
  refine hK6 _ ?_
  clear hK6
  refine aw_ret ?_
  show resOf zG _ [.tmp 4] = some _
  simp only [amset, amlib, zset, eq_self, ↓reduceIte, reduceCtorEq, Nat.reduceBEq, reduceEqDiff, reduceAdd, reduceMul, reduceLeDiff, reduceLT, reduceSub]
  rw [ixF_none hI]
 ·
  intro dn y td harg hI R hR
  have hl : (l).length = dn.length + (td.length + 1) := by rw [harg]; simp
  have hmem : y ∈ l := by rw [harg]; simp
  refine aw_nm ?_
  have hget : (encEs (l)).getD dn.length [] = encE y := by rw [harg]; exact encEs_mid dn td y
  refine aw_ops zT fun K7 hK7 => ?_
  refine sg ?_
  refine hK7 _ ?_
  clear hK7
  refine aw_seq fun K8 hK8 => ?_
  refine aw_cond (t := true) (by simp [evalO, S.get, amLook]; omega) (fun _ => ?_) (fun h => nomatch h)
  refine aw_skip ?_
  simp only [thenQ, blkQ, if_true, reduceIte, Nat.reduceEqDiff, eq_self]
  refine hK8 _ ?_
  clear hK8
  refine aw_seq fun K9 hK9 => ?_
  refine aw_block ?_
  refine aw_ops zT fun K10 hK10 => ?_
  refine sg ?_
  refine hK10 _ ?_
  clear hK10
  refine aw_ops zT fun K11 hK11 => ?_
  simp only [amset, amlib, zset, hget, eq_self, ↓reduceIte, reduceCtorEq, Nat.reduceBEq, reduceEqDiff, reduceAdd, reduceMul, reduceLeDiff, reduceLT, reduceSub]
  refine ⟨⟨by omega, by omega⟩, ?_⟩
  refine ⟨_, hF y hmem, ?_⟩
  refine sgl ?_
  refine hK11 _ ?_
  clear hK11
  refine aw_cond rfl (fun h0 => ?_) (fun h0 => ?_)
  ·
   refine aw_ops zT fun K12 hK12 => ?_
   refine sg ?_
   refine hK12 _ ?_
   clear hK12
   refine aw_ret ?_
   show resOf zG _ [.tmp 4] = some _
   simp only [amset, amlib, zset, eq_self, ↓reduceIte, reduceCtorEq, Nat.reduceBEq, reduceEqDiff, reduceAdd, reduceMul, reduceLeDiff, reduceLT, reduceSub]
   rw [harg, ixF_mid hI (by simpa using h0), Nat.zero_add]
  ·
   refine aw_skip ?_
   simp only [thenQ, blkQ, if_true, reduceIte, Nat.reduceEqDiff, eq_self]
   refine hK9 _ ?_
   clear hK9
   refine aw_region zT ?_
   refine sg ?_
   refine ⟨⟨by omega, by omega⟩, ?_⟩
   refine hR _ (by rw [List.any_append, hI]; simpa using h0) ?_
   refine Reach.to ?_ ?_
   ·
    simp only [amset, amlib, zset, eq_self, ↓reduceIte, reduceCtorEq, Nat.reduceBEq, reduceEqDiff, reduceAdd, reduceMul, reduceLeDiff, reduceLT, reduceSub] <;> simp [eq_self]
   ·
    simp only [amset, amlib, zset, eq_self, ↓reduceIte, reduceCtorEq, Nat.reduceBEq, reduceEqDiff, reduceAdd, reduceMul, reduceLeDiff, reduceLT, reduceSub] <;> simp [eq_self]
theorem prog79 : Tryz.prog.funcs[79]? = some Tryz.f79 := by kernel_rfl
theorem holds79 (F : Nat) (p : Ex → Bool) (l : List Ex) (hF : ∀ y ∈ l, Holds Tryz.prog zG F [.agg [.int .i64 y.kind, .str y.name, .int .i16 y.value, .int .i64 y.op, .sl 6 (encEs y.args), .int .i64 y.pos]] [.c (.bool (p y))]) : Holds Tryz.prog zG 79 [.c (.sl 6 (encEs l)), .c (.fn F)] [.c (.bool (l.any p))] := by
 refine holds_of_body zT prog79 rfl rfl rfl (by simp [Tryz.f79]) ?_
 refine aw_ops zT fun K1 hK1 => ?_
 refine sg ?_
 refine hK1 _ ?_
 clear hK1
 refine aw_ops zT fun K2 hK2 => ?_
 refine sg ?_
 refine ⟨_, holds156 F p l hF, ?_⟩
 refine sgl ?_
 refine hK2 _ ?_
 clear hK2
 refine aw_ret ?_
 show resOf zG _ [.tmp 4] = some _
 simp only [amset, amlib, zset, eq_self, ↓reduceIte, reduceCtorEq, Nat.reduceBEq, reduceEqDiff, reduceAdd, reduceMul, reduceLeDiff, reduceLT, reduceSub]
 rw [ixF_ge]
theorem prog234 : Tryz.prog.funcs[234]? = some Tryz.f234 := by kernel_rfl
theorem holds234 (F : Nat) (p : St → Bool) (l : List St) (hF : ∀ y ∈ l, Holds Tryz.prog zG F [.agg [.int .i64 y.kind, .str y.name, .int .i64 y.n, .sl 6 (encEs y.args), .sl 7 (encSs y.body), .sl 7 (encSs y.els), .int .i64 y.pos]] [.c (.bool (p y))]) : Holds Tryz.prog zG 234 [.c (.sl 7 (encSs l)), .c (.fn F)] [.c (.int .i64 (ixF p 0 l))] := by
 refine holds_of_body zT prog234 rfl rfl rfl (by simp [Tryz.f234]) ?_
 refine aw_ops zT fun K1 hK1 => ?_
 refine sg ?_
 refine hK1 _ ?_
 clear hK1
 refine aw_seq fun K2 hK2 => ?_
 refine aw_ops zT fun K3 hK3 => ?_
 refine sg ?_
 intros
 refine hK3 _ ?_
 clear hK3
 refine aw_block ?_
 refine aw_range (α := St) (l) (fun dn => dn.any p = false) (fun dn => [(8, .cell (.c (.int .i64 dn.length)))]) (fun dn => []) [] [4, 5, 8, 9, 10, 11, 12, 13, 14, 15, 16, 17, 18] [] rfl ?_ ?_ ?_ ?_
 ·
  simp only [amset, amlib, zset, eq_self, ↓reduceIte, reduceCtorEq, Nat.reduceBEq, reduceEqDiff, reduceAdd, reduceMul, reduceLeDiff, reduceLT, reduceSub] <;> simp [eq_self]
 ·
  simp only [amset, amlib, zset, eq_self, ↓reduceIte, reduceCtorEq, Nat.reduceBEq, reduceEqDiff, reduceAdd, reduceMul, reduceLeDiff, reduceLT, reduceSub] <;> simp [eq_self]
 ·
  intro hI R
  refine aw_nm ?_
  refine aw_ops zT fun K4 hK4 => ?_
  refine sg ?_
  refine hK4 _ ?_
  clear hK4
  refine aw_seq fun K5 hK5 => ?_
  refine aw_cond (t := false) (by simp [evalO, S.get, amLook]) (fun h => nomatch h) (fun _ => ?_)
  refine aw_exit ?_
  simp only [thenQ, blkQ, if_true, reduceIte, Nat.reduceEqDiff, eq_self]
  refine hK2 _ ?_
  clear hK2
  refine aw_ops zT fun K6 hK6 => ?_
  refine sg ?_
  refine hK6 _ ?_
  clear hK6
  refine aw_ret ?_
  show resOf zG _ [.tmp 4] = some _
  simp only [amset, amlib, zset, eq_self, ↓reduceIte, reduceCtorEq, Nat.reduceBEq, reduceEqDiff, reduceAdd, reduceMul, reduceLeDiff, reduceLT, reduceSub]
  rw [ixF_none hI]
 ·
  intro dn y td harg hI R hR
  have hl : (l).length = dn.length + (td.length + 1) := by rw [harg]; simp
  have hmem : y ∈ l := by rw [harg]; simp
  refine aw_nm ?_
  have hget : (encSs (l)).getD dn.length [] = encS y := by rw [harg]; exact encSs_mid dn td y
  refine aw_ops zT fun K7 hK7 => ?_
  refine sg ?_
  refine hK7 _ ?_
  clear hK7
  refine aw_seq fun K8 hK8 => ?_
  refine aw_cond (t := true) (by simp [evalO, S.get, amLook]; omega) (fun _ => ?_) (fun h => nomatch h)
  refine aw_skip ?_
  simp only [thenQ, blkQ, if_true, reduceIte, Nat.reduceEqDiff, eq_self]
  refine hK8 _ ?_
  clear hK8
  refine aw_seq fun K9 hK9 => ?_
  refine aw_block ?_
  refine aw_ops zT fun K10 hK10 => ?_
  refine sg ?_
  refine hK10 _ ?_
  clear hK10
  refine aw_ops zT fun K11 hK11 => ?_
  simp only [amset, amlib, zset, hget, eq_self, ↓reduceIte, reduceCtorEq, Nat.reduceBEq, reduceEqDiff, reduceAdd, reduceMul, reduceLeDiff, reduceLT, reduceSub]
  refine ⟨⟨by omega, by omega⟩, ?_⟩
  refine ⟨_, hF y hmem, ?_⟩
  refine sgl ?_
  refine hK11 _ ?_
  clear hK11
  refine aw_cond rfl (fun h0 => ?_) (fun h0 => ?_)
  ·
   refine aw_ops zT fun K12 hK12 => ?_
   refine sg ?_
   refine hK12 _ ?_
   clear hK12
   refine aw_ret ?_
   show resOf zG _ [.tmp 4] = some _
   simp only [amset, amlib, zset, eq_self, ↓reduceIte, reduceCtorEq, Nat.reduceBEq, reduceEqDiff, reduceAdd, reduceMul, reduceLeDiff, reduceLT, reduceSub]
   rw [harg, ixF_mid hI (by simpa using h0), Nat.zero_add]
  ·
   refine aw_skip ?_
   simp only [thenQ, blkQ, if_true, reduceIte, Nat.reduceEqDiff, eq_self]
   refine hK9 _ ?_
   clear hK9
   refine aw_region zT ?_
   refine sg ?_
   refine ⟨⟨by omega, by omega⟩, ?_⟩
   refine hR _ (by rw [List.any_append, hI]; simpa using h0) ?_
   refine Reach.to ?_ ?_
   ·
    simp only [amset, amlib, zset, eq_self, ↓reduceIte, reduceCtorEq, Nat.reduceBEq, reduceEqDiff, reduceAdd, reduceMul, reduceLeDiff, reduceLT, reduceSub] <;> simp [eq_self]
   ·
    simp only [amset, amlib, zset, eq_self, ↓reduceIte, reduceCtorEq, Nat.reduceBEq, reduceEqDiff, reduceAdd, reduceMul, reduceLeDiff, reduceLT, reduceSub] <;> simp [eq_self]
theorem prog207 : Tryz.prog.funcs[207]? = some Tryz.f207 := by kernel_rfl
theorem holds207 (F : Nat) (p : St → Bool) (l : List St) (hF : ∀ y ∈ l, Holds Tryz.prog zG F [.agg [.int .i64 y.kind, .str y.name, .int .i64 y.n, .sl 6 (encEs y.args), .sl 7 (encSs y.body), .sl 7 (encSs y.els), .int .i64 y.pos]] [.c (.bool (p y))]) : Holds Tryz.prog zG 207 [.c (.sl 7 (encSs l)), .c (.fn F)] [.c (.bool (l.any p))] := by
 refine holds_of_body zT prog207 rfl rfl rfl (by simp [Tryz.f207]) ?_
 refine aw_ops zT fun K1 hK1 => ?_
 refine sg ?_
 refine hK1 _ ?_
 clear hK1
 refine aw_ops zT fun K2 hK2 => ?_
 refine sg ?_
 refine ⟨_, holds234 F p l hF, ?_⟩
 refine sgl ?_
 refine hK2 _ ?_
 clear hK2
 refine aw_ret ?_
 show resOf zG _ [.tmp 4] = some _
 simp only [amset, amlib, zset, eq_self, ↓reduceIte, reduceCtorEq, Nat.reduceBEq, reduceEqDiff, reduceAdd, reduceMul, reduceLeDiff, reduceLT, reduceSub]
 rw [ixF_ge]
theorem prog173 : Tryz.prog.funcs[173]? = some Tryz.f173 := by kernel_rfl
theorem holds173 (F : Nat) (p : Tk → Bool) (l : List Tk) (hF : ∀ y ∈ l, Holds Tryz.prog zG F [.agg [.str y.name, .int .i64 y.period, .int .i64 y.deadline, .str y.channel, .str y.param, .int .i64 y.within, .sl 7 (encSs y.body), .int .i64 y.pos]] [.c (.bool (p y))]) : Holds Tryz.prog zG 173 [.c (.sl 8 (encTs l)), .c (.fn F)] [.c (.int .i64 (ixF p 0 l))] := by
 refine holds_of_body zT prog173 rfl rfl rfl (by simp [Tryz.f173]) ?_
 refine aw_ops zT fun K1 hK1 => ?_
 refine sg ?_
 refine hK1 _ ?_
 clear hK1
 refine aw_seq fun K2 hK2 => ?_
 refine aw_ops zT fun K3 hK3 => ?_
 refine sg ?_
 intros
 refine hK3 _ ?_
 clear hK3
 refine aw_block ?_
 refine aw_range (α := Tk) (l) (fun dn => dn.any p = false) (fun dn => [(8, .cell (.c (.int .i64 dn.length)))]) (fun dn => []) [] [4, 5, 8, 9, 10, 11, 12, 13, 14, 15, 16, 17, 18] [] rfl ?_ ?_ ?_ ?_
 ·
  simp only [amset, amlib, zset, eq_self, ↓reduceIte, reduceCtorEq, Nat.reduceBEq, reduceEqDiff, reduceAdd, reduceMul, reduceLeDiff, reduceLT, reduceSub] <;> simp [eq_self]
 ·
  simp only [amset, amlib, zset, eq_self, ↓reduceIte, reduceCtorEq, Nat.reduceBEq, reduceEqDiff, reduceAdd, reduceMul, reduceLeDiff, reduceLT, reduceSub] <;> simp [eq_self]
 ·
  intro hI R
  refine aw_nm ?_
  refine aw_ops zT fun K4 hK4 => ?_
  refine sg ?_
  refine hK4 _ ?_
  clear hK4
  refine aw_seq fun K5 hK5 => ?_
  refine aw_cond (t := false) (by simp [evalO, S.get, amLook]) (fun h => nomatch h) (fun _ => ?_)
  refine aw_exit ?_
  simp only [thenQ, blkQ, if_true, reduceIte, Nat.reduceEqDiff, eq_self]
  refine hK2 _ ?_
  clear hK2
  refine aw_ops zT fun K6 hK6 => ?_
  refine sg ?_
  refine hK6 _ ?_
  clear hK6
  refine aw_ret ?_
  show resOf zG _ [.tmp 4] = some _
  simp only [amset, amlib, zset, eq_self, ↓reduceIte, reduceCtorEq, Nat.reduceBEq, reduceEqDiff, reduceAdd, reduceMul, reduceLeDiff, reduceLT, reduceSub]
  rw [ixF_none hI]
 ·
  intro dn y td harg hI R hR
  have hl : (l).length = dn.length + (td.length + 1) := by rw [harg]; simp
  have hmem : y ∈ l := by rw [harg]; simp
  refine aw_nm ?_
  have hget : (encTs (l)).getD dn.length [] = encT y := by rw [harg]; exact encTs_mid dn td y
  refine aw_ops zT fun K7 hK7 => ?_
  refine sg ?_
  refine hK7 _ ?_
  clear hK7
  refine aw_seq fun K8 hK8 => ?_
  refine aw_cond (t := true) (by simp [evalO, S.get, amLook]; omega) (fun _ => ?_) (fun h => nomatch h)
  refine aw_skip ?_
  simp only [thenQ, blkQ, if_true, reduceIte, Nat.reduceEqDiff, eq_self]
  refine hK8 _ ?_
  clear hK8
  refine aw_seq fun K9 hK9 => ?_
  refine aw_block ?_
  refine aw_ops zT fun K10 hK10 => ?_
  refine sg ?_
  refine hK10 _ ?_
  clear hK10
  refine aw_ops zT fun K11 hK11 => ?_
  simp only [amset, amlib, zset, hget, eq_self, ↓reduceIte, reduceCtorEq, Nat.reduceBEq, reduceEqDiff, reduceAdd, reduceMul, reduceLeDiff, reduceLT, reduceSub]
  refine ⟨⟨by omega, by omega⟩, ?_⟩
  refine ⟨_, hF y hmem, ?_⟩
  refine sgl ?_
  refine hK11 _ ?_
  clear hK11
  refine aw_cond rfl (fun h0 => ?_) (fun h0 => ?_)
  ·
   refine aw_ops zT fun K12 hK12 => ?_
   refine sg ?_
   refine hK12 _ ?_
   clear hK12
   refine aw_ret ?_
   show resOf zG _ [.tmp 4] = some _
   simp only [amset, amlib, zset, eq_self, ↓reduceIte, reduceCtorEq, Nat.reduceBEq, reduceEqDiff, reduceAdd, reduceMul, reduceLeDiff, reduceLT, reduceSub]
   rw [harg, ixF_mid hI (by simpa using h0), Nat.zero_add]
  ·
   refine aw_skip ?_
   simp only [thenQ, blkQ, if_true, reduceIte, Nat.reduceEqDiff, eq_self]
   refine hK9 _ ?_
   clear hK9
   refine aw_region zT ?_
   refine sg ?_
   refine ⟨⟨by omega, by omega⟩, ?_⟩
   refine hR _ (by rw [List.any_append, hI]; simpa using h0) ?_
   refine Reach.to ?_ ?_
   ·
    simp only [amset, amlib, zset, eq_self, ↓reduceIte, reduceCtorEq, Nat.reduceBEq, reduceEqDiff, reduceAdd, reduceMul, reduceLeDiff, reduceLT, reduceSub] <;> simp [eq_self]
   ·
    simp only [amset, amlib, zset, eq_self, ↓reduceIte, reduceCtorEq, Nat.reduceBEq, reduceEqDiff, reduceAdd, reduceMul, reduceLeDiff, reduceLT, reduceSub] <;> simp [eq_self]
theorem prog100 : Tryz.prog.funcs[100]? = some Tryz.f100 := by kernel_rfl
theorem holds100 (F : Nat) (p : Tk → Bool) (l : List Tk) (hF : ∀ y ∈ l, Holds Tryz.prog zG F [.agg [.str y.name, .int .i64 y.period, .int .i64 y.deadline, .str y.channel, .str y.param, .int .i64 y.within, .sl 7 (encSs y.body), .int .i64 y.pos]] [.c (.bool (p y))]) : Holds Tryz.prog zG 100 [.c (.sl 8 (encTs l)), .c (.fn F)] [.c (.bool (l.any p))] := by
 refine holds_of_body zT prog100 rfl rfl rfl (by simp [Tryz.f100]) ?_
 refine aw_ops zT fun K1 hK1 => ?_
 refine sg ?_
 refine hK1 _ ?_
 clear hK1
 refine aw_ops zT fun K2 hK2 => ?_
 refine sg ?_
 refine ⟨_, holds173 F p l hF, ?_⟩
 refine sgl ?_
 refine hK2 _ ?_
 clear hK2
 refine aw_ret ?_
 show resOf zG _ [.tmp 4] = some _
 simp only [amset, amlib, zset, eq_self, ↓reduceIte, reduceCtorEq, Nat.reduceBEq, reduceEqDiff, reduceAdd, reduceMul, reduceLeDiff, reduceLT, reduceSub]
 rw [ixF_ge]
theorem prog205 : Tryz.prog.funcs[205]? = some Tryz.f205 := by kernel_rfl
theorem holds205 (q : List UInt8) (l : List (List UInt8)) : Holds Tryz.prog zG 205 [.c (.sl 1 (encStrs l)), .c (.str q)] [.c (.int .i64 (ixF (fun k => q == k) 0 l))] := by
 refine holds_of_body zT prog205 rfl rfl rfl (by simp [Tryz.f205]) ?_
 refine aw_ops zT fun K1 hK1 => ?_
 refine sg ?_
 refine hK1 _ ?_
 clear hK1
 refine aw_seq fun K2 hK2 => ?_
 refine aw_ops zT fun K3 hK3 => ?_
 refine sg ?_
 intros
 refine hK3 _ ?_
 clear hK3
 refine aw_block ?_
 refine aw_range (α := (List UInt8)) (l) (fun dn => dn.any (fun k => q == k) = false) (fun dn => [(8, .cell (.c (.int .i64 dn.length)))]) (fun dn => []) [] [4, 5, 8, 9, 10, 11, 12, 13, 14, 15, 16, 17, 18] [] rfl ?_ ?_ ?_ ?_
 ·
  simp only [amset, amlib, zset, eq_self, ↓reduceIte, reduceCtorEq, Nat.reduceBEq, reduceEqDiff, reduceAdd, reduceMul, reduceLeDiff, reduceLT, reduceSub] <;> simp [eq_self]
 ·
  simp only [amset, amlib, zset, eq_self, ↓reduceIte, reduceCtorEq, Nat.reduceBEq, reduceEqDiff, reduceAdd, reduceMul, reduceLeDiff, reduceLT, reduceSub] <;> simp [eq_self]
 ·
  intro hI R
  refine aw_nm ?_
  refine aw_ops zT fun K4 hK4 => ?_
  refine sg ?_
  refine hK4 _ ?_
  clear hK4
  refine aw_seq fun K5 hK5 => ?_
  refine aw_cond (t := false) (by simp [evalO, S.get, amLook]) (fun h => nomatch h) (fun _ => ?_)
  refine aw_exit ?_
  simp only [thenQ, blkQ, if_true, reduceIte, Nat.reduceEqDiff, eq_self]
  refine hK2 _ ?_
  clear hK2
  refine aw_ops zT fun K6 hK6 => ?_
  refine sg ?_
  refine hK6 _ ?_
  clear hK6
  refine aw_ret ?_
  show resOf zG _ [.tmp 4] = some _
  simp only [amset, amlib, zset, eq_self, ↓reduceIte, reduceCtorEq, Nat.reduceBEq, reduceEqDiff, reduceAdd, reduceMul, reduceLeDiff, reduceLT, reduceSub]
  rw [ixF_none hI]
 ·
  intro dn y td harg hI R hR
  have hl : (l).length = dn.length + (td.length + 1) := by rw [harg]; simp
  have hmem : y ∈ l := by rw [harg]; simp
  refine aw_nm ?_
  have hget : (encStrs (l)).getD dn.length [] = encStr y := by rw [harg]; exact encStrs_mid dn td y
  refine aw_ops zT fun K7 hK7 => ?_
  refine sg ?_
  refine hK7 _ ?_
  clear hK7
  refine aw_seq fun K8 hK8 => ?_
  refine aw_cond (t := true) (by simp [evalO, S.get, amLook]; omega) (fun _ => ?_) (fun h => nomatch h)
  refine aw_skip ?_
  simp only [thenQ, blkQ, if_true, reduceIte, Nat.reduceEqDiff, eq_self]
  refine hK8 _ ?_
  clear hK8
  refine aw_seq fun K9 hK9 => ?_
  refine aw_block ?_
  refine aw_ops zT fun K10 hK10 => ?_
  refine sg ?_
  refine hK10 _ ?_
  clear hK10
  refine aw_ops zT fun K11 hK11 => ?_
  simp only [amset, amlib, zset, hget, eq_self, ↓reduceIte, reduceCtorEq, Nat.reduceBEq, reduceEqDiff, reduceAdd, reduceMul, reduceLeDiff, reduceLT, reduceSub]
  refine ⟨⟨by omega, by omega⟩, ?_⟩
  refine hK11 _ ?_
  clear hK11
  refine aw_cond rfl (fun h0 => ?_) (fun h0 => ?_)
  ·
   refine aw_ops zT fun K12 hK12 => ?_
   refine sg ?_
   refine hK12 _ ?_
   clear hK12
   refine aw_ret ?_
   show resOf zG _ [.tmp 4] = some _
   simp only [amset, amlib, zset, eq_self, ↓reduceIte, reduceCtorEq, Nat.reduceBEq, reduceEqDiff, reduceAdd, reduceMul, reduceLeDiff, reduceLT, reduceSub]
   rw [harg, ixF_mid hI h0, Nat.zero_add]
  ·
   refine aw_skip ?_
   simp only [thenQ, blkQ, if_true, reduceIte, Nat.reduceEqDiff, eq_self]
   refine hK9 _ ?_
   clear hK9
   refine aw_region zT ?_
   refine sg ?_
   refine ⟨⟨by omega, by omega⟩, ?_⟩
   refine hR _ (by rw [List.any_append, hI]; simpa using h0) ?_
   refine Reach.to ?_ ?_
   ·
    simp only [amset, amlib, zset, eq_self, ↓reduceIte, reduceCtorEq, Nat.reduceBEq, reduceEqDiff, reduceAdd, reduceMul, reduceLeDiff, reduceLT, reduceSub] <;> simp [eq_self]
   ·
    simp only [amset, amlib, zset, eq_self, ↓reduceIte, reduceCtorEq, Nat.reduceBEq, reduceEqDiff, reduceAdd, reduceMul, reduceLeDiff, reduceLT, reduceSub] <;> simp [eq_self]
theorem prog170 : Tryz.prog.funcs[170]? = some Tryz.f170 := by kernel_rfl
theorem holds170 (q : List UInt8) (l : List (List UInt8)) : Holds Tryz.prog zG 170 [.c (.sl 1 (encStrs l)), .c (.str q)] [.c (.bool (l.any fun k => q == k))] := by
 refine holds_of_body zT prog170 rfl rfl rfl (by simp [Tryz.f170]) ?_
 refine aw_ops zT fun K1 hK1 => ?_
 refine sg ?_
 refine hK1 _ ?_
 clear hK1
 refine aw_ops zT fun K2 hK2 => ?_
 refine sg ?_
 refine ⟨_, holds205 q l, ?_⟩
 refine sgl ?_
 refine hK2 _ ?_
 clear hK2
 refine aw_ret ?_
 show resOf zG _ [.tmp 4] = some _
 simp only [amset, amlib, zset, eq_self, ↓reduceIte, reduceCtorEq, Nat.reduceBEq, reduceEqDiff, reduceAdd, reduceMul, reduceLeDiff, reduceLT, reduceSub]
 rw [ixF_ge]
end Go.Proofs.Am
set_option maxRecDepth 100000
set_option maxHeartbeats 4000000
namespace Go.Proofs.Am
open Nat (reduceEqDiff reduceAdd reduceMul reduceLeDiff reduceLT reduceSub)
theorem len_ge (s : List UInt8) : decide ((s.length : Int) ≥ 1) = !(s == []) := by
 cases s with
 | nil => rfl
 | cons x r => simp; omega
theorem ident_eq (s : List UInt8) : ident s = (bytesOk 0 s && !(s == []) && decide ((s.length : Int) ≤ 32) && !(kws.any fun k => s == k)) := by
 have h : ∀ l : List (List UInt8), (!(l.any fun k => s == k)) = l.all (fun k => !(s == k)) := by
  intro l
  induction l with
  | nil => rfl
  | cons x r ih => rw [List.any_cons, List.all_cons, Bool.not_or, ih]
 rw [h, ident, len_ge]
 cases kws.all (fun k => !(s == k)) <;> cases bytesOk 0 s <;> cases (s == []) <;> cases decide ((s.length : Int) ≤ 32) <;> rfl
theorem prog171 : Tryz.prog.funcs[171]? = some Tryz.f171 := by kernel_rfl
theorem holds171  : Holds Tryz.prog zG 171 [] [.c (.sl 1 (encStrs kws))] := by
 refine holds_of_body zT prog171 rfl rfl rfl (by simp [Tryz.f171]) ?_
 refine aw_ops zT fun K1 hK1 => ?_
 refine sg ?_
 refine hK1 _ ?_
 clear hK1
 refine aw_ops zT fun K2 hK2 => ?_
 refine sg ?_
 refine ⟨_, holds206, ?_⟩
 refine sgl ?_
 refine hK2 _ ?_
 clear hK2
 refine aw_ret ?_
 show resOf zG _ [.tmp 0] = some _
 simp only [amset, amlib, zset, eq_self, ↓reduceIte, reduceCtorEq, Nat.reduceBEq, reduceEqDiff, reduceAdd, reduceMul, reduceLeDiff, reduceLT, reduceSub]
theorem prog96 : Tryz.prog.funcs[96]? = some Tryz.f96 := by kernel_rfl
theorem holds96 (s : List UInt8) : Holds Tryz.prog zG 96 [.c (.str s)] [.c (.bool (ident s))] := by
 refine holds_of_body zT prog96 rfl rfl rfl (by simp [Tryz.f96]) ?_
 refine aw_ops zT fun K1 hK1 => ?_
 refine sg ?_
 refine hK1 _ ?_
 clear hK1
 refine aw_seq fun K2 hK2 => ?_
 refine aw_ops zT fun K3 hK3 => ?_
 refine sg ?_
 intros
 refine hK3 _ ?_
 clear hK3
 refine aw_block ?_
 refine aw_to ⟨[(0, .cell (.c (.str s))), (7, .cell (.c (.int .i64 s.length))), (8, .cell (.c (.int .i64 0)))], []⟩ ?_ ?_ ?_
 ·
  simp only [amset, amlib, zset, eq_self, ↓reduceIte, reduceCtorEq, Nat.reduceBEq, reduceEqDiff, reduceAdd, reduceMul, reduceLeDiff, reduceLT, reduceSub] <;> simp [eq_self]
 ·
  simp only [amset, amlib, zset, eq_self, ↓reduceIte, reduceCtorEq, Nat.reduceBEq, reduceEqDiff, reduceAdd, reduceMul, reduceLeDiff, reduceLT, reduceSub] <;> simp [eq_self]
 refine aw_range (α := UInt8) (s) (fun dn => bytesOk 0 dn = true) (fun dn => [(8, .cell (.c (.int .i64 dn.length)))]) (fun dn => []) [] [2, 3, 4, 5, 8, 9, 10, 11, 12, 13, 14, 15, 16, 17, 18, 19, 20, 21, 22, 23, 24, 25, 26, 27, 28, 29, 30, 31, 32, 33, 34, 35, 36, 37, 38, 39, 40, 41, 42, 43, 44, 45, 46] [] rfl ?_ ?_ ?_ ?_
 ·
  simp only [amset, amlib, zset, eq_self, ↓reduceIte, reduceCtorEq, Nat.reduceBEq, reduceEqDiff, reduceAdd, reduceMul, reduceLeDiff, reduceLT, reduceSub] <;> simp [eq_self]
 ·
  simp only [amset, amlib, zset, eq_self, ↓reduceIte, reduceCtorEq, Nat.reduceBEq, reduceEqDiff, reduceAdd, reduceMul, reduceLeDiff, reduceLT, reduceSub] <;> simp [eq_self]
 ·
  intro hI R
  refine aw_nm ?_
  refine aw_ops zT fun K4 hK4 => ?_
  refine sg ?_
  refine hK4 _ ?_
  clear hK4
  refine aw_seq fun K5 hK5 => ?_
  refine aw_cond (t := false) (by simp [evalO, S.get, amLook]) (fun h => nomatch h) (fun _ => ?_)
  refine aw_exit ?_
  simp only [thenQ, blkQ, if_true, reduceIte, Nat.reduceEqDiff, eq_self]
  refine hK2 _ ?_
  clear hK2
  refine aw_ops zT fun K6 hK6 => ?_
  cases f1 : (!(s == [])) with
  | true =>
   cases f2 : decide ((s.length : Int) ≤ 32) with
   | true =>
    simp only [amset, amlib, zset, f1, f2, eq_self, ↓reduceIte, reduceCtorEq, Nat.reduceBEq, reduceEqDiff, reduceAdd, reduceMul, reduceLeDiff, reduceLT, reduceSub]
    intros
    refine ⟨_, holds171, ?_⟩
    simp only [later]
    simp only [amset, amlib, zset, f1, f2, eq_self, ↓reduceIte, reduceCtorEq, Nat.reduceBEq, reduceEqDiff, reduceAdd, reduceMul, reduceLeDiff, reduceLT, reduceSub]
    refine ⟨_, holds170 s kws, ?_⟩
    simp only [later]
    simp only [amset, amlib, zset, f1, f2, eq_self, ↓reduceIte, reduceCtorEq, Nat.reduceBEq, reduceEqDiff, reduceAdd, reduceMul, reduceLeDiff, reduceLT, reduceSub]
    refine hK6 _ ?_
    clear hK6
    refine aw_ret ?_
    show resOf zG _ [.tmp 2] = some _
    simp only [amset, amlib, zset, eq_self, ↓reduceIte, reduceCtorEq, Nat.reduceBEq, reduceEqDiff, reduceAdd, reduceMul, reduceLeDiff, reduceLT, reduceSub]
    simp only [ident_eq, hI, f1, f2, bools, ↓reduceIte]
   | false =>
    simp only [amset, amlib, zset, f1, f2, eq_self, ↓reduceIte, reduceCtorEq, Nat.reduceBEq, reduceEqDiff, reduceAdd, reduceMul, reduceLeDiff, reduceLT, reduceSub]
    intros
    refine hK6 _ ?_
    clear hK6
    refine aw_ret ?_
    show resOf zG _ [.tmp 2] = some _
    simp only [amset, amlib, zset, eq_self, ↓reduceIte, reduceCtorEq, Nat.reduceBEq, reduceEqDiff, reduceAdd, reduceMul, reduceLeDiff, reduceLT, reduceSub]
    simp only [ident_eq, hI, f1, f2, bools, ↓reduceIte]
  | false =>
   simp only [amset, amlib, zset, f1, eq_self, ↓reduceIte, reduceCtorEq, Nat.reduceBEq, reduceEqDiff, reduceAdd, reduceMul, reduceLeDiff, reduceLT, reduceSub]
   refine hK6 _ ?_
   clear hK6
   refine aw_ret ?_
   show resOf zG _ [.tmp 2] = some _
   simp only [amset, amlib, zset, eq_self, ↓reduceIte, reduceCtorEq, Nat.reduceBEq, reduceEqDiff, reduceAdd, reduceMul, reduceLeDiff, reduceLT, reduceSub]
   simp only [ident_eq, hI, f1, bools, ↓reduceIte]
 ·
  intro dn y td harg hI R hR
  have hl : (s).length = dn.length + (td.length + 1) := by rw [harg]; simp
  have hmem : y ∈ s := by rw [harg]; simp
  refine aw_nm ?_
  have hget : s.getD dn.length 0 = y := by rw [harg]; simp
  refine aw_ops zT fun K7 hK7 => ?_
  refine sg ?_
  refine hK7 _ ?_
  clear hK7
  refine aw_seq fun K8 hK8 => ?_
  refine aw_cond (t := true) (by simp [evalO, S.get, amLook]; omega) (fun _ => ?_) (fun h => nomatch h)
  refine aw_skip ?_
  simp only [thenQ, blkQ, if_true, reduceIte, Nat.reduceEqDiff, eq_self]
  refine hK8 _ ?_
  clear hK8
  refine aw_seq fun K9 hK9 => ?_
  refine aw_block ?_
  refine aw_ops zT fun K10 hK10 => ?_
  refine sg ?_
  refine hK10 _ ?_
  clear hK10
  refine aw_ops zT fun K11 hK11 => ?_
  simp only [amset, amlib, zset, hget, eq_self, ↓reduceIte, reduceCtorEq, Nat.reduceBEq, reduceEqDiff, reduceAdd, reduceMul, reduceLeDiff, reduceLT, reduceSub]
  refine ⟨⟨by omega, by omega⟩, ?_⟩
  refine hK11 _ ?_
  clear hK11
  refine aw_ops zT fun K12 hK12 => ?_
  have keyK12 : ∀ E B, envIn E ([(0, .cell (.c (.str s))), (7, .cell (.c (.int .i64 s.length))), (8, .cell (.c (.int .i64 dn.length))), (3, .cell (.c (.int .i64 dn.length))), (4, .cell (.c (.int .u8 y.toNat))), (5, .cell (.c (.bool (isLetter y))))] : List (Nat × V)) → envIn B ([] : List (Nat × List Cell)) → K12 ⟨E, B⟩ := by
   intro E B he hb
   refine hK12 _ (aw_to ⟨[(0, .cell (.c (.str s))), (7, .cell (.c (.int .i64 s.length))), (8, .cell (.c (.int .i64 dn.length))), (3, .cell (.c (.int .i64 dn.length))), (4, .cell (.c (.int .u8 y.toNat))), (5, .cell (.c (.bool (isLetter y))))], []⟩ he hb ?_)
   refine aw_ops zT fun K13 hK13 => ?_
   cases l : isLetter y with
   | true =>
    simp only [amset, amlib, zset, l, eq_self, ↓reduceIte, reduceCtorEq, Nat.reduceBEq, reduceEqDiff, reduceAdd, reduceMul, reduceLeDiff, reduceLT, reduceSub]
    refine hK13 _ ?_
    clear hK13
    refine aw_cond (t := false) rfl (fun h => nomatch h) (fun _ => ?_)
    refine aw_skip ?_
    simp only [thenQ, blkQ, if_true, reduceIte, Nat.reduceEqDiff, eq_self]
    refine hK9 _ ?_
    clear hK9
    refine aw_region zT ?_
    refine sg ?_
    refine ⟨⟨by omega, by omega⟩, ?_⟩
    refine hR _ (by rw [bytesOk_append, hI]; simp only [bytesOk, okB, Nat.zero_add]; simp only [l]; rfl) ?_
    refine Reach.to ?_ ?_
    ·
     simp only [amset, amlib, zset, eq_self, ↓reduceIte, reduceCtorEq, Nat.reduceBEq, reduceEqDiff, reduceAdd, reduceMul, reduceLeDiff, reduceLT, reduceSub] <;> simp [eq_self]
    ·
     simp only [amset, amlib, zset, eq_self, ↓reduceIte, reduceCtorEq, Nat.reduceBEq, reduceEqDiff, reduceAdd, reduceMul, reduceLeDiff, reduceLT, reduceSub] <;> simp [eq_self]
   | false =>
    cases e1 : ((dn.length : Int) == 0) with
    | true =>
     simp only [amset, amlib, zset, l, e1, eq_self, ↓reduceIte, reduceCtorEq, Nat.reduceBEq, reduceEqDiff, reduceAdd, reduceMul, reduceLeDiff, reduceLT, reduceSub]
     refine hK13 _ ?_
     clear hK13
     refine aw_cond (t := true) rfl (fun _ => ?_) (fun h => nomatch h)
     refine aw_ops zT fun K14 hK14 => ?_
     refine sg ?_
     refine hK14 _ ?_
     clear hK14
     refine aw_ret ?_
     show resOf zG _ [.tmp 2] = some _
     refine sg ?_
     have hb : bytesOk 0 s = false := by
      rw [harg, bytesOk_append]
      simp only [bytesOk, okB, Nat.zero_add, l, e1]
      simp
     simp [ident, hb]
    | false =>
     cases e2 : decide ((y.toNat : Int) < 48) with
     | true =>
      simp only [amset, amlib, zset, l, e1, e2, eq_self, ↓reduceIte, reduceCtorEq, Nat.reduceBEq, reduceEqDiff, reduceAdd, reduceMul, reduceLeDiff, reduceLT, reduceSub]
      refine hK13 _ ?_
      clear hK13
      refine aw_cond (t := true) rfl (fun _ => ?_) (fun h => nomatch h)
      refine aw_ops zT fun K15 hK15 => ?_
      refine sg ?_
      refine hK15 _ ?_
      clear hK15
      refine aw_ret ?_
      show resOf zG _ [.tmp 2] = some _
      refine sg ?_
      have hb : bytesOk 0 s = false := by
       rw [harg, bytesOk_append]
       simp only [bytesOk, okB, Nat.zero_add, l, e1, e2]
       simp
      simp [ident, hb]
     | false =>
      cases e3 : decide ((y.toNat : Int) > 57) with
      | true =>
       simp only [amset, amlib, zset, l, e1, e2, e3, eq_self, ↓reduceIte, reduceCtorEq, Nat.reduceBEq, reduceEqDiff, reduceAdd, reduceMul, reduceLeDiff, reduceLT, reduceSub]
       refine hK13 _ ?_
       clear hK13
       refine aw_cond (t := true) rfl (fun _ => ?_) (fun h => nomatch h)
       refine aw_ops zT fun K16 hK16 => ?_
       refine sg ?_
       refine hK16 _ ?_
       clear hK16
       refine aw_ret ?_
       show resOf zG _ [.tmp 2] = some _
       refine sg ?_
       have hb : bytesOk 0 s = false := by
        rw [harg, bytesOk_append]
        simp only [bytesOk, okB, Nat.zero_add, l, e1, e2, e3]
        simp
       simp [ident, hb]
      | false =>
       simp only [amset, amlib, zset, l, e1, e2, e3, eq_self, ↓reduceIte, reduceCtorEq, Nat.reduceBEq, reduceEqDiff, reduceAdd, reduceMul, reduceLeDiff, reduceLT, reduceSub]
       refine hK13 _ ?_
       clear hK13
       refine aw_cond (t := false) rfl (fun h => nomatch h) (fun _ => ?_)
       refine aw_skip ?_
       simp only [thenQ, blkQ, if_true, reduceIte, Nat.reduceEqDiff, eq_self]
       refine hK9 _ ?_
       clear hK9
       refine aw_region zT ?_
       refine sg ?_
       refine ⟨⟨by omega, by omega⟩, ?_⟩
       refine hR _ (by rw [bytesOk_append, hI]; simp only [bytesOk, okB, Nat.zero_add]; simp only [l, e1, e2, e3]; rfl) ?_
       refine Reach.to ?_ ?_
       ·
        simp only [amset, amlib, zset, eq_self, ↓reduceIte, reduceCtorEq, Nat.reduceBEq, reduceEqDiff, reduceAdd, reduceMul, reduceLeDiff, reduceLT, reduceSub] <;> simp [eq_self]
       ·
        simp only [amset, amlib, zset, eq_self, ↓reduceIte, reduceCtorEq, Nat.reduceBEq, reduceEqDiff, reduceAdd, reduceMul, reduceLeDiff, reduceLT, reduceSub] <;> simp [eq_self]
  cases a1 : decide ((y.toNat : Int) ≥ 97) with
  | true =>
   cases a2 : decide ((y.toNat : Int) ≤ 122) with
   | true =>
    simp only [amset, amlib, zset, a1, a2, eq_self, ↓reduceIte, reduceCtorEq, Nat.reduceBEq, reduceEqDiff, reduceAdd, reduceMul, reduceLeDiff, reduceLT, reduceSub]
    refine keyK12 _ _ ?_ ?_
    ·
     simp only [amset, amlib, zset, eq_self, ↓reduceIte, reduceCtorEq, Nat.reduceBEq, reduceEqDiff, reduceAdd, reduceMul, reduceLeDiff, reduceLT, reduceSub] <;> simp [isLetter, a1, a2]
    ·
     simp only [amset, amlib, zset, eq_self, ↓reduceIte, reduceCtorEq, Nat.reduceBEq, reduceEqDiff, reduceAdd, reduceMul, reduceLeDiff, reduceLT, reduceSub]
   | false =>
    cases b1 : decide ((y.toNat : Int) ≥ 65) with
    | true =>
     cases b2 : decide ((y.toNat : Int) ≤ 90) with
     | true =>
      simp only [amset, amlib, zset, a1, a2, b1, b2, eq_self, ↓reduceIte, reduceCtorEq, Nat.reduceBEq, reduceEqDiff, reduceAdd, reduceMul, reduceLeDiff, reduceLT, reduceSub]
      refine keyK12 _ _ ?_ ?_
      ·
       simp only [amset, amlib, zset, eq_self, ↓reduceIte, reduceCtorEq, Nat.reduceBEq, reduceEqDiff, reduceAdd, reduceMul, reduceLeDiff, reduceLT, reduceSub] <;> simp [isLetter, a1, a2, b1, b2]
      ·
       simp only [amset, amlib, zset, eq_self, ↓reduceIte, reduceCtorEq, Nat.reduceBEq, reduceEqDiff, reduceAdd, reduceMul, reduceLeDiff, reduceLT, reduceSub]
     | false =>
      cases d : ((y.toNat : Int) == 95) with
      | true =>
       simp only [amset, amlib, zset, a1, a2, b1, b2, d, eq_self, ↓reduceIte, reduceCtorEq, Nat.reduceBEq, reduceEqDiff, reduceAdd, reduceMul, reduceLeDiff, reduceLT, reduceSub]
       refine keyK12 _ _ ?_ ?_
       ·
        simp only [amset, amlib, zset, eq_self, ↓reduceIte, reduceCtorEq, Nat.reduceBEq, reduceEqDiff, reduceAdd, reduceMul, reduceLeDiff, reduceLT, reduceSub] <;> simp [isLetter, a1, a2, b1, b2, d]
       ·
        simp only [amset, amlib, zset, eq_self, ↓reduceIte, reduceCtorEq, Nat.reduceBEq, reduceEqDiff, reduceAdd, reduceMul, reduceLeDiff, reduceLT, reduceSub]
      | false =>
       simp only [amset, amlib, zset, a1, a2, b1, b2, d, eq_self, ↓reduceIte, reduceCtorEq, Nat.reduceBEq, reduceEqDiff, reduceAdd, reduceMul, reduceLeDiff, reduceLT, reduceSub]
       refine keyK12 _ _ ?_ ?_
       ·
        simp only [amset, amlib, zset, eq_self, ↓reduceIte, reduceCtorEq, Nat.reduceBEq, reduceEqDiff, reduceAdd, reduceMul, reduceLeDiff, reduceLT, reduceSub] <;> simp [isLetter, a1, a2, b1, b2, d]
       ·
        simp only [amset, amlib, zset, eq_self, ↓reduceIte, reduceCtorEq, Nat.reduceBEq, reduceEqDiff, reduceAdd, reduceMul, reduceLeDiff, reduceLT, reduceSub]
    | false =>
     cases d : ((y.toNat : Int) == 95) with
     | true =>
      simp only [amset, amlib, zset, a1, a2, b1, d, eq_self, ↓reduceIte, reduceCtorEq, Nat.reduceBEq, reduceEqDiff, reduceAdd, reduceMul, reduceLeDiff, reduceLT, reduceSub]
      refine keyK12 _ _ ?_ ?_
      ·
       simp only [amset, amlib, zset, eq_self, ↓reduceIte, reduceCtorEq, Nat.reduceBEq, reduceEqDiff, reduceAdd, reduceMul, reduceLeDiff, reduceLT, reduceSub] <;> simp [isLetter, a1, a2, b1, d]
      ·
       simp only [amset, amlib, zset, eq_self, ↓reduceIte, reduceCtorEq, Nat.reduceBEq, reduceEqDiff, reduceAdd, reduceMul, reduceLeDiff, reduceLT, reduceSub]
     | false =>
      simp only [amset, amlib, zset, a1, a2, b1, d, eq_self, ↓reduceIte, reduceCtorEq, Nat.reduceBEq, reduceEqDiff, reduceAdd, reduceMul, reduceLeDiff, reduceLT, reduceSub]
      refine keyK12 _ _ ?_ ?_
      ·
       simp only [amset, amlib, zset, eq_self, ↓reduceIte, reduceCtorEq, Nat.reduceBEq, reduceEqDiff, reduceAdd, reduceMul, reduceLeDiff, reduceLT, reduceSub] <;> simp [isLetter, a1, a2, b1, d]
      ·
       simp only [amset, amlib, zset, eq_self, ↓reduceIte, reduceCtorEq, Nat.reduceBEq, reduceEqDiff, reduceAdd, reduceMul, reduceLeDiff, reduceLT, reduceSub]
  | false =>
   cases b1 : decide ((y.toNat : Int) ≥ 65) with
   | true =>
    cases b2 : decide ((y.toNat : Int) ≤ 90) with
    | true =>
     simp only [amset, amlib, zset, a1, b1, b2, eq_self, ↓reduceIte, reduceCtorEq, Nat.reduceBEq, reduceEqDiff, reduceAdd, reduceMul, reduceLeDiff, reduceLT, reduceSub]
     refine keyK12 _ _ ?_ ?_
     ·
      simp only [amset, amlib, zset, eq_self, ↓reduceIte, reduceCtorEq, Nat.reduceBEq, reduceEqDiff, reduceAdd, reduceMul, reduceLeDiff, reduceLT, reduceSub] <;> simp [isLetter, a1, b1, b2]
     ·
      simp only [amset, amlib, zset, eq_self, ↓reduceIte, reduceCtorEq, Nat.reduceBEq, reduceEqDiff, reduceAdd, reduceMul, reduceLeDiff, reduceLT, reduceSub]
    | false =>
     cases d : ((y.toNat : Int) == 95) with
     | true =>
      simp only [amset, amlib, zset, a1, b1, b2, d, eq_self, ↓reduceIte, reduceCtorEq, Nat.reduceBEq, reduceEqDiff, reduceAdd, reduceMul, reduceLeDiff, reduceLT, reduceSub]
      refine keyK12 _ _ ?_ ?_
      ·
       simp only [amset, amlib, zset, eq_self, ↓reduceIte, reduceCtorEq, Nat.reduceBEq, reduceEqDiff, reduceAdd, reduceMul, reduceLeDiff, reduceLT, reduceSub] <;> simp [isLetter, a1, b1, b2, d]
      ·
       simp only [amset, amlib, zset, eq_self, ↓reduceIte, reduceCtorEq, Nat.reduceBEq, reduceEqDiff, reduceAdd, reduceMul, reduceLeDiff, reduceLT, reduceSub]
     | false =>
      simp only [amset, amlib, zset, a1, b1, b2, d, eq_self, ↓reduceIte, reduceCtorEq, Nat.reduceBEq, reduceEqDiff, reduceAdd, reduceMul, reduceLeDiff, reduceLT, reduceSub]
      refine keyK12 _ _ ?_ ?_
      ·
       simp only [amset, amlib, zset, eq_self, ↓reduceIte, reduceCtorEq, Nat.reduceBEq, reduceEqDiff, reduceAdd, reduceMul, reduceLeDiff, reduceLT, reduceSub] <;> simp [isLetter, a1, b1, b2, d]
      ·
       simp only [amset, amlib, zset, eq_self, ↓reduceIte, reduceCtorEq, Nat.reduceBEq, reduceEqDiff, reduceAdd, reduceMul, reduceLeDiff, reduceLT, reduceSub]
   | false =>
    cases d : ((y.toNat : Int) == 95) with
    | true =>
     simp only [amset, amlib, zset, a1, b1, d, eq_self, ↓reduceIte, reduceCtorEq, Nat.reduceBEq, reduceEqDiff, reduceAdd, reduceMul, reduceLeDiff, reduceLT, reduceSub]
     refine keyK12 _ _ ?_ ?_
     ·
      simp only [amset, amlib, zset, eq_self, ↓reduceIte, reduceCtorEq, Nat.reduceBEq, reduceEqDiff, reduceAdd, reduceMul, reduceLeDiff, reduceLT, reduceSub] <;> simp [isLetter, a1, b1, d]
     ·
      simp only [amset, amlib, zset, eq_self, ↓reduceIte, reduceCtorEq, Nat.reduceBEq, reduceEqDiff, reduceAdd, reduceMul, reduceLeDiff, reduceLT, reduceSub]
    | false =>
     simp only [amset, amlib, zset, a1, b1, d, eq_self, ↓reduceIte, reduceCtorEq, Nat.reduceBEq, reduceEqDiff, reduceAdd, reduceMul, reduceLeDiff, reduceLT, reduceSub]
     refine keyK12 _ _ ?_ ?_
     ·
      simp only [amset, amlib, zset, eq_self, ↓reduceIte, reduceCtorEq, Nat.reduceBEq, reduceEqDiff, reduceAdd, reduceMul, reduceLeDiff, reduceLT, reduceSub] <;> simp [isLetter, a1, b1, d]
     ·
      simp only [amset, amlib, zset, eq_self, ↓reduceIte, reduceCtorEq, Nat.reduceBEq, reduceEqDiff, reduceAdd, reduceMul, reduceLeDiff, reduceLT, reduceSub]
end Go.Proofs.Am
set_option maxRecDepth 100000
set_option maxHeartbeats 4000000
namespace Go.Proofs.Am
open Nat (reduceEqDiff reduceAdd reduceMul reduceLeDiff reduceLT reduceSub)
def sameE (x y : Ex) : Bool := x.kind == y.kind && x.name == y.name && x.value == y.value && x.op == y.op
def plainP (x : Ex) : Int × Bool :=
 if x.kind == 1 then (0, decide (x.value ≥ 0) && sameE x (.mk x.kind [] x.value 0 [] 0))
 else if x.kind == 2 || x.kind == 4 then (0, ident x.name && sameE x (.mk x.kind x.name 0 0 [] 0))
 else if x.kind == 3 then (1, ident x.name && sameE x (.mk x.kind x.name 0 0 [] 0))
 else if x.kind == 5 then (1, (decide (x.op ≥ 1) && decide (x.op ≤ 2)) && sameE x (.mk x.kind [] 0 x.op [] 0))
 else if x.kind == 6 then (2, (decide (x.op ≥ 3) && decide (x.op ≤ 15)) && sameE x (.mk x.kind [] 0 x.op [] 0))
 else (0, false)
theorem prog204 : Tryz.prog.funcs[204]? = some Tryz.f204 := by kernel_rfl
theorem holds204 (x y : Ex) : Holds Tryz.prog zG 204 [.agg [.int .i64 y.kind, .str y.name, .int .i16 y.value, .int .i64 y.op, .sl 6 (encEs y.args), .int .i64 y.pos], .ref [.int .i64 x.kind, .str x.name, .int .i16 x.value, .int .i64 x.op, .sl 0 [], .int .i64 0]] [.c (.bool (sameE x y))] := by
 refine holds_of_body zT prog204 rfl rfl rfl (by simp [Tryz.f204]) ?_
 refine aw_ops zT fun K1 hK1 => ?_
 refine sg ?_
 refine hK1 _ ?_
 clear hK1
 refine aw_ops zT fun K2 hK2 => ?_
 cases e0 : (x.kind == y.kind) with
 | true =>
  cases e1 : (x.name == y.name) with
  | true =>
   cases e2 : (x.value == y.value) with
   | true =>
    simp only [amset, amlib, zset, e0, e1, e2, eq_self, ↓reduceIte, reduceCtorEq, Nat.reduceBEq, reduceEqDiff, reduceAdd, reduceMul, reduceLeDiff, reduceLT, reduceSub]
    refine hK2 _ ?_
    clear hK2
    refine aw_ret ?_
    show resOf zG _ [.tmp 3] = some _
    simp only [amset, amlib, zset, eq_self, ↓reduceIte, reduceCtorEq, Nat.reduceBEq, reduceEqDiff, reduceAdd, reduceMul, reduceLeDiff, reduceLT, reduceSub]
    simp only [sameE, e0, e1, e2, bools, ↓reduceIte]
   | false =>
    simp only [amset, amlib, zset, e0, e1, e2, eq_self, ↓reduceIte, reduceCtorEq, Nat.reduceBEq, reduceEqDiff, reduceAdd, reduceMul, reduceLeDiff, reduceLT, reduceSub]
    refine hK2 _ ?_
    clear hK2
    refine aw_ret ?_
    show resOf zG _ [.tmp 3] = some _
    simp only [amset, amlib, zset, eq_self, ↓reduceIte, reduceCtorEq, Nat.reduceBEq, reduceEqDiff, reduceAdd, reduceMul, reduceLeDiff, reduceLT, reduceSub]
    simp only [sameE, e0, e1, e2, bools, ↓reduceIte]
  | false =>
   simp only [amset, amlib, zset, e0, e1, eq_self, ↓reduceIte, reduceCtorEq, Nat.reduceBEq, reduceEqDiff, reduceAdd, reduceMul, reduceLeDiff, reduceLT, reduceSub]
   refine hK2 _ ?_
   clear hK2
   refine aw_ret ?_
   show resOf zG _ [.tmp 3] = some _
   simp only [amset, amlib, zset, eq_self, ↓reduceIte, reduceCtorEq, Nat.reduceBEq, reduceEqDiff, reduceAdd, reduceMul, reduceLeDiff, reduceLT, reduceSub]
   simp only [sameE, e0, e1, bools, ↓reduceIte]
 | false =>
  simp only [amset, amlib, zset, e0, eq_self, ↓reduceIte, reduceCtorEq, Nat.reduceBEq, reduceEqDiff, reduceAdd, reduceMul, reduceLeDiff, reduceLT, reduceSub]
  refine hK2 _ ?_
  clear hK2
  refine aw_ret ?_
  show resOf zG _ [.tmp 3] = some _
  simp only [amset, amlib, zset, eq_self, ↓reduceIte, reduceCtorEq, Nat.reduceBEq, reduceEqDiff, reduceAdd, reduceMul, reduceLeDiff, reduceLT, reduceSub]
  simp only [sameE, e0, bools, ↓reduceIte]
theorem prog163 : Tryz.prog.funcs[163]? = some Tryz.f163 := by kernel_rfl
theorem holds163 (x : Ex) : Holds Tryz.prog zG 163 [.agg [.int .i64 x.kind, .str x.name, .int .i16 x.value, .int .i64 x.op, .sl 6 (encEs x.args), .int .i64 x.pos]] [.c (.int .i64 (plainP x).1), .c (.bool (plainP x).2)] := by
 refine holds_of_body zT prog163 rfl rfl rfl (by simp [Tryz.f163]) ?_
 refine aw_ops zT fun K1 hK1 => ?_
 refine sg ?_
 refine hK1 _ ?_
 clear hK1
 refine aw_ops zT fun K2 hK2 => ?_
 refine sg ?_
 refine ⟨_, holds203 x, ?_⟩
 refine sgl ?_
 refine hK2 _ ?_
 clear hK2
 refine aw_ops zT fun K3 hK3 => ?_
 refine sg ?_
 refine hK3 _ ?_
 clear hK3
 refine aw_seq fun K4 hK4 => ?_
 refine aw_ops zT fun K5 hK5 => ?_
 refine sg ?_
 refine hK5 _ ?_
 clear hK5
 refine aw_block ?_
 refine aw_ops zT fun K6 hK6 => ?_
 refine sg ?_
 refine hK6 _ ?_
 clear hK6
 refine aw_cond rfl (fun h0 => ?_) (fun h0 => ?_)
 ·
  refine aw_ops zT fun K7 hK7 => ?_
  cases e0 : decide (x.value ≥ 0) with
  | true =>
   simp only [amset, amlib, zset, e0, eq_self, ↓reduceIte, reduceCtorEq, Nat.reduceBEq, reduceEqDiff, reduceAdd, reduceMul, reduceLeDiff, reduceLT, reduceSub]
   refine ⟨_, holds204 x (.mk x.kind [] x.value 0 [] 0), ?_⟩
   simp only [later]
   simp only [amset, amlib, zset, e0, eq_self, ↓reduceIte, reduceCtorEq, Nat.reduceBEq, reduceEqDiff, reduceAdd, reduceMul, reduceLeDiff, reduceLT, reduceSub]
   refine hK7 _ ?_
   clear hK7
   refine aw_ret ?_
   show resOf zG _ [.tmp 2, .tmp 3] = some _
   simp only [amset, amlib, zset, eq_self, ↓reduceIte, reduceCtorEq, Nat.reduceBEq, reduceEqDiff, reduceAdd, reduceMul, reduceLeDiff, reduceLT, reduceSub]
   simp only [plainP, e0, h0, bools, ↓reduceIte]
  | false =>
   simp only [amset, amlib, zset, e0, eq_self, ↓reduceIte, reduceCtorEq, Nat.reduceBEq, reduceEqDiff, reduceAdd, reduceMul, reduceLeDiff, reduceLT, reduceSub]
   refine hK7 _ ?_
   clear hK7
   refine aw_ret ?_
   show resOf zG _ [.tmp 2, .tmp 3] = some _
   simp only [amset, amlib, zset, eq_self, ↓reduceIte, reduceCtorEq, Nat.reduceBEq, reduceEqDiff, reduceAdd, reduceMul, reduceLeDiff, reduceLT, reduceSub]
   simp only [plainP, e0, h0, bools, ↓reduceIte]
 ·
  refine aw_seq fun K8 hK8 => ?_
  refine aw_ops zT fun K9 hK9 => ?_
  refine sg ?_
  refine hK9 _ ?_
  clear hK9
  refine aw_cond rfl (fun h1 => ?_) (fun h1 => ?_)
  ·
   refine aw_norm (by simp only [amset, amlib, zset, h1, eq_self, ↓reduceIte, reduceCtorEq, Nat.reduceBEq, reduceEqDiff, reduceAdd, reduceMul, reduceLeDiff, reduceLT, reduceSub]; exact rfl) ?_
   refine aw_skip ?_
   simp only [thenQ, blkQ, if_true, reduceIte, Nat.reduceEqDiff, eq_self]
   refine hK8 _ ?_
   clear hK8
   refine aw_cond (t := true) rfl (fun _ => ?_) (fun h => nomatch h)
   refine aw_ops zT fun K10 hK10 => ?_
   cases e0 : ident x.name with
   | true =>
    simp only [amset, amlib, zset, e0, eq_self, ↓reduceIte, reduceCtorEq, Nat.reduceBEq, reduceEqDiff, reduceAdd, reduceMul, reduceLeDiff, reduceLT, reduceSub]
    refine ⟨_, holds96 x.name, ?_⟩
    simp only [later]
    simp only [amset, amlib, zset, e0, eq_self, ↓reduceIte, reduceCtorEq, Nat.reduceBEq, reduceEqDiff, reduceAdd, reduceMul, reduceLeDiff, reduceLT, reduceSub]
    refine ⟨_, holds204 x (.mk x.kind x.name 0 0 [] 0), ?_⟩
    simp only [later]
    simp only [amset, amlib, zset, e0, eq_self, ↓reduceIte, reduceCtorEq, Nat.reduceBEq, reduceEqDiff, reduceAdd, reduceMul, reduceLeDiff, reduceLT, reduceSub]
    refine hK10 _ ?_
    clear hK10
    refine aw_ret ?_
    show resOf zG _ [.tmp 2, .tmp 3] = some _
    simp only [amset, amlib, zset, eq_self, ↓reduceIte, reduceCtorEq, Nat.reduceBEq, reduceEqDiff, reduceAdd, reduceMul, reduceLeDiff, reduceLT, reduceSub]
    simp only [plainP, e0, h0, h1, bools, ↓reduceIte]
   | false =>
    simp only [amset, amlib, zset, e0, eq_self, ↓reduceIte, reduceCtorEq, Nat.reduceBEq, reduceEqDiff, reduceAdd, reduceMul, reduceLeDiff, reduceLT, reduceSub]
    refine ⟨_, holds96 x.name, ?_⟩
    simp only [later]
    simp only [amset, amlib, zset, e0, eq_self, ↓reduceIte, reduceCtorEq, Nat.reduceBEq, reduceEqDiff, reduceAdd, reduceMul, reduceLeDiff, reduceLT, reduceSub]
    refine hK10 _ ?_
    clear hK10
    refine aw_ret ?_
    show resOf zG _ [.tmp 2, .tmp 3] = some _
    simp only [amset, amlib, zset, eq_self, ↓reduceIte, reduceCtorEq, Nat.reduceBEq, reduceEqDiff, reduceAdd, reduceMul, reduceLeDiff, reduceLT, reduceSub]
    simp only [plainP, e0, h0, h1, bools, ↓reduceIte]
  ·
   refine aw_norm (by simp only [amset, amlib, zset, h1, eq_self, ↓reduceIte, reduceCtorEq, Nat.reduceBEq, reduceEqDiff, reduceAdd, reduceMul, reduceLeDiff, reduceLT, reduceSub]; exact rfl) ?_
   refine aw_region zT ?_
   refine sg ?_
   refine hK8 _ ?_
   clear hK8
   refine aw_cond rfl (fun h2 => ?_) (fun h2 => ?_)
   ·
    refine aw_norm (by simp only [amset, amlib, zset, h2, eq_self, ↓reduceIte, reduceCtorEq, Nat.reduceBEq, reduceEqDiff, reduceAdd, reduceMul, reduceLeDiff, reduceLT, reduceSub]; exact rfl) ?_
    refine aw_ops zT fun K11 hK11 => ?_
    cases e0 : ident x.name with
    | true =>
     simp only [amset, amlib, zset, e0, eq_self, ↓reduceIte, reduceCtorEq, Nat.reduceBEq, reduceEqDiff, reduceAdd, reduceMul, reduceLeDiff, reduceLT, reduceSub]
     refine ⟨_, holds96 x.name, ?_⟩
     simp only [later]
     simp only [amset, amlib, zset, e0, eq_self, ↓reduceIte, reduceCtorEq, Nat.reduceBEq, reduceEqDiff, reduceAdd, reduceMul, reduceLeDiff, reduceLT, reduceSub]
     refine ⟨_, holds204 x (.mk x.kind x.name 0 0 [] 0), ?_⟩
     simp only [later]
     simp only [amset, amlib, zset, e0, eq_self, ↓reduceIte, reduceCtorEq, Nat.reduceBEq, reduceEqDiff, reduceAdd, reduceMul, reduceLeDiff, reduceLT, reduceSub]
     refine hK11 _ ?_
     clear hK11
     refine aw_ret ?_
     show resOf zG _ [.tmp 2, .tmp 3] = some _
     simp only [amset, amlib, zset, eq_self, ↓reduceIte, reduceCtorEq, Nat.reduceBEq, reduceEqDiff, reduceAdd, reduceMul, reduceLeDiff, reduceLT, reduceSub]
     simp only [plainP, e0, h0, h1, h2, bools, ↓reduceIte]
    | false =>
     simp only [amset, amlib, zset, e0, eq_self, ↓reduceIte, reduceCtorEq, Nat.reduceBEq, reduceEqDiff, reduceAdd, reduceMul, reduceLeDiff, reduceLT, reduceSub]
     refine ⟨_, holds96 x.name, ?_⟩
     simp only [later]
     simp only [amset, amlib, zset, e0, eq_self, ↓reduceIte, reduceCtorEq, Nat.reduceBEq, reduceEqDiff, reduceAdd, reduceMul, reduceLeDiff, reduceLT, reduceSub]
     refine hK11 _ ?_
     clear hK11
     refine aw_ret ?_
     show resOf zG _ [.tmp 2, .tmp 3] = some _
     simp only [amset, amlib, zset, eq_self, ↓reduceIte, reduceCtorEq, Nat.reduceBEq, reduceEqDiff, reduceAdd, reduceMul, reduceLeDiff, reduceLT, reduceSub]
     simp only [plainP, e0, h0, h1, h2, bools, ↓reduceIte]
   ·
    refine aw_norm (by simp only [amset, amlib, zset, h2, eq_self, ↓reduceIte, reduceCtorEq, Nat.reduceBEq, reduceEqDiff, reduceAdd, reduceMul, reduceLeDiff, reduceLT, reduceSub]; exact rfl) ?_
    refine aw_ops zT fun K12 hK12 => ?_
    refine sg ?_
    refine hK12 _ ?_
    clear hK12
    refine aw_cond rfl (fun h3 => ?_) (fun h3 => ?_)
    ·
     refine aw_ops zT fun K13 hK13 => ?_
     cases e0 : ident x.name with
     | true =>
      simp only [amset, amlib, zset, e0, eq_self, ↓reduceIte, reduceCtorEq, Nat.reduceBEq, reduceEqDiff, reduceAdd, reduceMul, reduceLeDiff, reduceLT, reduceSub]
      refine ⟨_, holds96 x.name, ?_⟩
      simp only [later]
      simp only [amset, amlib, zset, e0, eq_self, ↓reduceIte, reduceCtorEq, Nat.reduceBEq, reduceEqDiff, reduceAdd, reduceMul, reduceLeDiff, reduceLT, reduceSub]
      refine ⟨_, holds204 x (.mk x.kind x.name 0 0 [] 0), ?_⟩
      simp only [later]
      simp only [amset, amlib, zset, e0, eq_self, ↓reduceIte, reduceCtorEq, Nat.reduceBEq, reduceEqDiff, reduceAdd, reduceMul, reduceLeDiff, reduceLT, reduceSub]
      refine hK13 _ ?_
      clear hK13
      refine aw_ret ?_
      show resOf zG _ [.tmp 2, .tmp 3] = some _
      simp only [amset, amlib, zset, eq_self, ↓reduceIte, reduceCtorEq, Nat.reduceBEq, reduceEqDiff, reduceAdd, reduceMul, reduceLeDiff, reduceLT, reduceSub]
      simp only [plainP, e0, h0, h1, h2, h3, bools, ↓reduceIte]
     | false =>
      simp only [amset, amlib, zset, e0, eq_self, ↓reduceIte, reduceCtorEq, Nat.reduceBEq, reduceEqDiff, reduceAdd, reduceMul, reduceLeDiff, reduceLT, reduceSub]
      refine ⟨_, holds96 x.name, ?_⟩
      simp only [later]
      simp only [amset, amlib, zset, e0, eq_self, ↓reduceIte, reduceCtorEq, Nat.reduceBEq, reduceEqDiff, reduceAdd, reduceMul, reduceLeDiff, reduceLT, reduceSub]
      refine hK13 _ ?_
      clear hK13
      refine aw_ret ?_
      show resOf zG _ [.tmp 2, .tmp 3] = some _
      simp only [amset, amlib, zset, eq_self, ↓reduceIte, reduceCtorEq, Nat.reduceBEq, reduceEqDiff, reduceAdd, reduceMul, reduceLeDiff, reduceLT, reduceSub]
      simp only [plainP, e0, h0, h1, h2, h3, bools, ↓reduceIte]
    ·
     refine aw_ops zT fun K14 hK14 => ?_
     refine sg ?_
     refine hK14 _ ?_
     clear hK14
     refine aw_cond rfl (fun h4 => ?_) (fun h4 => ?_)
     ·
      refine aw_ops zT fun K15 hK15 => ?_
      cases e0 : decide (x.op ≥ 1) with
      | true =>
       cases e1 : decide (x.op ≤ 2) with
       | true =>
        simp only [amset, amlib, zset, e0, e1, eq_self, ↓reduceIte, reduceCtorEq, Nat.reduceBEq, reduceEqDiff, reduceAdd, reduceMul, reduceLeDiff, reduceLT, reduceSub]
        refine ⟨_, holds204 x (.mk x.kind [] 0 x.op [] 0), ?_⟩
        simp only [later]
        simp only [amset, amlib, zset, e0, e1, eq_self, ↓reduceIte, reduceCtorEq, Nat.reduceBEq, reduceEqDiff, reduceAdd, reduceMul, reduceLeDiff, reduceLT, reduceSub]
        refine hK15 _ ?_
        clear hK15
        refine aw_ret ?_
        show resOf zG _ [.tmp 2, .tmp 3] = some _
        simp only [amset, amlib, zset, eq_self, ↓reduceIte, reduceCtorEq, Nat.reduceBEq, reduceEqDiff, reduceAdd, reduceMul, reduceLeDiff, reduceLT, reduceSub]
        simp only [plainP, e0, e1, h0, h1, h2, h3, h4, bools, ↓reduceIte]
       | false =>
        simp only [amset, amlib, zset, e0, e1, eq_self, ↓reduceIte, reduceCtorEq, Nat.reduceBEq, reduceEqDiff, reduceAdd, reduceMul, reduceLeDiff, reduceLT, reduceSub]
        refine hK15 _ ?_
        clear hK15
        refine aw_ret ?_
        show resOf zG _ [.tmp 2, .tmp 3] = some _
        simp only [amset, amlib, zset, eq_self, ↓reduceIte, reduceCtorEq, Nat.reduceBEq, reduceEqDiff, reduceAdd, reduceMul, reduceLeDiff, reduceLT, reduceSub]
        simp only [plainP, e0, e1, h0, h1, h2, h3, h4, bools, ↓reduceIte]
      | false =>
       simp only [amset, amlib, zset, e0, eq_self, ↓reduceIte, reduceCtorEq, Nat.reduceBEq, reduceEqDiff, reduceAdd, reduceMul, reduceLeDiff, reduceLT, reduceSub]
       refine hK15 _ ?_
       clear hK15
       refine aw_ret ?_
       show resOf zG _ [.tmp 2, .tmp 3] = some _
       simp only [amset, amlib, zset, eq_self, ↓reduceIte, reduceCtorEq, Nat.reduceBEq, reduceEqDiff, reduceAdd, reduceMul, reduceLeDiff, reduceLT, reduceSub]
       simp only [plainP, e0, h0, h1, h2, h3, h4, bools, ↓reduceIte]
     ·
      refine aw_ops zT fun K16 hK16 => ?_
      refine sg ?_
      refine hK16 _ ?_
      clear hK16
      refine aw_cond rfl (fun h5 => ?_) (fun h5 => ?_)
      ·
       refine aw_ops zT fun K17 hK17 => ?_
       cases e0 : decide (x.op ≥ 3) with
       | true =>
        cases e1 : decide (x.op ≤ 15) with
        | true =>
         simp only [amset, amlib, zset, e0, e1, eq_self, ↓reduceIte, reduceCtorEq, Nat.reduceBEq, reduceEqDiff, reduceAdd, reduceMul, reduceLeDiff, reduceLT, reduceSub]
         refine ⟨_, holds204 x (.mk x.kind [] 0 x.op [] 0), ?_⟩
         simp only [later]
         simp only [amset, amlib, zset, e0, e1, eq_self, ↓reduceIte, reduceCtorEq, Nat.reduceBEq, reduceEqDiff, reduceAdd, reduceMul, reduceLeDiff, reduceLT, reduceSub]
         refine hK17 _ ?_
         clear hK17
         refine aw_ret ?_
         show resOf zG _ [.tmp 2, .tmp 3] = some _
         simp only [amset, amlib, zset, eq_self, ↓reduceIte, reduceCtorEq, Nat.reduceBEq, reduceEqDiff, reduceAdd, reduceMul, reduceLeDiff, reduceLT, reduceSub]
         simp only [plainP, e0, e1, h0, h1, h2, h3, h4, h5, bools, ↓reduceIte]
        | false =>
         simp only [amset, amlib, zset, e0, e1, eq_self, ↓reduceIte, reduceCtorEq, Nat.reduceBEq, reduceEqDiff, reduceAdd, reduceMul, reduceLeDiff, reduceLT, reduceSub]
         refine hK17 _ ?_
         clear hK17
         refine aw_ret ?_
         show resOf zG _ [.tmp 2, .tmp 3] = some _
         simp only [amset, amlib, zset, eq_self, ↓reduceIte, reduceCtorEq, Nat.reduceBEq, reduceEqDiff, reduceAdd, reduceMul, reduceLeDiff, reduceLT, reduceSub]
         simp only [plainP, e0, e1, h0, h1, h2, h3, h4, h5, bools, ↓reduceIte]
       | false =>
        simp only [amset, amlib, zset, e0, eq_self, ↓reduceIte, reduceCtorEq, Nat.reduceBEq, reduceEqDiff, reduceAdd, reduceMul, reduceLeDiff, reduceLT, reduceSub]
        refine hK17 _ ?_
        clear hK17
        refine aw_ret ?_
        show resOf zG _ [.tmp 2, .tmp 3] = some _
        simp only [amset, amlib, zset, eq_self, ↓reduceIte, reduceCtorEq, Nat.reduceBEq, reduceEqDiff, reduceAdd, reduceMul, reduceLeDiff, reduceLT, reduceSub]
        simp only [plainP, e0, h0, h1, h2, h3, h4, h5, bools, ↓reduceIte]
      ·
       refine aw_skip ?_
       simp only [thenQ, blkQ, if_true, reduceIte, Nat.reduceEqDiff, eq_self]
       refine hK4 _ ?_
       clear hK4
       refine aw_ops zT fun K18 hK18 => ?_
       refine sg ?_
       refine hK18 _ ?_
       clear hK18
       refine aw_ret ?_
       show resOf zG _ [.tmp 2, .tmp 3] = some _
       simp only [amset, amlib, zset, eq_self, ↓reduceIte, reduceCtorEq, Nat.reduceBEq, reduceEqDiff, reduceAdd, reduceMul, reduceLeDiff, reduceLT, reduceSub]
       simp only [plainP, h0, h1, h2, h3, h4, h5, bools, ↓reduceIte]
end Go.Proofs.Am
set_option maxRecDepth 100000
set_option maxHeartbeats 4000000
namespace Go.Proofs.Am
open Nat (reduceEqDiff reduceAdd reduceMul reduceLeDiff reduceLT reduceSub)
mutual
def wfA : Ex → Bool
 | .mk k n v o a p => (plainP (.mk k n v o a p)).2 && ((a.length : Int) == (plainP (.mk k n v o a p)).1) && wfAs a
def wfAs : List Ex → Bool
 | [] => true
 | x :: r => wfA x && wfAs r
end
theorem wfA_eq (x : Ex) : wfA x = ((plainP x).2 && ((x.args.length : Int) == (plainP x).1) && !(x.args.any fun y => !wfA y)) := by
 have h : ∀ l : List Ex, (!(l.any fun y => !wfA y)) = wfAs l := by
  intro l
  induction l with
  | nil => rfl
  | cons y r ih => rw [List.any_cons, Bool.not_or, ih, wfAs, Bool.not_not]
 rw [h]
 cases x
 rfl
theorem prog164 : Tryz.prog.funcs[164]? = some Tryz.f164 := by kernel_rfl
theorem step164 (x : Ex) (ih : Holds Tryz.prog zG 93 [.agg [.int .i64 x.kind, .str x.name, .int .i16 x.value, .int .i64 x.op, .sl 6 (encEs x.args), .int .i64 x.pos]] [.c (.bool (wfA x))]) : Holds Tryz.prog zG 164 [.agg [.int .i64 x.kind, .str x.name, .int .i16 x.value, .int .i64 x.op, .sl 6 (encEs x.args), .int .i64 x.pos]] [.c (.bool (!wfA x))] := by
 refine holds_of_body zT prog164 rfl rfl rfl (by simp [Tryz.f164]) ?_
 refine aw_ops zT fun K1 hK1 => ?_
 refine sg ?_
 refine hK1 _ ?_
 clear hK1
 refine aw_ops zT fun K2 hK2 => ?_
 refine sg ?_
 refine ⟨_, ih, ?_⟩
 refine sgl ?_
 refine hK2 _ ?_
 clear hK2
 refine aw_ret ?_
 show resOf zG _ [.tmp 2] = some _
 simp only [amset, amlib, zset, eq_self, ↓reduceIte, reduceCtorEq, Nat.reduceBEq, reduceEqDiff, reduceAdd, reduceMul, reduceLeDiff, reduceLT, reduceSub]
theorem prog93 : Tryz.prog.funcs[93]? = some Tryz.f93 := by kernel_rfl
theorem step93 (x : Ex) (ih : ∀ y ∈ x.args, Holds Tryz.prog zG 164 [.agg [.int .i64 y.kind, .str y.name, .int .i16 y.value, .int .i64 y.op, .sl 6 (encEs y.args), .int .i64 y.pos]] [.c (.bool (!wfA y))]) : Holds Tryz.prog zG 93 [.agg [.int .i64 x.kind, .str x.name, .int .i16 x.value, .int .i64 x.op, .sl 6 (encEs x.args), .int .i64 x.pos]] [.c (.bool (wfA x))] := by
 refine holds_of_body zT prog93 rfl rfl rfl (by simp [Tryz.f93]) ?_
 refine aw_ops zT fun K1 hK1 => ?_
 refine sg ?_
 refine hK1 _ ?_
 clear hK1
 refine aw_ops zT fun K2 hK2 => ?_
 refine sg ?_
 refine ⟨_, holds163 x, ?_⟩
 refine sgl ?_
 refine hK2 _ ?_
 clear hK2
 refine aw_ops zT fun K3 hK3 => ?_
 cases e0 : (plainP x).2 with
 | true =>
  cases e1 : ((x.args.length : Int) == (plainP x).1) with
  | true =>
   simp only [amset, amlib, zset, e0, e1, eq_self, ↓reduceIte, reduceCtorEq, Nat.reduceBEq, reduceEqDiff, reduceAdd, reduceMul, reduceLeDiff, reduceLT, reduceSub]
   intros
   refine ⟨_, holds79 164 (fun y => !wfA y) x.args ih, ?_⟩
   simp only [later]
   simp only [amset, amlib, zset, e0, e1, eq_self, ↓reduceIte, reduceCtorEq, Nat.reduceBEq, reduceEqDiff, reduceAdd, reduceMul, reduceLeDiff, reduceLT, reduceSub]
   refine hK3 _ ?_
   clear hK3
   refine aw_ret ?_
   show resOf zG _ [.tmp 2] = some _
   simp only [amset, amlib, zset, eq_self, ↓reduceIte, reduceCtorEq, Nat.reduceBEq, reduceEqDiff, reduceAdd, reduceMul, reduceLeDiff, reduceLT, reduceSub]
   rw [wfA_eq]
   simp only [e0, e1, bools, ↓reduceIte]
  | false =>
   simp only [amset, amlib, zset, e0, e1, eq_self, ↓reduceIte, reduceCtorEq, Nat.reduceBEq, reduceEqDiff, reduceAdd, reduceMul, reduceLeDiff, reduceLT, reduceSub]
   intros
   refine hK3 _ ?_
   clear hK3
   refine aw_ret ?_
   show resOf zG _ [.tmp 2] = some _
   simp only [amset, amlib, zset, eq_self, ↓reduceIte, reduceCtorEq, Nat.reduceBEq, reduceEqDiff, reduceAdd, reduceMul, reduceLeDiff, reduceLT, reduceSub]
   rw [wfA_eq]
   simp only [e0, e1, bools, ↓reduceIte]
 | false =>
  simp only [amset, amlib, zset, e0, eq_self, ↓reduceIte, reduceCtorEq, Nat.reduceBEq, reduceEqDiff, reduceAdd, reduceMul, reduceLeDiff, reduceLT, reduceSub]
  refine hK3 _ ?_
  clear hK3
  refine aw_ret ?_
  show resOf zG _ [.tmp 2] = some _
  simp only [amset, amlib, zset, eq_self, ↓reduceIte, reduceCtorEq, Nat.reduceBEq, reduceEqDiff, reduceAdd, reduceMul, reduceLeDiff, reduceLT, reduceSub]
  rw [wfA_eq]
  simp only [e0, bools, ↓reduceIte]
theorem holds93 (x : Ex) : Holds Tryz.prog zG 93 [.agg [.int .i64 x.kind, .str x.name, .int .i16 x.value, .int .i64 x.op, .sl 6 (encEs x.args), .int .i64 x.pos]] [.c (.bool (wfA x))] := step93 x fun y hy => step164 y (holds93 y)
  termination_by SizeOf.sizeOf x
  decreasing_by exact Ex.args_lt hy
end Go.Proofs.Am
