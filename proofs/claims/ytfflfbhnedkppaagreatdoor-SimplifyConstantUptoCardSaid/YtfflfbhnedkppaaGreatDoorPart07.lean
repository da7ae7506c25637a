/- Part 7 of a proof that the law holds of every input of the given bulk. -/
import Derived.Test.YtfflfbhnedkppaaGreatDoorPart06
import Derived.Test.YtfflfbhnedkppaaGreatDoorPart04
import Derived.Test.YtfflfbhnedkppaaGreatDoorPart05
import Derived.WalkKit
set_option autoImplicit false
set_option linter.unusedSimpArgs false
set_option linter.unusedVariables false
set_option linter.unusedSectionVars false
set_option maxRecDepth 100000
set_option maxHeartbeats 4000000
namespace Go.Proofs.Am
/-- A statement whose bodies are simplified already. -/
def stK (lk : List UInt8 → Option Int) (k : Int) (n : List UInt8) (v : Int) (a : List Ex) (b e : List St) : List St :=
  if k == 4 then cdS lk (.mk k n v (sxL lk a) b e 0) (a.getD 0 (numE 0))
  else if k == 6 then if ((cnL lk a).getD 0 none).isSome && (((cnL lk a).getD 0 none).getD 0 == 0) then [] else [.mk k n v (sxL lk a) b e 0]
  else if k == 5 then if (v == 0) || ((b.length : Int) == 0) then [] else [.mk k n v (sxL lk a) b e 0]
  else if k == 10 || k == 11 then if ((b.length : Int) == 0) then [] else [.mk k n v (sxL lk a) b e 0]
  else [.mk k n v (sxL lk a) b e 0]
mutual
def stS (lk : List UInt8 → Option Int) : St → List St
  | .mk k n v a b e _ => stK lk k n v a (ssL lk b) (ssL lk e)
def ssL (lk : List UInt8 → Option Int) : List St → List St
  | [] => []
  | x :: r => if x.kind == 13 then stS lk x else stS lk x ++ ssL lk r
end
theorem stS_eq (lk : List UInt8 → Option Int) (x : St) : stS lk x = stK lk x.kind x.name x.n x.args (ssL lk x.body) (ssL lk x.els) := by cases x; rw [stS]; rfl
theorem ssL_mid (lk : List UInt8 → Option Int) (a b : List St) (y : St) (h : a.all (fun x => !(x.kind == 13)) = true) (hy : (y.kind == 13) = true) : ssL lk (a ++ y :: b) = a.flatMap (stS lk) ++ stS lk y := by
  induction a with
  | nil => simp [ssL, hy]
  | cons x r ih =>
    rw [List.all_cons, Bool.and_eq_true] at h
    have h1 : (x.kind == 13) = false := by simpa using h.1
    rw [List.cons_append, ssL, h1, ih h.2, List.flatMap_cons, List.append_assoc]
    rfl
theorem ssL_all (lk : List UInt8 → Option Int) (a : List St) (h : a.all (fun x => !(x.kind == 13)) = true) : ssL lk a = a.flatMap (stS lk) := by
  induction a with
  | nil => rfl
  | cons x r ih =>
    rw [List.all_cons, Bool.and_eq_true] at h
    have h1 : (x.kind == 13) = false := by simpa using h.1
    rw [ssL, h1, ih h.2, List.flatMap_cons]
    rfl
theorem ite_len (c : Prop) [Decidable c] (s : St) : (if c then ([] : List St) else [s]).length ≤ 1 := by split <;> simp
theorem cdS_len (lk : List UInt8 → Option Int) (x : St) (c : Ex) : (cdS lk x c).length ≤ 1 := by
  unfold cdS
  split
  · exact ite_len _ _
  · exact ite_len _ _
theorem stS_len (lk : List UInt8 → Option Int) (x : St) : (stS lk x).length ≤ 1 := by
  rw [stS_eq]
  unfold stK
  repeat' split
  all_goals first | exact cdS_len _ _ _ | exact ite_len _ _ | simp
theorem flat_len (lk : List UInt8 → Option Int) (a : List St) : (a.flatMap (stS lk)).length ≤ a.length := by
  induction a with
  | nil => simp
  | cons x r ih => have := stS_len lk x; simp only [List.flatMap_cons, List.length_append, List.length_cons]; omega
mutual
def okS : St → Prop
  | .mk k _ _ a b e _ => ((k = 4 ∨ k = 6 → 1 ≤ a.length) ∧ okL a ∧ wdL a ∧ (subL a).length ≤ 1000000000000 ∧ b.length ≤ 1000000000000 ∧ e.length ≤ 1000000000000) ∧ okM b ∧ okM e
def okM : List St → Prop
  | [] => True
  | x :: r => okS x ∧ okM r
end
theorem okS_eq (x : St) : okS x = (((x.kind = 4 ∨ x.kind = 6 → 1 ≤ x.args.length) ∧ okL x.args ∧ wdL x.args ∧ (subL x.args).length ≤ 1000000000000 ∧ x.body.length ≤ 1000000000000 ∧ x.els.length ≤ 1000000000000) ∧ okM x.body ∧ okM x.els) := by cases x; rw [okS]; rfl
theorem okM_mem {l : List St} (h : okM l) {y : St} (hy : y ∈ l) : okS y := by
  induction l with
  | nil => cases hy
  | cons x r ih =>
    rw [okM] at h
    rcases List.mem_cons.1 hy with rfl | hy
    · exact h.1
    · exact ih h.2 hy
theorem prog145 : Tryz.prog.funcs[145]? = some Tryz.f145 := by kernel_rfl
theorem step145 (es : List (List UInt8 × Int)) (hlk : lkOk (fun q => amFind q es)) (x : St) (hx : okS x) (ih : Holds Tryz.prog zG 68 [.agg [.map .i16 es], .c (.sl 7 (encSs x.body))] [.c (.sl 7 (encSs (ssL (fun q => amFind q es) x.body)))]) (ihe : Holds Tryz.prog zG 68 [.agg [.map .i16 es], .c (.sl 7 (encSs x.els))] [.c (.sl 7 (encSs (ssL (fun q => amFind q es) x.els)))]) : Holds Tryz.prog zG 145 [.agg [.map .i16 es], .agg [.int .i64 x.kind, .str x.name, .int .i64 x.n, .sl 6 (encEs x.args), .sl 7 (encSs x.body), .sl 7 (encSs x.els), .int .i64 x.pos]] [.c (.sl 7 (encSs (stS (fun q => amFind q es) x)))] := by
  refine holds_of_body zT prog145 rfl rfl rfl (by simp [Tryz.f145]) ?_
  refine aw_ops zT fun K1 hK1 => ?_
  simp only [amset, amlib, zset, eq_self, ↓reduceIte, reduceCtorEq, Nat.reduceBEq, Nat.reduceEqDiff, Nat.reduceAdd, Nat.reduceMul, Nat.reduceLeDiff, Nat.reduceLT, Nat.reduceSub]
  refine hK1 _ ?_
  clear hK1
  refine aw_ops zT fun K2 hK2 => ?_
  simp only [amset, amlib, zset, eq_self, ↓reduceIte, reduceCtorEq, Nat.reduceBEq, Nat.reduceEqDiff, Nat.reduceAdd, Nat.reduceMul, Nat.reduceLeDiff, Nat.reduceLT, Nat.reduceSub]
  refine hK2 _ ?_
  clear hK2
  refine aw_draw zT prog_mixed fun K3 hK3 => ?_
  simp only [amset, amlib, zset, eq_self, ↓reduceIte, reduceCtorEq, Nat.reduceBEq, Nat.reduceEqDiff, Nat.reduceAdd, Nat.reduceMul, Nat.reduceLeDiff, Nat.reduceLT, Nat.reduceSub]
  refine ⟨_, holds141 es hlk x.args (okS_eq x ▸ hx).1.2.1 (okS_eq x ▸ hx).1.2.2.1 (okS_eq x ▸ hx).1.2.2.2.1, ?_⟩
  simp only [later]
  simp only [amset, amlib, zset, eq_self, ↓reduceIte, reduceCtorEq, Nat.reduceBEq, Nat.reduceEqDiff, Nat.reduceAdd, Nat.reduceMul, Nat.reduceLeDiff, Nat.reduceLT, Nat.reduceSub]
  refine ⟨_, ih, ?_⟩
  simp only [later]
  simp only [amset, amlib, zset, eq_self, ↓reduceIte, reduceCtorEq, Nat.reduceBEq, Nat.reduceEqDiff, Nat.reduceAdd, Nat.reduceMul, Nat.reduceLeDiff, Nat.reduceLT, Nat.reduceSub]
  refine ⟨_, ihe, ?_⟩
  simp only [later]
  simp only [amset, amlib, zset, eq_self, ↓reduceIte, reduceCtorEq, Nat.reduceBEq, Nat.reduceEqDiff, Nat.reduceAdd, Nat.reduceMul, Nat.reduceLeDiff, Nat.reduceLT, Nat.reduceSub]
  refine ⟨by kernel_rfl, ?_⟩
  refine hK3 _ ?_
  clear hK3
  refine aw_seq fun K4 hK4 => ?_
  refine aw_ops zT fun K5 hK5 => ?_
  simp only [amset, amlib, zset, eq_self, ↓reduceIte, reduceCtorEq, Nat.reduceBEq, Nat.reduceEqDiff, Nat.reduceAdd, Nat.reduceMul, Nat.reduceLeDiff, Nat.reduceLT, Nat.reduceSub]
  refine hK5 _ ?_
  clear hK5
  refine aw_block ?_
  refine aw_ops zT fun K6 hK6 => ?_
  simp only [amset, amlib, zset, eq_self, ↓reduceIte, reduceCtorEq, Nat.reduceBEq, Nat.reduceEqDiff, Nat.reduceAdd, Nat.reduceMul, Nat.reduceLeDiff, Nat.reduceLT, Nat.reduceSub]
  refine hK6 _ ?_
  clear hK6
  refine aw_cond rfl (fun h0 => ?_) (fun h0 => ?_)
  · skip
    have hx1 := (okS_eq x ▸ hx).1
    have hlen : 1 ≤ x.args.length := hx1.1 (Or.inl (by simpa using h0))
    have hget : (encEs x.args).getD (Int.toNat 0) [] = encE x.args[0] := encEs_getD _ 0 (by omega)
    have hcn : (cnL (fun q => amFind q es) x.args).getD 0 none = cnE (fun q => amFind q es) x.args[0] := cnL_getD _ _ 0 (by omega)
    have hg0 : x.args.getD 0 (numE 0) = x.args[0] := by rw [List.getD_eq_getElem?_getD, List.getElem?_eq_getElem (by omega)]; rfl
    refine aw_draw zT prog_mixed fun K7 hK7 => ?_
    simp only [amset, amlib, zset, hget, eq_self, ↓reduceIte, reduceCtorEq, Nat.reduceBEq, Nat.reduceEqDiff, Nat.reduceAdd, Nat.reduceMul, Nat.reduceLeDiff, Nat.reduceLT, Nat.reduceSub]
    refine ⟨⟨by omega, by omega⟩, ?_⟩
    refine ⟨_, holds193 es (.mk x.kind x.name x.n (sxL (fun q => amFind q es) x.args) (ssL (fun q => amFind q es) x.body) (ssL (fun q => amFind q es) x.els) 0) x.args[0] (okL_mem hx1.2.1 (List.getElem_mem _)), ?_⟩
    simp only [later]
    simp only [amset, amlib, zset, hget, eq_self, ↓reduceIte, reduceCtorEq, Nat.reduceBEq, Nat.reduceEqDiff, Nat.reduceAdd, Nat.reduceMul, Nat.reduceLeDiff, Nat.reduceLT, Nat.reduceSub]
    refine ⟨by kernel_rfl, ?_⟩
    refine hK7 _ ?_
    clear hK7
    refine aw_ret ?_
    show resOf zG _ [.tmp 4] = some _
    simp only [amset, amlib, zset, eq_self, ↓reduceIte, reduceCtorEq, Nat.reduceBEq, Nat.reduceEqDiff, Nat.reduceAdd, Nat.reduceMul, Nat.reduceLeDiff, Nat.reduceLT, Nat.reduceSub]
    rw [stS_eq]
    unfold stK
    simp only [h0, Bool.true_or, Bool.or_true, Bool.false_or, Bool.or_false, Bool.true_and, Bool.and_true, Bool.false_and, Bool.and_false, Bool.not_true, Bool.not_false, if_true, if_false, ↓reduceIte, Bool.false_eq_true, hg0] <;> rfl
  · skip
    refine aw_ops zT fun K8 hK8 => ?_
    simp only [amset, amlib, zset, eq_self, ↓reduceIte, reduceCtorEq, Nat.reduceBEq, Nat.reduceEqDiff, Nat.reduceAdd, Nat.reduceMul, Nat.reduceLeDiff, Nat.reduceLT, Nat.reduceSub]
    refine hK8 _ ?_
    clear hK8
    refine aw_cond rfl (fun h1 => ?_) (fun h1 => ?_)
    · skip
      have hx1 := (okS_eq x ▸ hx).1
      have hlen : 1 ≤ x.args.length := hx1.1 (Or.inr (by simpa using h1))
      have hget : (encEs x.args).getD (Int.toNat 0) [] = encE x.args[0] := encEs_getD _ 0 (by omega)
      have hcn : (cnL (fun q => amFind q es) x.args).getD 0 none = cnE (fun q => amFind q es) x.args[0] := cnL_getD _ _ 0 (by omega)
      have hg0 : x.args.getD 0 (numE 0) = x.args[0] := by rw [List.getD_eq_getElem?_getD, List.getElem?_eq_getElem (by omega)]; rfl
      refine aw_draw zT prog_mixed fun K9 hK9 => ?_
      simp only [amset, amlib, zset, hget, eq_self, ↓reduceIte, reduceCtorEq, Nat.reduceBEq, Nat.reduceEqDiff, Nat.reduceAdd, Nat.reduceMul, Nat.reduceLeDiff, Nat.reduceLT, Nat.reduceSub]
      refine ⟨⟨by omega, by omega⟩, ?_⟩
      refine ⟨_, holds75 es x.args[0] (okL_mem hx1.2.1 (List.getElem_mem _)), ?_⟩
      simp only [later]
      simp only [amset, amlib, zset, hget, eq_self, ↓reduceIte, reduceCtorEq, Nat.reduceBEq, Nat.reduceEqDiff, Nat.reduceAdd, Nat.reduceMul, Nat.reduceLeDiff, Nat.reduceLT, Nat.reduceSub]
      refine ⟨by kernel_rfl, ?_⟩
      refine hK9 _ ?_
      clear hK9
      refine aw_ops zT fun K10 hK10 => ?_
      cases e0 : (cnE (fun q => amFind q es) x.args[0]).isSome with
      | true =>
        simp only [amset, amlib, zset, e0, eq_self, ↓reduceIte, reduceCtorEq, Nat.reduceBEq, Nat.reduceEqDiff, Nat.reduceAdd, Nat.reduceMul, Nat.reduceLeDiff, Nat.reduceLT, Nat.reduceSub]
        refine hK10 _ ?_
        clear hK10
        refine aw_cond rfl (fun h2 => ?_) (fun h2 => ?_)
        · skip
          refine aw_ops zT fun K11 hK11 => ?_
          simp only [amset, amlib, zset, eq_self, ↓reduceIte, reduceCtorEq, Nat.reduceBEq, Nat.reduceEqDiff, Nat.reduceAdd, Nat.reduceMul, Nat.reduceLeDiff, Nat.reduceLT, Nat.reduceSub]
          refine hK11 _ ?_
          clear hK11
          refine aw_ret ?_
          show resOf zG _ [.tmp 4] = some _
          simp only [amset, amlib, zset, eq_self, ↓reduceIte, reduceCtorEq, Nat.reduceBEq, Nat.reduceEqDiff, Nat.reduceAdd, Nat.reduceMul, Nat.reduceLeDiff, Nat.reduceLT, Nat.reduceSub]
          rw [stS_eq]
          unfold stK
          simp only [e0, h0, h1, h2, Bool.true_or, Bool.or_true, Bool.false_or, Bool.or_false, Bool.true_and, Bool.and_true, Bool.false_and, Bool.and_false, Bool.not_true, Bool.not_false, if_true, if_false, ↓reduceIte, Bool.false_eq_true, hcn] <;> rfl
        · skip
          refine aw_skip ?_
          simp only [thenQ, blkQ, if_true, reduceIte, Nat.reduceEqDiff, eq_self]
          refine hK4 _ ?_
          clear hK4
          refine aw_ops zT fun K12 hK12 => ?_
          simp only [amset, amlib, zset, eq_self, ↓reduceIte, reduceCtorEq, Nat.reduceBEq, Nat.reduceEqDiff, Nat.reduceAdd, Nat.reduceMul, Nat.reduceLeDiff, Nat.reduceLT, Nat.reduceSub]
          refine hK12 _ ?_
          clear hK12
          refine aw_ret ?_
          show resOf zG _ [.tmp 4] = some _
          simp only [amset, amlib, zset, eq_self, ↓reduceIte, reduceCtorEq, Nat.reduceBEq, Nat.reduceEqDiff, Nat.reduceAdd, Nat.reduceMul, Nat.reduceLeDiff, Nat.reduceLT, Nat.reduceSub]
          rw [stS_eq]
          unfold stK
          simp only [e0, h0, h1, h2, Bool.true_or, Bool.or_true, Bool.false_or, Bool.or_false, Bool.true_and, Bool.and_true, Bool.false_and, Bool.and_false, Bool.not_true, Bool.not_false, if_true, if_false, ↓reduceIte, Bool.false_eq_true, hcn] <;> rfl
      | false =>
        simp only [amset, amlib, zset, e0, eq_self, ↓reduceIte, reduceCtorEq, Nat.reduceBEq, Nat.reduceEqDiff, Nat.reduceAdd, Nat.reduceMul, Nat.reduceLeDiff, Nat.reduceLT, Nat.reduceSub]
        refine hK10 _ ?_
        clear hK10
        refine aw_cond (t := false) rfl (fun h => nomatch h) (fun _ => ?_)
        refine aw_skip ?_
        simp only [thenQ, blkQ, if_true, reduceIte, Nat.reduceEqDiff, eq_self]
        refine hK4 _ ?_
        clear hK4
        refine aw_ops zT fun K13 hK13 => ?_
        simp only [amset, amlib, zset, eq_self, ↓reduceIte, reduceCtorEq, Nat.reduceBEq, Nat.reduceEqDiff, Nat.reduceAdd, Nat.reduceMul, Nat.reduceLeDiff, Nat.reduceLT, Nat.reduceSub]
        refine hK13 _ ?_
        clear hK13
        refine aw_ret ?_
        show resOf zG _ [.tmp 4] = some _
        simp only [amset, amlib, zset, eq_self, ↓reduceIte, reduceCtorEq, Nat.reduceBEq, Nat.reduceEqDiff, Nat.reduceAdd, Nat.reduceMul, Nat.reduceLeDiff, Nat.reduceLT, Nat.reduceSub]
        rw [stS_eq]
        unfold stK
        simp only [e0, h0, h1, Bool.true_or, Bool.or_true, Bool.false_or, Bool.or_false, Bool.true_and, Bool.and_true, Bool.false_and, Bool.and_false, Bool.not_true, Bool.not_false, if_true, if_false, ↓reduceIte, Bool.false_eq_true, hcn] <;> rfl
    · skip
      refine aw_ops zT fun K14 hK14 => ?_
      simp only [amset, amlib, zset, eq_self, ↓reduceIte, reduceCtorEq, Nat.reduceBEq, Nat.reduceEqDiff, Nat.reduceAdd, Nat.reduceMul, Nat.reduceLeDiff, Nat.reduceLT, Nat.reduceSub]
      refine hK14 _ ?_
      clear hK14
      refine aw_cond rfl (fun h2 => ?_) (fun h2 => ?_)
      · skip
        refine aw_ops zT fun K15 hK15 => ?_
        cases e1 : (x.n == 0) with
        | true =>
          simp only [amset, amlib, zset, e1, eq_self, ↓reduceIte, reduceCtorEq, Nat.reduceBEq, Nat.reduceEqDiff, Nat.reduceAdd, Nat.reduceMul, Nat.reduceLeDiff, Nat.reduceLT, Nat.reduceSub]
          refine hK15 _ ?_
          clear hK15
          refine aw_cond (t := true) rfl (fun _ => ?_) (fun h => nomatch h)
          refine aw_ops zT fun K16 hK16 => ?_
          simp only [amset, amlib, zset, eq_self, ↓reduceIte, reduceCtorEq, Nat.reduceBEq, Nat.reduceEqDiff, Nat.reduceAdd, Nat.reduceMul, Nat.reduceLeDiff, Nat.reduceLT, Nat.reduceSub]
          refine hK16 _ ?_
          clear hK16
          refine aw_ret ?_
          show resOf zG _ [.tmp 4] = some _
          simp only [amset, amlib, zset, eq_self, ↓reduceIte, reduceCtorEq, Nat.reduceBEq, Nat.reduceEqDiff, Nat.reduceAdd, Nat.reduceMul, Nat.reduceLeDiff, Nat.reduceLT, Nat.reduceSub]
          rw [stS_eq]
          unfold stK
          simp only [e1, h0, h1, h2, Bool.true_or, Bool.or_true, Bool.false_or, Bool.or_false, Bool.true_and, Bool.and_true, Bool.false_and, Bool.and_false, Bool.not_true, Bool.not_false, if_true, if_false, ↓reduceIte, Bool.false_eq_true] <;> rfl
        | false =>
          cases e2 : (((ssL (fun q => amFind q es) x.body).length : Int) == 0) with
          | true =>
            simp only [amset, amlib, zset, e1, e2, eq_self, ↓reduceIte, reduceCtorEq, Nat.reduceBEq, Nat.reduceEqDiff, Nat.reduceAdd, Nat.reduceMul, Nat.reduceLeDiff, Nat.reduceLT, Nat.reduceSub]
            intros
            refine hK15 _ ?_
            clear hK15
            refine aw_cond (t := true) rfl (fun _ => ?_) (fun h => nomatch h)
            refine aw_ops zT fun K17 hK17 => ?_
            simp only [amset, amlib, zset, eq_self, ↓reduceIte, reduceCtorEq, Nat.reduceBEq, Nat.reduceEqDiff, Nat.reduceAdd, Nat.reduceMul, Nat.reduceLeDiff, Nat.reduceLT, Nat.reduceSub]
            refine hK17 _ ?_
            clear hK17
            refine aw_ret ?_
            show resOf zG _ [.tmp 4] = some _
            simp only [amset, amlib, zset, eq_self, ↓reduceIte, reduceCtorEq, Nat.reduceBEq, Nat.reduceEqDiff, Nat.reduceAdd, Nat.reduceMul, Nat.reduceLeDiff, Nat.reduceLT, Nat.reduceSub]
            rw [stS_eq]
            unfold stK
            simp only [e1, e2, h0, h1, h2, Bool.true_or, Bool.or_true, Bool.false_or, Bool.or_false, Bool.true_and, Bool.and_true, Bool.false_and, Bool.and_false, Bool.not_true, Bool.not_false, if_true, if_false, ↓reduceIte, Bool.false_eq_true] <;> rfl
          | false =>
            simp only [amset, amlib, zset, e1, e2, eq_self, ↓reduceIte, reduceCtorEq, Nat.reduceBEq, Nat.reduceEqDiff, Nat.reduceAdd, Nat.reduceMul, Nat.reduceLeDiff, Nat.reduceLT, Nat.reduceSub]
            intros
            refine hK15 _ ?_
            clear hK15
            refine aw_cond (t := false) rfl (fun h => nomatch h) (fun _ => ?_)
            refine aw_skip ?_
            simp only [thenQ, blkQ, if_true, reduceIte, Nat.reduceEqDiff, eq_self]
            refine hK4 _ ?_
            clear hK4
            refine aw_ops zT fun K18 hK18 => ?_
            simp only [amset, amlib, zset, eq_self, ↓reduceIte, reduceCtorEq, Nat.reduceBEq, Nat.reduceEqDiff, Nat.reduceAdd, Nat.reduceMul, Nat.reduceLeDiff, Nat.reduceLT, Nat.reduceSub]
            refine hK18 _ ?_
            clear hK18
            refine aw_ret ?_
            show resOf zG _ [.tmp 4] = some _
            simp only [amset, amlib, zset, eq_self, ↓reduceIte, reduceCtorEq, Nat.reduceBEq, Nat.reduceEqDiff, Nat.reduceAdd, Nat.reduceMul, Nat.reduceLeDiff, Nat.reduceLT, Nat.reduceSub]
            rw [stS_eq]
            unfold stK
            simp only [e1, e2, h0, h1, h2, Bool.true_or, Bool.or_true, Bool.false_or, Bool.or_false, Bool.true_and, Bool.and_true, Bool.false_and, Bool.and_false, Bool.not_true, Bool.not_false, if_true, if_false, ↓reduceIte, Bool.false_eq_true] <;> rfl
      · skip
        refine aw_seq fun K19 hK19 => ?_
        refine aw_ops zT fun K20 hK20 => ?_
        simp only [amset, amlib, zset, eq_self, ↓reduceIte, reduceCtorEq, Nat.reduceBEq, Nat.reduceEqDiff, Nat.reduceAdd, Nat.reduceMul, Nat.reduceLeDiff, Nat.reduceLT, Nat.reduceSub]
        refine hK20 _ ?_
        clear hK20
        refine aw_cond rfl (fun h3 => ?_) (fun h3 => ?_)
        · skip
          refine aw_norm (by simp only [amset, amlib, zset, h3, eq_self, ↓reduceIte, reduceCtorEq, Nat.reduceBEq, Nat.reduceEqDiff, Nat.reduceAdd, Nat.reduceMul, Nat.reduceLeDiff, Nat.reduceLT, Nat.reduceSub]; exact rfl) ?_
          refine aw_skip ?_
          simp only [thenQ, blkQ, if_true, reduceIte, Nat.reduceEqDiff, eq_self]
          refine hK19 _ ?_
          clear hK19
          refine aw_cond (t := true) rfl (fun _ => ?_) (fun h => nomatch h)
          refine aw_ops zT fun K21 hK21 => ?_
          simp only [amset, amlib, zset, eq_self, ↓reduceIte, reduceCtorEq, Nat.reduceBEq, Nat.reduceEqDiff, Nat.reduceAdd, Nat.reduceMul, Nat.reduceLeDiff, Nat.reduceLT, Nat.reduceSub]
          intros
          refine hK21 _ ?_
          clear hK21
          refine aw_cond rfl (fun h4 => ?_) (fun h4 => ?_)
          · skip
            refine aw_ops zT fun K22 hK22 => ?_
            simp only [amset, amlib, zset, eq_self, ↓reduceIte, reduceCtorEq, Nat.reduceBEq, Nat.reduceEqDiff, Nat.reduceAdd, Nat.reduceMul, Nat.reduceLeDiff, Nat.reduceLT, Nat.reduceSub]
            refine hK22 _ ?_
            clear hK22
            refine aw_ret ?_
            show resOf zG _ [.tmp 4] = some _
            simp only [amset, amlib, zset, eq_self, ↓reduceIte, reduceCtorEq, Nat.reduceBEq, Nat.reduceEqDiff, Nat.reduceAdd, Nat.reduceMul, Nat.reduceLeDiff, Nat.reduceLT, Nat.reduceSub]
            rw [stS_eq]
            unfold stK
            simp only [h0, h1, h2, h3, h4, Bool.true_or, Bool.or_true, Bool.false_or, Bool.or_false, Bool.true_and, Bool.and_true, Bool.false_and, Bool.and_false, Bool.not_true, Bool.not_false, if_true, if_false, ↓reduceIte, Bool.false_eq_true] <;> rfl
          · skip
            refine aw_skip ?_
            simp only [thenQ, blkQ, if_true, reduceIte, Nat.reduceEqDiff, eq_self]
            refine hK4 _ ?_
            clear hK4
            refine aw_ops zT fun K23 hK23 => ?_
            simp only [amset, amlib, zset, eq_self, ↓reduceIte, reduceCtorEq, Nat.reduceBEq, Nat.reduceEqDiff, Nat.reduceAdd, Nat.reduceMul, Nat.reduceLeDiff, Nat.reduceLT, Nat.reduceSub]
            refine hK23 _ ?_
            clear hK23
            refine aw_ret ?_
            show resOf zG _ [.tmp 4] = some _
            simp only [amset, amlib, zset, eq_self, ↓reduceIte, reduceCtorEq, Nat.reduceBEq, Nat.reduceEqDiff, Nat.reduceAdd, Nat.reduceMul, Nat.reduceLeDiff, Nat.reduceLT, Nat.reduceSub]
            rw [stS_eq]
            unfold stK
            simp only [h0, h1, h2, h3, h4, Bool.true_or, Bool.or_true, Bool.false_or, Bool.or_false, Bool.true_and, Bool.and_true, Bool.false_and, Bool.and_false, Bool.not_true, Bool.not_false, if_true, if_false, ↓reduceIte, Bool.false_eq_true] <;> rfl
        · skip
          refine aw_norm (by simp only [amset, amlib, zset, h3, eq_self, ↓reduceIte, reduceCtorEq, Nat.reduceBEq, Nat.reduceEqDiff, Nat.reduceAdd, Nat.reduceMul, Nat.reduceLeDiff, Nat.reduceLT, Nat.reduceSub]; exact rfl) ?_
          refine aw_region zT ?_
          simp only [amset, amlib, zset, eq_self, ↓reduceIte, reduceCtorEq, Nat.reduceBEq, Nat.reduceEqDiff, Nat.reduceAdd, Nat.reduceMul, Nat.reduceLeDiff, Nat.reduceLT, Nat.reduceSub]
          refine hK19 _ ?_
          clear hK19
          refine aw_cond rfl (fun h5 => ?_) (fun h5 => ?_)
          · skip
            refine aw_norm (by simp only [amset, amlib, zset, h5, eq_self, ↓reduceIte, reduceCtorEq, Nat.reduceBEq, Nat.reduceEqDiff, Nat.reduceAdd, Nat.reduceMul, Nat.reduceLeDiff, Nat.reduceLT, Nat.reduceSub]; exact rfl) ?_
            refine aw_ops zT fun K24 hK24 => ?_
            simp only [amset, amlib, zset, eq_self, ↓reduceIte, reduceCtorEq, Nat.reduceBEq, Nat.reduceEqDiff, Nat.reduceAdd, Nat.reduceMul, Nat.reduceLeDiff, Nat.reduceLT, Nat.reduceSub]
            intros
            refine hK24 _ ?_
            clear hK24
            refine aw_cond rfl (fun h6 => ?_) (fun h6 => ?_)
            · skip
              refine aw_ops zT fun K25 hK25 => ?_
              simp only [amset, amlib, zset, eq_self, ↓reduceIte, reduceCtorEq, Nat.reduceBEq, Nat.reduceEqDiff, Nat.reduceAdd, Nat.reduceMul, Nat.reduceLeDiff, Nat.reduceLT, Nat.reduceSub]
              refine hK25 _ ?_
              clear hK25
              refine aw_ret ?_
              show resOf zG _ [.tmp 4] = some _
              simp only [amset, amlib, zset, eq_self, ↓reduceIte, reduceCtorEq, Nat.reduceBEq, Nat.reduceEqDiff, Nat.reduceAdd, Nat.reduceMul, Nat.reduceLeDiff, Nat.reduceLT, Nat.reduceSub]
              rw [stS_eq]
              unfold stK
              simp only [h0, h1, h2, h3, h5, h6, Bool.true_or, Bool.or_true, Bool.false_or, Bool.or_false, Bool.true_and, Bool.and_true, Bool.false_and, Bool.and_false, Bool.not_true, Bool.not_false, if_true, if_false, ↓reduceIte, Bool.false_eq_true] <;> rfl
            · skip
              refine aw_skip ?_
              simp only [thenQ, blkQ, if_true, reduceIte, Nat.reduceEqDiff, eq_self]
              refine hK4 _ ?_
              clear hK4
              refine aw_ops zT fun K26 hK26 => ?_
              simp only [amset, amlib, zset, eq_self, ↓reduceIte, reduceCtorEq, Nat.reduceBEq, Nat.reduceEqDiff, Nat.reduceAdd, Nat.reduceMul, Nat.reduceLeDiff, Nat.reduceLT, Nat.reduceSub]
              refine hK26 _ ?_
              clear hK26
              refine aw_ret ?_
              show resOf zG _ [.tmp 4] = some _
              simp only [amset, amlib, zset, eq_self, ↓reduceIte, reduceCtorEq, Nat.reduceBEq, Nat.reduceEqDiff, Nat.reduceAdd, Nat.reduceMul, Nat.reduceLeDiff, Nat.reduceLT, Nat.reduceSub]
              rw [stS_eq]
              unfold stK
              simp only [h0, h1, h2, h3, h5, h6, Bool.true_or, Bool.or_true, Bool.false_or, Bool.or_false, Bool.true_and, Bool.and_true, Bool.false_and, Bool.and_false, Bool.not_true, Bool.not_false, if_true, if_false, ↓reduceIte, Bool.false_eq_true] <;> rfl
          · skip
            refine aw_norm (by simp only [amset, amlib, zset, h5, eq_self, ↓reduceIte, reduceCtorEq, Nat.reduceBEq, Nat.reduceEqDiff, Nat.reduceAdd, Nat.reduceMul, Nat.reduceLeDiff, Nat.reduceLT, Nat.reduceSub]; exact rfl) ?_
            refine aw_skip ?_
            simp only [thenQ, blkQ, if_true, reduceIte, Nat.reduceEqDiff, eq_self]
            refine hK4 _ ?_
            clear hK4
            refine aw_ops zT fun K27 hK27 => ?_
            simp only [amset, amlib, zset, eq_self, ↓reduceIte, reduceCtorEq, Nat.reduceBEq, Nat.reduceEqDiff, Nat.reduceAdd, Nat.reduceMul, Nat.reduceLeDiff, Nat.reduceLT, Nat.reduceSub]
            refine hK27 _ ?_
            clear hK27
            refine aw_ret ?_
            show resOf zG _ [.tmp 4] = some _
            simp only [amset, amlib, zset, eq_self, ↓reduceIte, reduceCtorEq, Nat.reduceBEq, Nat.reduceEqDiff, Nat.reduceAdd, Nat.reduceMul, Nat.reduceLeDiff, Nat.reduceLT, Nat.reduceSub]
            rw [stS_eq]
            unfold stK
            simp only [h0, h1, h2, h3, h5, Bool.true_or, Bool.or_true, Bool.false_or, Bool.or_false, Bool.true_and, Bool.and_true, Bool.false_and, Bool.and_false, Bool.not_true, Bool.not_false, if_true, if_false, ↓reduceIte, Bool.false_eq_true] <;> rfl
theorem prog68 : Tryz.prog.funcs[68]? = some Tryz.f68 := by kernel_rfl
theorem step68 (es : List (List UInt8 × Int)) (hlk : lkOk (fun q => amFind q es)) (l : List St) (hl0 : l.length ≤ 1000000000000) (ih : ∀ y ∈ l, Holds Tryz.prog zG 145 [.agg [.map .i16 es], .agg [.int .i64 y.kind, .str y.name, .int .i64 y.n, .sl 6 (encEs y.args), .sl 7 (encSs y.body), .sl 7 (encSs y.els), .int .i64 y.pos]] [.c (.sl 7 (encSs (stS (fun q => amFind q es) y)))]) : Holds Tryz.prog zG 68 [.agg [.map .i16 es], .c (.sl 7 (encSs l))] [.c (.sl 7 (encSs (ssL (fun q => amFind q es) l)))] := by
  refine holds_of_body zT prog68 rfl rfl rfl (by simp [Tryz.f68]) ?_
  refine aw_ops zT fun K1 hK1 => ?_
  simp only [amset, amlib, zset, encSs_length, eq_self, ↓reduceIte, reduceCtorEq, Nat.reduceBEq, Nat.reduceEqDiff, Nat.reduceAdd, Nat.reduceMul, Nat.reduceLeDiff, Nat.reduceLT, Nat.reduceSub]
  refine hK1 _ ?_
  clear hK1
  refine aw_ops zT fun K2 hK2 => ?_
  simp only [amset, amlib, zset, encSs_length, eq_self, ↓reduceIte, reduceCtorEq, Nat.reduceBEq, Nat.reduceEqDiff, Nat.reduceAdd, Nat.reduceMul, Nat.reduceLeDiff, Nat.reduceLT, Nat.reduceSub]
  refine hK2 _ ?_
  clear hK2
  refine aw_seq fun K3 hK3 => ?_
  refine aw_ops zT fun K4 hK4 => ?_
  simp only [amset, amlib, zset, encSs_length, eq_self, ↓reduceIte, reduceCtorEq, Nat.reduceBEq, Nat.reduceEqDiff, Nat.reduceAdd, Nat.reduceMul, Nat.reduceLeDiff, Nat.reduceLT, Nat.reduceSub]
  intros
  refine hK4 _ ?_
  clear hK4
  refine aw_block ?_
  refine aw_retag 5 0 1003 (by simp only [amset, amlib, zset, encSs_length, eq_self, ↓reduceIte, reduceCtorEq, Nat.reduceBEq, Nat.reduceEqDiff, Nat.reduceAdd, Nat.reduceMul, Nat.reduceLeDiff, Nat.reduceLT, Nat.reduceSub]) ?_
  refine aw_norm (by simp only [amset, amlib, zset, encSs_length, eq_self, ↓reduceIte, reduceCtorEq, Nat.reduceBEq, Nat.reduceEqDiff, Nat.reduceAdd, Nat.reduceMul, Nat.reduceLeDiff, Nat.reduceLT, Nat.reduceSub]; exact rfl) ?_
  refine aw_range (α := St) (l) (fun dn => dn.all (fun x => !(x.kind == 13)) = true) (fun dn => [(5, .cell (.own 1003 0 56 7 (encSs (dn.flatMap (stS (fun q => amFind q es)))))), (10, .cell (.c (.int .i64 dn.length)))]) (fun dn => []) [1003] [5, 7, 10, 11, 12, 13, 14, 15, 16, 17, 18, 19, 20, 21, 22] [7] rfl ?_ ?_ ?_ ?_
  · simp only [amset, amlib, zset, encSs_length, eq_self, ↓reduceIte, reduceCtorEq, Nat.reduceBEq, Nat.reduceEqDiff, Nat.reduceAdd, Nat.reduceMul, Nat.reduceLeDiff, Nat.reduceLT, Nat.reduceSub] <;> simp [List.flatMap_append, List.flatMap_cons, List.flatMap_nil, List.append_nil, encSs_append, encSs_nil]
  · simp only [amset, amlib, zset, encSs_length, eq_self, ↓reduceIte, reduceCtorEq, Nat.reduceBEq, Nat.reduceEqDiff, Nat.reduceAdd, Nat.reduceMul, Nat.reduceLeDiff, Nat.reduceLT, Nat.reduceSub] <;> simp [List.flatMap_append, List.flatMap_cons, List.flatMap_nil, List.append_nil, encSs_append, encSs_nil]
  · intro hI R
    refine aw_norm (by simp only [amset, amlib, zset, encSs_length, eq_self, ↓reduceIte, reduceCtorEq, Nat.reduceBEq, Nat.reduceEqDiff, Nat.reduceAdd, Nat.reduceMul, Nat.reduceLeDiff, Nat.reduceLT, Nat.reduceSub]; exact rfl) ?_
    refine aw_ops zT fun K5 hK5 => ?_
    simp only [amset, amlib, zset, encSs_length, eq_self, ↓reduceIte, reduceCtorEq, Nat.reduceBEq, Nat.reduceEqDiff, Nat.reduceAdd, Nat.reduceMul, Nat.reduceLeDiff, Nat.reduceLT, Nat.reduceSub]
    refine hK5 _ ?_
    clear hK5
    refine aw_seq fun K6 hK6 => ?_
    refine aw_cond (t := false) (by simp [evalO, S.get, amLook]) (fun h => nomatch h) (fun _ => ?_)
    refine aw_exit ?_
    simp only [thenQ, blkQ, if_true, reduceIte, Nat.reduceEqDiff, eq_self]
    refine hK3 _ ?_
    clear hK3
    refine aw_ops zT fun K7 hK7 => ?_
    simp only [amset, amlib, zset, encSs_length, eq_self, ↓reduceIte, reduceCtorEq, Nat.reduceBEq, Nat.reduceEqDiff, Nat.reduceAdd, Nat.reduceMul, Nat.reduceLeDiff, Nat.reduceLT, Nat.reduceSub]
    refine hK7 _ ?_
    clear hK7
    refine aw_ret ?_
    show resOf zG _ [.tmp 4] = some _
    simp only [amset, amlib, zset, encSs_length, eq_self, ↓reduceIte, reduceCtorEq, Nat.reduceBEq, Nat.reduceEqDiff, Nat.reduceAdd, Nat.reduceMul, Nat.reduceLeDiff, Nat.reduceLT, Nat.reduceSub]
    rw [ssL_all _ _ hI]
  · intro dn y td harg hI R hR
    have hl : (l).length = dn.length + (td.length + 1) := by rw [harg]; simp
    have hmem : y ∈ l := by rw [harg]; simp
    refine aw_norm (by simp only [amset, amlib, zset, encSs_length, eq_self, ↓reduceIte, reduceCtorEq, Nat.reduceBEq, Nat.reduceEqDiff, Nat.reduceAdd, Nat.reduceMul, Nat.reduceLeDiff, Nat.reduceLT, Nat.reduceSub]; exact rfl) ?_
    have hget : (encSs (l)).getD dn.length [] = encS y := by rw [harg]; exact encSs_mid dn td y
    refine aw_ops zT fun K8 hK8 => ?_
    simp only [amset, amlib, zset, encSs_length, eq_self, ↓reduceIte, reduceCtorEq, Nat.reduceBEq, Nat.reduceEqDiff, Nat.reduceAdd, Nat.reduceMul, Nat.reduceLeDiff, Nat.reduceLT, Nat.reduceSub]
    refine hK8 _ ?_
    clear hK8
    refine aw_seq fun K9 hK9 => ?_
    refine aw_cond (t := true) (by simp [evalO, S.get, amLook]; omega) (fun _ => ?_) (fun h => nomatch h)
    refine aw_skip ?_
    simp only [thenQ, blkQ, if_true, reduceIte, Nat.reduceEqDiff, eq_self]
    refine hK9 _ ?_
    clear hK9
    refine aw_seq fun K10 hK10 => ?_
    refine aw_block ?_
    refine aw_ops zT fun K11 hK11 => ?_
    simp only [amset, amlib, zset, hget, encSs_length, eq_self, ↓reduceIte, reduceCtorEq, Nat.reduceBEq, Nat.reduceEqDiff, Nat.reduceAdd, Nat.reduceMul, Nat.reduceLeDiff, Nat.reduceLT, Nat.reduceSub]
    refine ⟨⟨by omega, by omega⟩, ?_⟩
    refine hK11 _ ?_
    clear hK11
    refine aw_ops zT fun K12 hK12 => ?_
    simp only [amset, amlib, zset, encSs_length, eq_self, ↓reduceIte, reduceCtorEq, Nat.reduceBEq, Nat.reduceEqDiff, Nat.reduceAdd, Nat.reduceMul, Nat.reduceLeDiff, Nat.reduceLT, Nat.reduceSub]
    refine ⟨_, ih y hmem, ?_⟩
    simp only [later]
    simp only [amset, amlib, zset, encSs_length, eq_self, ↓reduceIte, reduceCtorEq, Nat.reduceBEq, Nat.reduceEqDiff, Nat.reduceAdd, Nat.reduceMul, Nat.reduceLeDiff, Nat.reduceLT, Nat.reduceSub]
    refine ⟨⟨encSs_rows _, by have := flat_len (fun q => amFind q es) dn; have := stS_len (fun q => amFind q es) y; omega⟩, ?_⟩
    refine hK12 _ ?_
    clear hK12
    refine aw_ops zT fun K13 hK13 => ?_
    simp only [amset, amlib, zset, encSs_length, eq_self, ↓reduceIte, reduceCtorEq, Nat.reduceBEq, Nat.reduceEqDiff, Nat.reduceAdd, Nat.reduceMul, Nat.reduceLeDiff, Nat.reduceLT, Nat.reduceSub]
    refine hK13 _ ?_
    clear hK13
    refine aw_cond rfl (fun h0 => ?_) (fun h0 => ?_)
    · skip
      refine aw_exit ?_
      simp only [thenQ, blkQ, if_true, reduceIte, Nat.reduceEqDiff, eq_self]
      refine hK3 _ ?_
      clear hK3
      refine aw_ops zT fun K14 hK14 => ?_
      simp only [amset, amlib, zset, encSs_length, eq_self, ↓reduceIte, reduceCtorEq, Nat.reduceBEq, Nat.reduceEqDiff, Nat.reduceAdd, Nat.reduceMul, Nat.reduceLeDiff, Nat.reduceLT, Nat.reduceSub]
      refine hK14 _ ?_
      clear hK14
      refine aw_ret ?_
      show resOf zG _ [.tmp 4] = some _
      simp only [amset, amlib, zset, encSs_length, eq_self, ↓reduceIte, reduceCtorEq, Nat.reduceBEq, Nat.reduceEqDiff, Nat.reduceAdd, Nat.reduceMul, Nat.reduceLeDiff, Nat.reduceLT, Nat.reduceSub]
      rw [harg, ssL_mid _ _ _ _ hI h0, encSs_append]
    · skip
      refine aw_skip ?_
      simp only [thenQ, blkQ, if_true, reduceIte, Nat.reduceEqDiff, eq_self]
      refine hK10 _ ?_
      clear hK10
      refine aw_region zT ?_
      simp only [amset, amlib, zset, encSs_length, eq_self, ↓reduceIte, reduceCtorEq, Nat.reduceBEq, Nat.reduceEqDiff, Nat.reduceAdd, Nat.reduceMul, Nat.reduceLeDiff, Nat.reduceLT, Nat.reduceSub]
      refine ⟨⟨by omega, by omega⟩, ?_⟩
      refine hR _ (by rw [List.all_append, hI]; simp only [List.all_cons, List.all_nil, h0]; rfl) ?_
      refine Reach.trans (Reach.retag 18 0 1003 ?_) (Reach.to ?_ ?_)
      · simp only [amset, amlib, zset, encSs_length, eq_self, ↓reduceIte, reduceCtorEq, Nat.reduceBEq, Nat.reduceEqDiff, Nat.reduceAdd, Nat.reduceMul, Nat.reduceLeDiff, Nat.reduceLT, Nat.reduceSub]
      · simp only [amset, amlib, zset, encSs_length, eq_self, ↓reduceIte, reduceCtorEq, Nat.reduceBEq, Nat.reduceEqDiff, Nat.reduceAdd, Nat.reduceMul, Nat.reduceLeDiff, Nat.reduceLT, Nat.reduceSub] <;> simp [List.flatMap_append, List.flatMap_cons, List.flatMap_nil, List.append_nil, encSs_append, encSs_nil]
      · simp only [amset, amlib, zset, encSs_length, eq_self, ↓reduceIte, reduceCtorEq, Nat.reduceBEq, Nat.reduceEqDiff, Nat.reduceAdd, Nat.reduceMul, Nat.reduceLeDiff, Nat.reduceLT, Nat.reduceSub] <;> simp [List.flatMap_append, List.flatMap_cons, List.flatMap_nil, List.append_nil, encSs_append, encSs_nil]
theorem holds68 (es : List (List UInt8 × Int)) (hlk : lkOk (fun q => amFind q es)) (l : List St) (hl0 : l.length ≤ 1000000000000) (hx : okM l) : Holds Tryz.prog zG 68 [.agg [.map .i16 es], .c (.sl 7 (encSs l))] [.c (.sl 7 (encSs (ssL (fun q => amFind q es) l)))] :=
  step68 es hlk l hl0 fun y hy =>
    have h := okS_eq y ▸ okM_mem hx hy
    step145 es hlk y (okM_mem hx hy) (holds68 es hlk y.body h.1.2.2.2.2.1 h.2.1) (holds68 es hlk y.els h.1.2.2.2.2.2 h.2.2)
  termination_by SizeOf.sizeOf l
  decreasing_by
  · exact sizeOf_body hy
  · exact sizeOf_els hy
end Go.Proofs.Am
set_option maxRecDepth 100000
namespace Go.Proofs.Am
def numOk (n least : Int) : Bool := decide (n ≥ least) && decide (n ≤ 32767)
theorem prog103 : Tryz.prog.funcs[103]? = some Tryz.f103 := by kernel_rfl
theorem holds103 (n least : Int) : Holds Tryz.prog zG 103 [.c (.int .i64 n), .c (.int .i64 least)] [.c (.bool (numOk n least))] := by
  refine holds_of_body zT prog103 rfl rfl rfl (by simp [Tryz.f103]) ?_
  refine aw_ops zT fun K1 hK1 => ?_
  simp only [amset, amlib, zset, eq_self, ↓reduceIte, reduceCtorEq, Nat.reduceBEq, Nat.reduceEqDiff, Nat.reduceAdd, Nat.reduceMul, Nat.reduceLeDiff, Nat.reduceLT, Nat.reduceSub]
  refine hK1 _ ?_
  clear hK1
  refine aw_ops zT fun K2 hK2 => ?_
  cases g0 : decide (n ≥ least) with
  | true =>
    simp only [amset, amlib, zset, g0, eq_self, ↓reduceIte, reduceCtorEq, Nat.reduceBEq, Nat.reduceEqDiff, Nat.reduceAdd, Nat.reduceMul, Nat.reduceLeDiff, Nat.reduceLT, Nat.reduceSub]
    refine hK2 _ ?_
    clear hK2
    refine aw_ret ?_
    show resOf zG _ [.tmp 4] = some _
    simp only [amset, amlib, zset, eq_self, ↓reduceIte, reduceCtorEq, Nat.reduceBEq, Nat.reduceEqDiff, Nat.reduceAdd, Nat.reduceMul, Nat.reduceLeDiff, Nat.reduceLT, Nat.reduceSub]
    simp only [numOk, g0, Bool.true_or, Bool.or_true, Bool.false_or, Bool.or_false, Bool.true_and, Bool.and_true, Bool.false_and, Bool.and_false, Bool.not_true, Bool.not_false, if_true, if_false, ↓reduceIte, Bool.false_eq_true]
  | false =>
    simp only [amset, amlib, zset, g0, eq_self, ↓reduceIte, reduceCtorEq, Nat.reduceBEq, Nat.reduceEqDiff, Nat.reduceAdd, Nat.reduceMul, Nat.reduceLeDiff, Nat.reduceLT, Nat.reduceSub]
    refine hK2 _ ?_
    clear hK2
    refine aw_ret ?_
    show resOf zG _ [.tmp 4] = some _
    simp only [amset, amlib, zset, eq_self, ↓reduceIte, reduceCtorEq, Nat.reduceBEq, Nat.reduceEqDiff, Nat.reduceAdd, Nat.reduceMul, Nat.reduceLeDiff, Nat.reduceLT, Nat.reduceSub]
    simp only [numOk, g0, Bool.true_or, Bool.or_true, Bool.false_or, Bool.or_false, Bool.true_and, Bool.and_true, Bool.false_and, Bool.and_false, Bool.not_true, Bool.not_false, if_true, if_false, ↓reduceIte, Bool.false_eq_true]
end Go.Proofs.Am
set_option maxRecDepth 100000
namespace Go.Proofs.Am
structure Sh where
  name : Bool
  n : Bool
  body : Bool
  els : Bool
  args : Int
def encSh (x : Sh) : List C := [.bool x.name, .bool x.n, .bool x.body, .bool x.els, .int .i64 x.args]
def shapeK (k : Int) : Sh × Bool :=
  if (k == 1 || k == 2 || k == 7 || k == 9) then (⟨true, false, false, false, 1⟩, true)
  else if (k == 3) then (⟨true, false, false, false, 2⟩, true)
  else if (k == 4) then (⟨false, false, true, true, 1⟩, true)
  else if (k == 5 || k == 10 || k == 11) then (⟨false, true, true, false, 0⟩, true)
  else if (k == 6) then (⟨false, false, true, false, 1⟩, true)
  else if (k == 8) then (⟨false, false, false, false, 1⟩, true)
  else if (k == 12 || k == 13) then (⟨false, false, false, false, 0⟩, true)
  else (⟨false, false, false, false, 0⟩, false)
theorem prog146 : Tryz.prog.funcs[146]? = some Tryz.f146 := by kernel_rfl
theorem holds146 (k : Int) : Holds Tryz.prog zG 146 [.c (.int .i64 k)] [.agg (encSh (shapeK k).1), .c (.bool (shapeK k).2)] := by
  refine holds_of_body zT prog146 rfl rfl rfl (by simp [Tryz.f146]) ?_
  refine aw_ops zT fun K1 hK1 => ?_
  simp only [amset, amlib, zset, eq_self, ↓reduceIte, reduceCtorEq, Nat.reduceBEq, Nat.reduceEqDiff, Nat.reduceAdd, Nat.reduceMul, Nat.reduceLeDiff, Nat.reduceLT, Nat.reduceSub]
  refine hK1 _ ?_
  clear hK1
  refine aw_seq fun K2 hK2 => ?_
  refine aw_ops zT fun K3 hK3 => ?_
  simp only [amset, amlib, zset, eq_self, ↓reduceIte, reduceCtorEq, Nat.reduceBEq, Nat.reduceEqDiff, Nat.reduceAdd, Nat.reduceMul, Nat.reduceLeDiff, Nat.reduceLT, Nat.reduceSub]
  refine hK3 _ ?_
  clear hK3
  refine aw_block ?_
  refine aw_seq fun K4 hK4 => ?_
  refine aw_ops zT fun K5 hK5 => ?_
  simp only [amset, amlib, zset, eq_self, ↓reduceIte, reduceCtorEq, Nat.reduceBEq, Nat.reduceEqDiff, Nat.reduceAdd, Nat.reduceMul, Nat.reduceLeDiff, Nat.reduceLT, Nat.reduceSub]
  refine hK5 _ ?_
  clear hK5
  refine aw_cond rfl (fun h0 => ?_) (fun h0 => ?_)
  · skip
    refine aw_norm (by simp only [amset, amlib, zset, h0, eq_self, ↓reduceIte, reduceCtorEq, Nat.reduceBEq, Nat.reduceEqDiff, Nat.reduceAdd, Nat.reduceMul, Nat.reduceLeDiff, Nat.reduceLT, Nat.reduceSub]; exact rfl) ?_
    refine aw_skip ?_
    simp only [thenQ, blkQ, if_true, reduceIte, Nat.reduceEqDiff, eq_self]
    refine hK4 _ ?_
    clear hK4
    refine aw_cond (t := true) rfl (fun _ => ?_) (fun h => nomatch h)
    refine aw_ops zT fun K6 hK6 => ?_
    simp only [amset, amlib, zset, eq_self, ↓reduceIte, reduceCtorEq, Nat.reduceBEq, Nat.reduceEqDiff, Nat.reduceAdd, Nat.reduceMul, Nat.reduceLeDiff, Nat.reduceLT, Nat.reduceSub]
    refine hK6 _ ?_
    clear hK6
    refine aw_ret ?_
    show resOf zG _ [.cell 2 184, .tmp 3] = some _
    simp only [amset, amlib, zset, eq_self, ↓reduceIte, reduceCtorEq, Nat.reduceBEq, Nat.reduceEqDiff, Nat.reduceAdd, Nat.reduceMul, Nat.reduceLeDiff, Nat.reduceLT, Nat.reduceSub]
    simp only [shapeK, encSh, h0, Bool.true_or, Bool.or_true, Bool.false_or, Bool.or_false, Bool.true_and, Bool.and_true, Bool.false_and, Bool.and_false, Bool.not_true, Bool.not_false, if_true, if_false, ↓reduceIte, Bool.false_eq_true]
  · skip
    refine aw_norm (by simp only [amset, amlib, zset, h0, eq_self, ↓reduceIte, reduceCtorEq, Nat.reduceBEq, Nat.reduceEqDiff, Nat.reduceAdd, Nat.reduceMul, Nat.reduceLeDiff, Nat.reduceLT, Nat.reduceSub]; exact rfl) ?_
    refine aw_ops zT fun K7 hK7 => ?_
    simp only [amset, amlib, zset, eq_self, ↓reduceIte, reduceCtorEq, Nat.reduceBEq, Nat.reduceEqDiff, Nat.reduceAdd, Nat.reduceMul, Nat.reduceLeDiff, Nat.reduceLT, Nat.reduceSub]
    refine hK7 _ ?_
    clear hK7
    refine aw_cond rfl (fun h1 => ?_) (fun h1 => ?_)
    · skip
      refine aw_norm (by simp only [amset, amlib, zset, h1, eq_self, ↓reduceIte, reduceCtorEq, Nat.reduceBEq, Nat.reduceEqDiff, Nat.reduceAdd, Nat.reduceMul, Nat.reduceLeDiff, Nat.reduceLT, Nat.reduceSub]; exact rfl) ?_
      refine aw_skip ?_
      simp only [thenQ, blkQ, if_true, reduceIte, Nat.reduceEqDiff, eq_self]
      refine hK4 _ ?_
      clear hK4
      refine aw_cond (t := true) rfl (fun _ => ?_) (fun h => nomatch h)
      refine aw_ops zT fun K8 hK8 => ?_
      simp only [amset, amlib, zset, eq_self, ↓reduceIte, reduceCtorEq, Nat.reduceBEq, Nat.reduceEqDiff, Nat.reduceAdd, Nat.reduceMul, Nat.reduceLeDiff, Nat.reduceLT, Nat.reduceSub]
      refine hK8 _ ?_
      clear hK8
      refine aw_ret ?_
      show resOf zG _ [.cell 2 184, .tmp 3] = some _
      simp only [amset, amlib, zset, eq_self, ↓reduceIte, reduceCtorEq, Nat.reduceBEq, Nat.reduceEqDiff, Nat.reduceAdd, Nat.reduceMul, Nat.reduceLeDiff, Nat.reduceLT, Nat.reduceSub]
      simp only [shapeK, encSh, h0, h1, Bool.true_or, Bool.or_true, Bool.false_or, Bool.or_false, Bool.true_and, Bool.and_true, Bool.false_and, Bool.and_false, Bool.not_true, Bool.not_false, if_true, if_false, ↓reduceIte, Bool.false_eq_true]
    · skip
      refine aw_norm (by simp only [amset, amlib, zset, h1, eq_self, ↓reduceIte, reduceCtorEq, Nat.reduceBEq, Nat.reduceEqDiff, Nat.reduceAdd, Nat.reduceMul, Nat.reduceLeDiff, Nat.reduceLT, Nat.reduceSub]; exact rfl) ?_
      refine aw_ops zT fun K9 hK9 => ?_
      simp only [amset, amlib, zset, eq_self, ↓reduceIte, reduceCtorEq, Nat.reduceBEq, Nat.reduceEqDiff, Nat.reduceAdd, Nat.reduceMul, Nat.reduceLeDiff, Nat.reduceLT, Nat.reduceSub]
      refine hK9 _ ?_
      clear hK9
      refine aw_cond rfl (fun h2 => ?_) (fun h2 => ?_)
      · skip
        refine aw_norm (by simp only [amset, amlib, zset, h2, eq_self, ↓reduceIte, reduceCtorEq, Nat.reduceBEq, Nat.reduceEqDiff, Nat.reduceAdd, Nat.reduceMul, Nat.reduceLeDiff, Nat.reduceLT, Nat.reduceSub]; exact rfl) ?_
        refine aw_skip ?_
        simp only [thenQ, blkQ, if_true, reduceIte, Nat.reduceEqDiff, eq_self]
        refine hK4 _ ?_
        clear hK4
        refine aw_cond (t := true) rfl (fun _ => ?_) (fun h => nomatch h)
        refine aw_ops zT fun K10 hK10 => ?_
        simp only [amset, amlib, zset, eq_self, ↓reduceIte, reduceCtorEq, Nat.reduceBEq, Nat.reduceEqDiff, Nat.reduceAdd, Nat.reduceMul, Nat.reduceLeDiff, Nat.reduceLT, Nat.reduceSub]
        refine hK10 _ ?_
        clear hK10
        refine aw_ret ?_
        show resOf zG _ [.cell 2 184, .tmp 3] = some _
        simp only [amset, amlib, zset, eq_self, ↓reduceIte, reduceCtorEq, Nat.reduceBEq, Nat.reduceEqDiff, Nat.reduceAdd, Nat.reduceMul, Nat.reduceLeDiff, Nat.reduceLT, Nat.reduceSub]
        simp only [shapeK, encSh, h0, h1, h2, Bool.true_or, Bool.or_true, Bool.false_or, Bool.or_false, Bool.true_and, Bool.and_true, Bool.false_and, Bool.and_false, Bool.not_true, Bool.not_false, if_true, if_false, ↓reduceIte, Bool.false_eq_true]
      · skip
        refine aw_norm (by simp only [amset, amlib, zset, h2, eq_self, ↓reduceIte, reduceCtorEq, Nat.reduceBEq, Nat.reduceEqDiff, Nat.reduceAdd, Nat.reduceMul, Nat.reduceLeDiff, Nat.reduceLT, Nat.reduceSub]; exact rfl) ?_
        refine aw_region zT ?_
        simp only [amset, amlib, zset, eq_self, ↓reduceIte, reduceCtorEq, Nat.reduceBEq, Nat.reduceEqDiff, Nat.reduceAdd, Nat.reduceMul, Nat.reduceLeDiff, Nat.reduceLT, Nat.reduceSub]
        refine hK4 _ ?_
        clear hK4
        refine aw_cond rfl (fun h3 => ?_) (fun h3 => ?_)
        · skip
          refine aw_norm (by simp only [amset, amlib, zset, h3, eq_self, ↓reduceIte, reduceCtorEq, Nat.reduceBEq, Nat.reduceEqDiff, Nat.reduceAdd, Nat.reduceMul, Nat.reduceLeDiff, Nat.reduceLT, Nat.reduceSub]; exact rfl) ?_
          refine aw_ops zT fun K11 hK11 => ?_
          simp only [amset, amlib, zset, eq_self, ↓reduceIte, reduceCtorEq, Nat.reduceBEq, Nat.reduceEqDiff, Nat.reduceAdd, Nat.reduceMul, Nat.reduceLeDiff, Nat.reduceLT, Nat.reduceSub]
          refine hK11 _ ?_
          clear hK11
          refine aw_ret ?_
          show resOf zG _ [.cell 2 184, .tmp 3] = some _
          simp only [amset, amlib, zset, eq_self, ↓reduceIte, reduceCtorEq, Nat.reduceBEq, Nat.reduceEqDiff, Nat.reduceAdd, Nat.reduceMul, Nat.reduceLeDiff, Nat.reduceLT, Nat.reduceSub]
          simp only [shapeK, encSh, h0, h1, h2, h3, Bool.true_or, Bool.or_true, Bool.false_or, Bool.or_false, Bool.true_and, Bool.and_true, Bool.false_and, Bool.and_false, Bool.not_true, Bool.not_false, if_true, if_false, ↓reduceIte, Bool.false_eq_true]
        · skip
          refine aw_norm (by simp only [amset, amlib, zset, h3, eq_self, ↓reduceIte, reduceCtorEq, Nat.reduceBEq, Nat.reduceEqDiff, Nat.reduceAdd, Nat.reduceMul, Nat.reduceLeDiff, Nat.reduceLT, Nat.reduceSub]; exact rfl) ?_
          refine aw_ops zT fun K12 hK12 => ?_
          simp only [amset, amlib, zset, eq_self, ↓reduceIte, reduceCtorEq, Nat.reduceBEq, Nat.reduceEqDiff, Nat.reduceAdd, Nat.reduceMul, Nat.reduceLeDiff, Nat.reduceLT, Nat.reduceSub]
          refine hK12 _ ?_
          clear hK12
          refine aw_cond rfl (fun h4 => ?_) (fun h4 => ?_)
          · skip
            refine aw_ops zT fun K13 hK13 => ?_
            simp only [amset, amlib, zset, eq_self, ↓reduceIte, reduceCtorEq, Nat.reduceBEq, Nat.reduceEqDiff, Nat.reduceAdd, Nat.reduceMul, Nat.reduceLeDiff, Nat.reduceLT, Nat.reduceSub]
            refine hK13 _ ?_
            clear hK13
            refine aw_ret ?_
            show resOf zG _ [.cell 2 184, .tmp 3] = some _
            simp only [amset, amlib, zset, eq_self, ↓reduceIte, reduceCtorEq, Nat.reduceBEq, Nat.reduceEqDiff, Nat.reduceAdd, Nat.reduceMul, Nat.reduceLeDiff, Nat.reduceLT, Nat.reduceSub]
            simp only [shapeK, encSh, h0, h1, h2, h3, h4, Bool.true_or, Bool.or_true, Bool.false_or, Bool.or_false, Bool.true_and, Bool.and_true, Bool.false_and, Bool.and_false, Bool.not_true, Bool.not_false, if_true, if_false, ↓reduceIte, Bool.false_eq_true]
          · skip
            refine aw_ops zT fun K14 hK14 => ?_
            simp only [amset, amlib, zset, eq_self, ↓reduceIte, reduceCtorEq, Nat.reduceBEq, Nat.reduceEqDiff, Nat.reduceAdd, Nat.reduceMul, Nat.reduceLeDiff, Nat.reduceLT, Nat.reduceSub]
            refine hK14 _ ?_
            clear hK14
            refine aw_cond rfl (fun h5 => ?_) (fun h5 => ?_)
            · skip
              refine aw_ops zT fun K15 hK15 => ?_
              simp only [amset, amlib, zset, eq_self, ↓reduceIte, reduceCtorEq, Nat.reduceBEq, Nat.reduceEqDiff, Nat.reduceAdd, Nat.reduceMul, Nat.reduceLeDiff, Nat.reduceLT, Nat.reduceSub]
              refine hK15 _ ?_
              clear hK15
              refine aw_ret ?_
              show resOf zG _ [.cell 2 184, .tmp 3] = some _
              simp only [amset, amlib, zset, eq_self, ↓reduceIte, reduceCtorEq, Nat.reduceBEq, Nat.reduceEqDiff, Nat.reduceAdd, Nat.reduceMul, Nat.reduceLeDiff, Nat.reduceLT, Nat.reduceSub]
              simp only [shapeK, encSh, h0, h1, h2, h3, h4, h5, Bool.true_or, Bool.or_true, Bool.false_or, Bool.or_false, Bool.true_and, Bool.and_true, Bool.false_and, Bool.and_false, Bool.not_true, Bool.not_false, if_true, if_false, ↓reduceIte, Bool.false_eq_true]
            · skip
              refine aw_seq fun K16 hK16 => ?_
              refine aw_ops zT fun K17 hK17 => ?_
              simp only [amset, amlib, zset, eq_self, ↓reduceIte, reduceCtorEq, Nat.reduceBEq, Nat.reduceEqDiff, Nat.reduceAdd, Nat.reduceMul, Nat.reduceLeDiff, Nat.reduceLT, Nat.reduceSub]
              refine hK17 _ ?_
              clear hK17
              refine aw_cond rfl (fun h6 => ?_) (fun h6 => ?_)
              · skip
                refine aw_norm (by simp only [amset, amlib, zset, h6, eq_self, ↓reduceIte, reduceCtorEq, Nat.reduceBEq, Nat.reduceEqDiff, Nat.reduceAdd, Nat.reduceMul, Nat.reduceLeDiff, Nat.reduceLT, Nat.reduceSub]; exact rfl) ?_
                refine aw_skip ?_
                simp only [thenQ, blkQ, if_true, reduceIte, Nat.reduceEqDiff, eq_self]
                refine hK16 _ ?_
                clear hK16
                refine aw_cond (t := true) rfl (fun _ => ?_) (fun h => nomatch h)
                refine aw_ops zT fun K18 hK18 => ?_
                simp only [amset, amlib, zset, eq_self, ↓reduceIte, reduceCtorEq, Nat.reduceBEq, Nat.reduceEqDiff, Nat.reduceAdd, Nat.reduceMul, Nat.reduceLeDiff, Nat.reduceLT, Nat.reduceSub]
                refine hK18 _ ?_
                clear hK18
                refine aw_ret ?_
                show resOf zG _ [.cell 2 184, .tmp 3] = some _
                simp only [amset, amlib, zset, eq_self, ↓reduceIte, reduceCtorEq, Nat.reduceBEq, Nat.reduceEqDiff, Nat.reduceAdd, Nat.reduceMul, Nat.reduceLeDiff, Nat.reduceLT, Nat.reduceSub]
                simp only [shapeK, encSh, h0, h1, h2, h3, h4, h5, h6, Bool.true_or, Bool.or_true, Bool.false_or, Bool.or_false, Bool.true_and, Bool.and_true, Bool.false_and, Bool.and_false, Bool.not_true, Bool.not_false, if_true, if_false, ↓reduceIte, Bool.false_eq_true]
              · skip
                refine aw_norm (by simp only [amset, amlib, zset, h6, eq_self, ↓reduceIte, reduceCtorEq, Nat.reduceBEq, Nat.reduceEqDiff, Nat.reduceAdd, Nat.reduceMul, Nat.reduceLeDiff, Nat.reduceLT, Nat.reduceSub]; exact rfl) ?_
                refine aw_ops zT fun K19 hK19 => ?_
                simp only [amset, amlib, zset, eq_self, ↓reduceIte, reduceCtorEq, Nat.reduceBEq, Nat.reduceEqDiff, Nat.reduceAdd, Nat.reduceMul, Nat.reduceLeDiff, Nat.reduceLT, Nat.reduceSub]
                refine hK19 _ ?_
                clear hK19
                refine aw_cond rfl (fun h7 => ?_) (fun h7 => ?_)
                · skip
                  refine aw_norm (by simp only [amset, amlib, zset, h7, eq_self, ↓reduceIte, reduceCtorEq, Nat.reduceBEq, Nat.reduceEqDiff, Nat.reduceAdd, Nat.reduceMul, Nat.reduceLeDiff, Nat.reduceLT, Nat.reduceSub]; exact rfl) ?_
                  refine aw_skip ?_
                  simp only [thenQ, blkQ, if_true, reduceIte, Nat.reduceEqDiff, eq_self]
                  refine hK16 _ ?_
                  clear hK16
                  refine aw_cond (t := true) rfl (fun _ => ?_) (fun h => nomatch h)
                  refine aw_ops zT fun K20 hK20 => ?_
                  simp only [amset, amlib, zset, eq_self, ↓reduceIte, reduceCtorEq, Nat.reduceBEq, Nat.reduceEqDiff, Nat.reduceAdd, Nat.reduceMul, Nat.reduceLeDiff, Nat.reduceLT, Nat.reduceSub]
                  refine hK20 _ ?_
                  clear hK20
                  refine aw_ret ?_
                  show resOf zG _ [.cell 2 184, .tmp 3] = some _
                  simp only [amset, amlib, zset, eq_self, ↓reduceIte, reduceCtorEq, Nat.reduceBEq, Nat.reduceEqDiff, Nat.reduceAdd, Nat.reduceMul, Nat.reduceLeDiff, Nat.reduceLT, Nat.reduceSub]
                  simp only [shapeK, encSh, h0, h1, h2, h3, h4, h5, h6, h7, Bool.true_or, Bool.or_true, Bool.false_or, Bool.or_false, Bool.true_and, Bool.and_true, Bool.false_and, Bool.and_false, Bool.not_true, Bool.not_false, if_true, if_false, ↓reduceIte, Bool.false_eq_true]
                · skip
                  refine aw_norm (by simp only [amset, amlib, zset, h7, eq_self, ↓reduceIte, reduceCtorEq, Nat.reduceBEq, Nat.reduceEqDiff, Nat.reduceAdd, Nat.reduceMul, Nat.reduceLeDiff, Nat.reduceLT, Nat.reduceSub]; exact rfl) ?_
                  refine aw_region zT ?_
                  simp only [amset, amlib, zset, eq_self, ↓reduceIte, reduceCtorEq, Nat.reduceBEq, Nat.reduceEqDiff, Nat.reduceAdd, Nat.reduceMul, Nat.reduceLeDiff, Nat.reduceLT, Nat.reduceSub]
                  refine hK16 _ ?_
                  clear hK16
                  refine aw_cond rfl (fun h8 => ?_) (fun h8 => ?_)
                  · skip
                    refine aw_norm (by simp only [amset, amlib, zset, h8, eq_self, ↓reduceIte, reduceCtorEq, Nat.reduceBEq, Nat.reduceEqDiff, Nat.reduceAdd, Nat.reduceMul, Nat.reduceLeDiff, Nat.reduceLT, Nat.reduceSub]; exact rfl) ?_
                    refine aw_ops zT fun K21 hK21 => ?_
                    simp only [amset, amlib, zset, eq_self, ↓reduceIte, reduceCtorEq, Nat.reduceBEq, Nat.reduceEqDiff, Nat.reduceAdd, Nat.reduceMul, Nat.reduceLeDiff, Nat.reduceLT, Nat.reduceSub]
                    refine hK21 _ ?_
                    clear hK21
                    refine aw_ret ?_
                    show resOf zG _ [.cell 2 184, .tmp 3] = some _
                    simp only [amset, amlib, zset, eq_self, ↓reduceIte, reduceCtorEq, Nat.reduceBEq, Nat.reduceEqDiff, Nat.reduceAdd, Nat.reduceMul, Nat.reduceLeDiff, Nat.reduceLT, Nat.reduceSub]
                    simp only [shapeK, encSh, h0, h1, h2, h3, h4, h5, h6, h7, h8, Bool.true_or, Bool.or_true, Bool.false_or, Bool.or_false, Bool.true_and, Bool.and_true, Bool.false_and, Bool.and_false, Bool.not_true, Bool.not_false, if_true, if_false, ↓reduceIte, Bool.false_eq_true]
                  · skip
                    refine aw_norm (by simp only [amset, amlib, zset, h8, eq_self, ↓reduceIte, reduceCtorEq, Nat.reduceBEq, Nat.reduceEqDiff, Nat.reduceAdd, Nat.reduceMul, Nat.reduceLeDiff, Nat.reduceLT, Nat.reduceSub]; exact rfl) ?_
                    refine aw_ops zT fun K22 hK22 => ?_
                    simp only [amset, amlib, zset, eq_self, ↓reduceIte, reduceCtorEq, Nat.reduceBEq, Nat.reduceEqDiff, Nat.reduceAdd, Nat.reduceMul, Nat.reduceLeDiff, Nat.reduceLT, Nat.reduceSub]
                    refine hK22 _ ?_
                    clear hK22
                    refine aw_cond rfl (fun h9 => ?_) (fun h9 => ?_)
                    · skip
                      refine aw_ops zT fun K23 hK23 => ?_
                      simp only [amset, amlib, zset, eq_self, ↓reduceIte, reduceCtorEq, Nat.reduceBEq, Nat.reduceEqDiff, Nat.reduceAdd, Nat.reduceMul, Nat.reduceLeDiff, Nat.reduceLT, Nat.reduceSub]
                      refine hK23 _ ?_
                      clear hK23
                      refine aw_ret ?_
                      show resOf zG _ [.cell 2 184, .tmp 3] = some _
                      simp only [amset, amlib, zset, eq_self, ↓reduceIte, reduceCtorEq, Nat.reduceBEq, Nat.reduceEqDiff, Nat.reduceAdd, Nat.reduceMul, Nat.reduceLeDiff, Nat.reduceLT, Nat.reduceSub]
                      simp only [shapeK, encSh, h0, h1, h2, h3, h4, h5, h6, h7, h8, h9, Bool.true_or, Bool.or_true, Bool.false_or, Bool.or_false, Bool.true_and, Bool.and_true, Bool.false_and, Bool.and_false, Bool.not_true, Bool.not_false, if_true, if_false, ↓reduceIte, Bool.false_eq_true]
                    · skip
                      refine aw_ops zT fun K24 hK24 => ?_
                      simp only [amset, amlib, zset, eq_self, ↓reduceIte, reduceCtorEq, Nat.reduceBEq, Nat.reduceEqDiff, Nat.reduceAdd, Nat.reduceMul, Nat.reduceLeDiff, Nat.reduceLT, Nat.reduceSub]
                      refine hK24 _ ?_
                      clear hK24
                      refine aw_cond rfl (fun h10 => ?_) (fun h10 => ?_)
                      · skip
                        refine aw_ops zT fun K25 hK25 => ?_
                        simp only [amset, amlib, zset, eq_self, ↓reduceIte, reduceCtorEq, Nat.reduceBEq, Nat.reduceEqDiff, Nat.reduceAdd, Nat.reduceMul, Nat.reduceLeDiff, Nat.reduceLT, Nat.reduceSub]
                        refine hK25 _ ?_
                        clear hK25
                        refine aw_ret ?_
                        show resOf zG _ [.cell 2 184, .tmp 3] = some _
                        simp only [amset, amlib, zset, eq_self, ↓reduceIte, reduceCtorEq, Nat.reduceBEq, Nat.reduceEqDiff, Nat.reduceAdd, Nat.reduceMul, Nat.reduceLeDiff, Nat.reduceLT, Nat.reduceSub]
                        simp only [shapeK, encSh, h0, h1, h2, h3, h4, h5, h6, h7, h8, h9, h10, Bool.true_or, Bool.or_true, Bool.false_or, Bool.or_false, Bool.true_and, Bool.and_true, Bool.false_and, Bool.and_false, Bool.not_true, Bool.not_false, if_true, if_false, ↓reduceIte, Bool.false_eq_true]
                      · skip
                        refine aw_seq fun K26 hK26 => ?_
                        refine aw_ops zT fun K27 hK27 => ?_
                        simp only [amset, amlib, zset, eq_self, ↓reduceIte, reduceCtorEq, Nat.reduceBEq, Nat.reduceEqDiff, Nat.reduceAdd, Nat.reduceMul, Nat.reduceLeDiff, Nat.reduceLT, Nat.reduceSub]
                        refine hK27 _ ?_
                        clear hK27
                        refine aw_cond rfl (fun h11 => ?_) (fun h11 => ?_)
                        · skip
                          refine aw_norm (by simp only [amset, amlib, zset, h11, eq_self, ↓reduceIte, reduceCtorEq, Nat.reduceBEq, Nat.reduceEqDiff, Nat.reduceAdd, Nat.reduceMul, Nat.reduceLeDiff, Nat.reduceLT, Nat.reduceSub]; exact rfl) ?_
                          refine aw_skip ?_
                          simp only [thenQ, blkQ, if_true, reduceIte, Nat.reduceEqDiff, eq_self]
                          refine hK26 _ ?_
                          clear hK26
                          refine aw_cond (t := true) rfl (fun _ => ?_) (fun h => nomatch h)
                          refine aw_ops zT fun K28 hK28 => ?_
                          simp only [amset, amlib, zset, eq_self, ↓reduceIte, reduceCtorEq, Nat.reduceBEq, Nat.reduceEqDiff, Nat.reduceAdd, Nat.reduceMul, Nat.reduceLeDiff, Nat.reduceLT, Nat.reduceSub]
                          refine hK28 _ ?_
                          clear hK28
                          refine aw_ret ?_
                          show resOf zG _ [.cell 2 184, .tmp 3] = some _
                          simp only [amset, amlib, zset, eq_self, ↓reduceIte, reduceCtorEq, Nat.reduceBEq, Nat.reduceEqDiff, Nat.reduceAdd, Nat.reduceMul, Nat.reduceLeDiff, Nat.reduceLT, Nat.reduceSub]
                          simp only [shapeK, encSh, h0, h1, h2, h3, h4, h5, h6, h7, h8, h9, h10, h11, Bool.true_or, Bool.or_true, Bool.false_or, Bool.or_false, Bool.true_and, Bool.and_true, Bool.false_and, Bool.and_false, Bool.not_true, Bool.not_false, if_true, if_false, ↓reduceIte, Bool.false_eq_true]
                        · skip
                          refine aw_norm (by simp only [amset, amlib, zset, h11, eq_self, ↓reduceIte, reduceCtorEq, Nat.reduceBEq, Nat.reduceEqDiff, Nat.reduceAdd, Nat.reduceMul, Nat.reduceLeDiff, Nat.reduceLT, Nat.reduceSub]; exact rfl) ?_
                          refine aw_region zT ?_
                          simp only [amset, amlib, zset, eq_self, ↓reduceIte, reduceCtorEq, Nat.reduceBEq, Nat.reduceEqDiff, Nat.reduceAdd, Nat.reduceMul, Nat.reduceLeDiff, Nat.reduceLT, Nat.reduceSub]
                          refine hK26 _ ?_
                          clear hK26
                          refine aw_cond rfl (fun h12 => ?_) (fun h12 => ?_)
                          · skip
                            refine aw_norm (by simp only [amset, amlib, zset, h12, eq_self, ↓reduceIte, reduceCtorEq, Nat.reduceBEq, Nat.reduceEqDiff, Nat.reduceAdd, Nat.reduceMul, Nat.reduceLeDiff, Nat.reduceLT, Nat.reduceSub]; exact rfl) ?_
                            refine aw_ops zT fun K29 hK29 => ?_
                            simp only [amset, amlib, zset, eq_self, ↓reduceIte, reduceCtorEq, Nat.reduceBEq, Nat.reduceEqDiff, Nat.reduceAdd, Nat.reduceMul, Nat.reduceLeDiff, Nat.reduceLT, Nat.reduceSub]
                            refine hK29 _ ?_
                            clear hK29
                            refine aw_ret ?_
                            show resOf zG _ [.cell 2 184, .tmp 3] = some _
                            simp only [amset, amlib, zset, eq_self, ↓reduceIte, reduceCtorEq, Nat.reduceBEq, Nat.reduceEqDiff, Nat.reduceAdd, Nat.reduceMul, Nat.reduceLeDiff, Nat.reduceLT, Nat.reduceSub]
                            simp only [shapeK, encSh, h0, h1, h2, h3, h4, h5, h6, h7, h8, h9, h10, h11, h12, Bool.true_or, Bool.or_true, Bool.false_or, Bool.or_false, Bool.true_and, Bool.and_true, Bool.false_and, Bool.and_false, Bool.not_true, Bool.not_false, if_true, if_false, ↓reduceIte, Bool.false_eq_true]
                          · skip
                            refine aw_norm (by simp only [amset, amlib, zset, h12, eq_self, ↓reduceIte, reduceCtorEq, Nat.reduceBEq, Nat.reduceEqDiff, Nat.reduceAdd, Nat.reduceMul, Nat.reduceLeDiff, Nat.reduceLT, Nat.reduceSub]; exact rfl) ?_
                            refine aw_skip ?_
                            simp only [thenQ, blkQ, if_true, reduceIte, Nat.reduceEqDiff, eq_self]
                            refine hK2 _ ?_
                            clear hK2
                            refine aw_ops zT fun K30 hK30 => ?_
                            simp only [amset, amlib, zset, eq_self, ↓reduceIte, reduceCtorEq, Nat.reduceBEq, Nat.reduceEqDiff, Nat.reduceAdd, Nat.reduceMul, Nat.reduceLeDiff, Nat.reduceLT, Nat.reduceSub]
                            refine hK30 _ ?_
                            clear hK30
                            refine aw_ret ?_
                            show resOf zG _ [.cell 2 184, .tmp 3] = some _
                            simp only [amset, amlib, zset, eq_self, ↓reduceIte, reduceCtorEq, Nat.reduceBEq, Nat.reduceEqDiff, Nat.reduceAdd, Nat.reduceMul, Nat.reduceLeDiff, Nat.reduceLT, Nat.reduceSub]
                            simp only [shapeK, encSh, h0, h1, h2, h3, h4, h5, h6, h7, h8, h9, h10, h11, h12, Bool.true_or, Bool.or_true, Bool.false_or, Bool.or_false, Bool.true_and, Bool.and_true, Bool.false_and, Bool.and_false, Bool.not_true, Bool.not_false, if_true, if_false, ↓reduceIte, Bool.false_eq_true]
end Go.Proofs.Am
set_option maxRecDepth 100000
set_option maxHeartbeats 4000000
namespace Go.Proofs.Am
def stBad (y : St) : Bool := (!(shapeK y.kind).2) || ((y.args.length : Int) != (shapeK y.kind).1.args) || ((shapeK y.kind).1.name && (!ident y.name)) || (!(shapeK y.kind).1.name && (!(y.name == []))) || (!numOk y.n 0) || (!(shapeK y.kind).1.n && (y.n != 0)) || (!(shapeK y.kind).1.body && decide ((y.body.length : Int) > 0)) || (!(shapeK y.kind).1.els && decide ((y.els.length : Int) > 0))
mutual
def stOK : St → Bool
  | .mk k n v a b e p => !stBad (.mk k n v a b e p) && exOKs a && stsOK b && stsOK e
def stsOK : List St → Bool
  | [] => true
  | x :: r => stOK x && stsOK r
end
theorem stOK_eq (x : St) : stOK x = (!stBad x && exOKs x.args && stsOK x.body && stsOK x.els) := by cases x; rfl
theorem stsOK_append (a b : List St) : stsOK (a ++ b) = (stsOK a && stsOK b) := by
  induction a with
  | nil => rfl
  | cons x r ih => simp [stsOK, ih, Bool.and_assoc]
theorem prog69 : Tryz.prog.funcs[69]? = some Tryz.f69 := by kernel_rfl
theorem step69 (l : List St) (ih : ∀ m : List St, SizeOf.sizeOf m < SizeOf.sizeOf l → Holds Tryz.prog zG 69 [.c (.sl 7 (encSs m))] [.c (.bool (stsOK m))]) : Holds Tryz.prog zG 69 [.c (.sl 7 (encSs l))] [.c (.bool (stsOK l))] := by
  refine holds_of_body zT prog69 rfl rfl rfl (by simp [Tryz.f69]) ?_
  refine aw_ops zT fun K1 hK1 => ?_
  simp only [amset, amlib, zset, encSh, eq_self, ↓reduceIte, reduceCtorEq, Nat.reduceBEq, Nat.reduceEqDiff, Nat.reduceAdd, Nat.reduceMul, Nat.reduceLeDiff, Nat.reduceLT, Nat.reduceSub]
  refine hK1 _ ?_
  clear hK1
  refine aw_seq fun K2 hK2 => ?_
  refine aw_ops zT fun K3 hK3 => ?_
  simp only [amset, amlib, zset, encSh, eq_self, ↓reduceIte, reduceCtorEq, Nat.reduceBEq, Nat.reduceEqDiff, Nat.reduceAdd, Nat.reduceMul, Nat.reduceLeDiff, Nat.reduceLT, Nat.reduceSub]
  intros
  refine hK3 _ ?_
  clear hK3
  refine aw_block ?_
  refine aw_to ⟨[(9, .cell (.c (.sl 7 (encSs l)))), (10, .cell (.c (.int .i64 l.length))), (11, .cell (.c (.int .i64 0)))], []⟩ ?_ ?_ ?_
  · simp only [amset, amlib, zset, encSh, eq_self, ↓reduceIte, reduceCtorEq, Nat.reduceBEq, Nat.reduceEqDiff, Nat.reduceAdd, Nat.reduceMul, Nat.reduceLeDiff, Nat.reduceLT, Nat.reduceSub] <;> simp [eq_self]
  · simp only [amset, amlib, zset, encSh, eq_self, ↓reduceIte, reduceCtorEq, Nat.reduceBEq, Nat.reduceEqDiff, Nat.reduceAdd, Nat.reduceMul, Nat.reduceLeDiff, Nat.reduceLT, Nat.reduceSub] <;> simp [eq_self]
  refine aw_range (α := St) (l) (fun dn => stsOK dn = true) (fun dn => [(11, .cell (.c (.int .i64 dn.length)))]) (fun dn => []) [] [2, 4, 5, 6, 8, 11, 12, 13, 14, 15, 16, 17, 18, 19, 20, 21, 22, 23, 24, 25, 26, 27, 28, 29, 30, 31, 32, 33, 34, 35, 36, 37, 38, 39, 40, 41, 42, 43, 44, 45, 46, 47, 48, 49, 50, 51, 52, 53, 54, 55, 56, 57, 58, 59, 60, 61, 62, 63, 64, 65, 66, 67, 68, 69, 70, 71, 72, 73, 74, 75, 76, 77, 78, 79, 80, 81, 82, 83, 84, 85, 86, 87, 88, 89, 90, 91, 92, 93, 94, 95, 96, 97, 98, 99, 100, 101, 102, 103, 104, 105, 106, 107, 108, 109, 110] [4, 5, 8] rfl ?_ ?_ ?_ ?_
  · simp only [amset, amlib, zset, encSh, eq_self, ↓reduceIte, reduceCtorEq, Nat.reduceBEq, Nat.reduceEqDiff, Nat.reduceAdd, Nat.reduceMul, Nat.reduceLeDiff, Nat.reduceLT, Nat.reduceSub] <;> simp [eq_self]
  · simp only [amset, amlib, zset, encSh, eq_self, ↓reduceIte, reduceCtorEq, Nat.reduceBEq, Nat.reduceEqDiff, Nat.reduceAdd, Nat.reduceMul, Nat.reduceLeDiff, Nat.reduceLT, Nat.reduceSub] <;> simp [eq_self]
  · intro hI R
    refine aw_norm (by simp only [amset, amlib, zset, encSh, eq_self, ↓reduceIte, reduceCtorEq, Nat.reduceBEq, Nat.reduceEqDiff, Nat.reduceAdd, Nat.reduceMul, Nat.reduceLeDiff, Nat.reduceLT, Nat.reduceSub]; exact rfl) ?_
    refine aw_ops zT fun K4 hK4 => ?_
    simp only [amset, amlib, zset, encSh, eq_self, ↓reduceIte, reduceCtorEq, Nat.reduceBEq, Nat.reduceEqDiff, Nat.reduceAdd, Nat.reduceMul, Nat.reduceLeDiff, Nat.reduceLT, Nat.reduceSub]
    refine hK4 _ ?_
    clear hK4
    refine aw_seq fun K5 hK5 => ?_
    refine aw_cond (t := false) (by simp [evalO, S.get, amLook]) (fun h => nomatch h) (fun _ => ?_)
    refine aw_exit ?_
    simp only [thenQ, blkQ, if_true, reduceIte, Nat.reduceEqDiff, eq_self]
    refine hK2 _ ?_
    clear hK2
    refine aw_ops zT fun K6 hK6 => ?_
    simp only [amset, amlib, zset, encSh, eq_self, ↓reduceIte, reduceCtorEq, Nat.reduceBEq, Nat.reduceEqDiff, Nat.reduceAdd, Nat.reduceMul, Nat.reduceLeDiff, Nat.reduceLT, Nat.reduceSub]
    refine hK6 _ ?_
    clear hK6
    refine aw_ret ?_
    show resOf zG _ [.tmp 2] = some _
    simp only [amset, amlib, zset, encSh, eq_self, ↓reduceIte, reduceCtorEq, Nat.reduceBEq, Nat.reduceEqDiff, Nat.reduceAdd, Nat.reduceMul, Nat.reduceLeDiff, Nat.reduceLT, Nat.reduceSub]
    simp only [hI]
  · intro dn y td harg hI R hR
    have hl : (l).length = dn.length + (td.length + 1) := by rw [harg]; simp
    have hmem : y ∈ l := by rw [harg]; simp
    refine aw_norm (by simp only [amset, amlib, zset, encSh, eq_self, ↓reduceIte, reduceCtorEq, Nat.reduceBEq, Nat.reduceEqDiff, Nat.reduceAdd, Nat.reduceMul, Nat.reduceLeDiff, Nat.reduceLT, Nat.reduceSub]; exact rfl) ?_
    have hget : (encSs (l)).getD dn.length [] = encS y := by rw [harg]; exact encSs_mid dn td y
    refine aw_ops zT fun K7 hK7 => ?_
    simp only [amset, amlib, zset, encSh, eq_self, ↓reduceIte, reduceCtorEq, Nat.reduceBEq, Nat.reduceEqDiff, Nat.reduceAdd, Nat.reduceMul, Nat.reduceLeDiff, Nat.reduceLT, Nat.reduceSub]
    refine hK7 _ ?_
    clear hK7
    refine aw_seq fun K8 hK8 => ?_
    refine aw_cond (t := true) (by simp [evalO, S.get, amLook]; omega) (fun _ => ?_) (fun h => nomatch h)
    refine aw_skip ?_
    simp only [thenQ, blkQ, if_true, reduceIte, Nat.reduceEqDiff, eq_self]
    refine hK8 _ ?_
    clear hK8
    refine aw_seq fun K9 hK9 => ?_
    refine aw_block ?_
    refine aw_ops zT fun K10 hK10 => ?_
    simp only [amset, amlib, zset, hget, encSh, eq_self, ↓reduceIte, reduceCtorEq, Nat.reduceBEq, Nat.reduceEqDiff, Nat.reduceAdd, Nat.reduceMul, Nat.reduceLeDiff, Nat.reduceLT, Nat.reduceSub]
    refine ⟨⟨by omega, by omega⟩, ?_⟩
    refine hK10 _ ?_
    clear hK10
    refine aw_ops zT fun K11 hK11 => ?_
    simp only [amset, amlib, zset, encSh, eq_self, ↓reduceIte, reduceCtorEq, Nat.reduceBEq, Nat.reduceEqDiff, Nat.reduceAdd, Nat.reduceMul, Nat.reduceLeDiff, Nat.reduceLT, Nat.reduceSub]
    refine ⟨_, holds146 y.kind, ?_⟩
    simp only [later]
    simp only [amset, amlib, zset, encSh, eq_self, ↓reduceIte, reduceCtorEq, Nat.reduceBEq, Nat.reduceEqDiff, Nat.reduceAdd, Nat.reduceMul, Nat.reduceLeDiff, Nat.reduceLT, Nat.reduceSub]
    refine hK11 _ ?_
    clear hK11
    refine aw_seq fun K12 hK12 => ?_
    refine aw_ops zT fun K13 hK13 => ?_
    have keyK13 : ∀ E B, envIn E ([(4, .ptr 4 0), (9, .cell (.c (.sl 7 (encSs l)))), (10, .cell (.c (.int .i64 l.length))), (11, .cell (.c (.int .i64 dn.length))), (88, .cell (.c (.bool (stBad y))))] : List (Nat × V)) → envIn B ([(4, (encS y).map .c)] : List (Nat × List Cell)) → K13 ⟨E, B⟩ := by
      intro E B he hb
      refine hK13 _ (aw_to ⟨[(4, .ptr 4 0), (9, .cell (.c (.sl 7 (encSs l)))), (10, .cell (.c (.int .i64 l.length))), (11, .cell (.c (.int .i64 dn.length))), (88, .cell (.c (.bool (stBad y))))], [(4, (encS y).map .c)]⟩ he hb ?_)
      refine aw_cond rfl (fun h0 => ?_) (fun h0 => ?_)
      · skip
        refine aw_ops zT fun K14 hK14 => ?_
        simp only [amset, amlib, zset, encSh, eq_self, ↓reduceIte, reduceCtorEq, Nat.reduceBEq, Nat.reduceEqDiff, Nat.reduceAdd, Nat.reduceMul, Nat.reduceLeDiff, Nat.reduceLT, Nat.reduceSub]
        refine hK14 _ ?_
        clear hK14
        refine aw_ret ?_
        show resOf zG _ [.tmp 2] = some _
        simp only [amset, amlib, zset, encSh, eq_self, ↓reduceIte, reduceCtorEq, Nat.reduceBEq, Nat.reduceEqDiff, Nat.reduceAdd, Nat.reduceMul, Nat.reduceLeDiff, Nat.reduceLT, Nat.reduceSub]
        have hf : stOK y = false := by
          rw [stOK_eq]
          simp [h0]
        rw [harg, stsOK_append]
        simp [stsOK, hf]
      · skip
        refine aw_skip ?_
        simp only [thenQ, blkQ, if_true, reduceIte, Nat.reduceEqDiff, eq_self]
        refine hK12 _ ?_
        clear hK12
        refine aw_seq fun K15 hK15 => ?_
        refine aw_ops zT fun K16 hK16 => ?_
        simp only [amset, amlib, zset, encSh, eq_self, ↓reduceIte, reduceCtorEq, Nat.reduceBEq, Nat.reduceEqDiff, Nat.reduceAdd, Nat.reduceMul, Nat.reduceLeDiff, Nat.reduceLT, Nat.reduceSub]
        intros
        refine hK16 _ ?_
        clear hK16
        refine aw_block ?_
        refine aw_range (α := Ex) (y.args) (fun dn1 => exOKs dn1 = true) (fun dn1 => [(92, .cell (.c (.int .i64 dn1.length)))]) (fun dn1 => []) [] [2, 8, 92, 93, 94, 95, 96, 97, 98, 99] [8] rfl ?_ ?_ ?_ ?_
        · simp only [amset, amlib, zset, encSh, eq_self, ↓reduceIte, reduceCtorEq, Nat.reduceBEq, Nat.reduceEqDiff, Nat.reduceAdd, Nat.reduceMul, Nat.reduceLeDiff, Nat.reduceLT, Nat.reduceSub] <;> simp [eq_self]
        · simp only [amset, amlib, zset, encSh, eq_self, ↓reduceIte, reduceCtorEq, Nat.reduceBEq, Nat.reduceEqDiff, Nat.reduceAdd, Nat.reduceMul, Nat.reduceLeDiff, Nat.reduceLT, Nat.reduceSub] <;> simp [eq_self]
        · intro hI1 R1
          refine aw_norm (by simp only [amset, amlib, zset, encSh, eq_self, ↓reduceIte, reduceCtorEq, Nat.reduceBEq, Nat.reduceEqDiff, Nat.reduceAdd, Nat.reduceMul, Nat.reduceLeDiff, Nat.reduceLT, Nat.reduceSub]; exact rfl) ?_
          refine aw_ops zT fun K17 hK17 => ?_
          simp only [amset, amlib, zset, encSh, eq_self, ↓reduceIte, reduceCtorEq, Nat.reduceBEq, Nat.reduceEqDiff, Nat.reduceAdd, Nat.reduceMul, Nat.reduceLeDiff, Nat.reduceLT, Nat.reduceSub]
          refine hK17 _ ?_
          clear hK17
          refine aw_seq fun K18 hK18 => ?_
          refine aw_cond (t := false) (by simp [evalO, S.get, amLook]) (fun h => nomatch h) (fun _ => ?_)
          refine aw_exit ?_
          simp only [thenQ, blkQ, if_true, reduceIte, Nat.reduceEqDiff, eq_self]
          refine hK15 _ ?_
          clear hK15
          refine aw_ops zT fun K19 hK19 => ?_
          cases q0 : (!stsOK y.body) with
          | true =>
            simp only [amset, amlib, zset, q0, encSh, eq_self, ↓reduceIte, reduceCtorEq, Nat.reduceBEq, Nat.reduceEqDiff, Nat.reduceAdd, Nat.reduceMul, Nat.reduceLeDiff, Nat.reduceLT, Nat.reduceSub]
            refine ⟨_, ih y.body (sizeOf_body hmem), ?_⟩
            simp only [later]
            simp only [amset, amlib, zset, q0, encSh, eq_self, ↓reduceIte, reduceCtorEq, Nat.reduceBEq, Nat.reduceEqDiff, Nat.reduceAdd, Nat.reduceMul, Nat.reduceLeDiff, Nat.reduceLT, Nat.reduceSub]
            refine hK19 _ ?_
            clear hK19
            refine aw_cond (t := true) rfl (fun _ => ?_) (fun h => nomatch h)
            refine aw_ops zT fun K20 hK20 => ?_
            simp only [amset, amlib, zset, encSh, eq_self, ↓reduceIte, reduceCtorEq, Nat.reduceBEq, Nat.reduceEqDiff, Nat.reduceAdd, Nat.reduceMul, Nat.reduceLeDiff, Nat.reduceLT, Nat.reduceSub]
            refine hK20 _ ?_
            clear hK20
            refine aw_ret ?_
            show resOf zG _ [.tmp 2] = some _
            simp only [amset, amlib, zset, encSh, eq_self, ↓reduceIte, reduceCtorEq, Nat.reduceBEq, Nat.reduceEqDiff, Nat.reduceAdd, Nat.reduceMul, Nat.reduceLeDiff, Nat.reduceLT, Nat.reduceSub]
            have hf : stOK y = false := by
              rw [stOK_eq]
              simp at q0
              simp [q0]
            rw [harg, stsOK_append]
            simp [stsOK, hf]
          | false =>
            cases q1 : (!stsOK y.els) with
            | true =>
              simp only [amset, amlib, zset, q0, q1, encSh, eq_self, ↓reduceIte, reduceCtorEq, Nat.reduceBEq, Nat.reduceEqDiff, Nat.reduceAdd, Nat.reduceMul, Nat.reduceLeDiff, Nat.reduceLT, Nat.reduceSub]
              refine ⟨_, ih y.body (sizeOf_body hmem), ?_⟩
              simp only [later]
              simp only [amset, amlib, zset, q0, q1, encSh, eq_self, ↓reduceIte, reduceCtorEq, Nat.reduceBEq, Nat.reduceEqDiff, Nat.reduceAdd, Nat.reduceMul, Nat.reduceLeDiff, Nat.reduceLT, Nat.reduceSub]
              refine ⟨_, ih y.els (sizeOf_els hmem), ?_⟩
              simp only [later]
              simp only [amset, amlib, zset, q0, q1, encSh, eq_self, ↓reduceIte, reduceCtorEq, Nat.reduceBEq, Nat.reduceEqDiff, Nat.reduceAdd, Nat.reduceMul, Nat.reduceLeDiff, Nat.reduceLT, Nat.reduceSub]
              refine hK19 _ ?_
              clear hK19
              refine aw_cond (t := true) rfl (fun _ => ?_) (fun h => nomatch h)
              refine aw_ops zT fun K21 hK21 => ?_
              simp only [amset, amlib, zset, encSh, eq_self, ↓reduceIte, reduceCtorEq, Nat.reduceBEq, Nat.reduceEqDiff, Nat.reduceAdd, Nat.reduceMul, Nat.reduceLeDiff, Nat.reduceLT, Nat.reduceSub]
              refine hK21 _ ?_
              clear hK21
              refine aw_ret ?_
              show resOf zG _ [.tmp 2] = some _
              simp only [amset, amlib, zset, encSh, eq_self, ↓reduceIte, reduceCtorEq, Nat.reduceBEq, Nat.reduceEqDiff, Nat.reduceAdd, Nat.reduceMul, Nat.reduceLeDiff, Nat.reduceLT, Nat.reduceSub]
              have hf : stOK y = false := by
                rw [stOK_eq]
                simp at q1
                simp [q1]
              rw [harg, stsOK_append]
              simp [stsOK, hf]
            | false =>
              simp only [amset, amlib, zset, q0, q1, encSh, eq_self, ↓reduceIte, reduceCtorEq, Nat.reduceBEq, Nat.reduceEqDiff, Nat.reduceAdd, Nat.reduceMul, Nat.reduceLeDiff, Nat.reduceLT, Nat.reduceSub]
              refine ⟨_, ih y.body (sizeOf_body hmem), ?_⟩
              simp only [later]
              simp only [amset, amlib, zset, q0, q1, encSh, eq_self, ↓reduceIte, reduceCtorEq, Nat.reduceBEq, Nat.reduceEqDiff, Nat.reduceAdd, Nat.reduceMul, Nat.reduceLeDiff, Nat.reduceLT, Nat.reduceSub]
              refine ⟨_, ih y.els (sizeOf_els hmem), ?_⟩
              simp only [later]
              simp only [amset, amlib, zset, q0, q1, encSh, eq_self, ↓reduceIte, reduceCtorEq, Nat.reduceBEq, Nat.reduceEqDiff, Nat.reduceAdd, Nat.reduceMul, Nat.reduceLeDiff, Nat.reduceLT, Nat.reduceSub]
              refine hK19 _ ?_
              clear hK19
              refine aw_cond (t := false) rfl (fun h => nomatch h) (fun _ => ?_)
              refine aw_skip ?_
              simp only [thenQ, blkQ, if_true, reduceIte, Nat.reduceEqDiff, eq_self]
              refine hK9 _ ?_
              clear hK9
              refine aw_region zT ?_
              simp only [amset, amlib, zset, encSh, eq_self, ↓reduceIte, reduceCtorEq, Nat.reduceBEq, Nat.reduceEqDiff, Nat.reduceAdd, Nat.reduceMul, Nat.reduceLeDiff, Nat.reduceLT, Nat.reduceSub]
              refine ⟨⟨by omega, by omega⟩, ?_⟩
              refine hR _ (by rw [stsOK_append, hI]; simp only [stsOK, stOK_eq, hI1, q0, q1, h0, Bool.true_or, Bool.or_true, Bool.false_or, Bool.or_false, Bool.true_and, Bool.and_true, Bool.false_and, Bool.and_false, Bool.not_true, Bool.not_false, if_true, if_false, ↓reduceIte, Bool.false_eq_true]; simp at q0 q1; simp [q0, q1]) ?_
              refine Reach.to ?_ ?_
              · simp only [amset, amlib, zset, encSh, eq_self, ↓reduceIte, reduceCtorEq, Nat.reduceBEq, Nat.reduceEqDiff, Nat.reduceAdd, Nat.reduceMul, Nat.reduceLeDiff, Nat.reduceLT, Nat.reduceSub] <;> simp [eq_self]
              · simp only [amset, amlib, zset, encSh, eq_self, ↓reduceIte, reduceCtorEq, Nat.reduceBEq, Nat.reduceEqDiff, Nat.reduceAdd, Nat.reduceMul, Nat.reduceLeDiff, Nat.reduceLT, Nat.reduceSub] <;> simp [eq_self]
        · intro dn1 y1 td1 harg1 hI1 R1 hR1
          have hl1 : (y.args).length = dn1.length + (td1.length + 1) := by rw [harg1]; simp
          have hmem1 : y1 ∈ y.args := by rw [harg1]; simp
          refine aw_norm (by simp only [amset, amlib, zset, encSh, eq_self, ↓reduceIte, reduceCtorEq, Nat.reduceBEq, Nat.reduceEqDiff, Nat.reduceAdd, Nat.reduceMul, Nat.reduceLeDiff, Nat.reduceLT, Nat.reduceSub]; exact rfl) ?_
          have hget1 : (encEs (y.args)).getD dn1.length [] = encE y1 := by rw [harg1]; exact encEs_mid dn1 td1 y1
          refine aw_ops zT fun K22 hK22 => ?_
          simp only [amset, amlib, zset, encSh, eq_self, ↓reduceIte, reduceCtorEq, Nat.reduceBEq, Nat.reduceEqDiff, Nat.reduceAdd, Nat.reduceMul, Nat.reduceLeDiff, Nat.reduceLT, Nat.reduceSub]
          refine hK22 _ ?_
          clear hK22
          refine aw_seq fun K23 hK23 => ?_
          refine aw_cond (t := true) (by simp [evalO, S.get, amLook]; omega) (fun _ => ?_) (fun h => nomatch h)
          refine aw_skip ?_
          simp only [thenQ, blkQ, if_true, reduceIte, Nat.reduceEqDiff, eq_self]
          refine hK23 _ ?_
          clear hK23
          refine aw_seq fun K24 hK24 => ?_
          refine aw_block ?_
          refine aw_ops zT fun K25 hK25 => ?_
          simp only [amset, amlib, zset, hget1, encSh, eq_self, ↓reduceIte, reduceCtorEq, Nat.reduceBEq, Nat.reduceEqDiff, Nat.reduceAdd, Nat.reduceMul, Nat.reduceLeDiff, Nat.reduceLT, Nat.reduceSub]
          refine ⟨⟨by omega, by omega⟩, ?_⟩
          refine hK25 _ ?_
          clear hK25
          refine aw_ops zT fun K26 hK26 => ?_
          simp only [amset, amlib, zset, encSh, eq_self, ↓reduceIte, reduceCtorEq, Nat.reduceBEq, Nat.reduceEqDiff, Nat.reduceAdd, Nat.reduceMul, Nat.reduceLeDiff, Nat.reduceLT, Nat.reduceSub]
          refine ⟨_, holds26 y1, ?_⟩
          simp only [later]
          simp only [amset, amlib, zset, encSh, eq_self, ↓reduceIte, reduceCtorEq, Nat.reduceBEq, Nat.reduceEqDiff, Nat.reduceAdd, Nat.reduceMul, Nat.reduceLeDiff, Nat.reduceLT, Nat.reduceSub]
          refine hK26 _ ?_
          clear hK26
          refine aw_cond rfl (fun h1 => ?_) (fun h1 => ?_)
          · skip
            refine aw_ops zT fun K27 hK27 => ?_
            simp only [amset, amlib, zset, encSh, eq_self, ↓reduceIte, reduceCtorEq, Nat.reduceBEq, Nat.reduceEqDiff, Nat.reduceAdd, Nat.reduceMul, Nat.reduceLeDiff, Nat.reduceLT, Nat.reduceSub]
            refine hK27 _ ?_
            clear hK27
            refine aw_ret ?_
            show resOf zG _ [.tmp 2] = some _
            simp only [amset, amlib, zset, encSh, eq_self, ↓reduceIte, reduceCtorEq, Nat.reduceBEq, Nat.reduceEqDiff, Nat.reduceAdd, Nat.reduceMul, Nat.reduceLeDiff, Nat.reduceLT, Nat.reduceSub]
            have hf : stOK y = false := by
              rw [stOK_eq]
              have : exOKs y.args = false := (by rw [harg1, exOKs_append]; simp at h1; simp [exOKs, h1])
              simp [this]
            rw [harg, stsOK_append]
            simp [stsOK, hf]
          · skip
            refine aw_skip ?_
            simp only [thenQ, blkQ, if_true, reduceIte, Nat.reduceEqDiff, eq_self]
            refine hK24 _ ?_
            clear hK24
            refine aw_region zT ?_
            simp only [amset, amlib, zset, encSh, eq_self, ↓reduceIte, reduceCtorEq, Nat.reduceBEq, Nat.reduceEqDiff, Nat.reduceAdd, Nat.reduceMul, Nat.reduceLeDiff, Nat.reduceLT, Nat.reduceSub]
            refine ⟨⟨by omega, by omega⟩, ?_⟩
            refine hR1 _ (by rw [exOKs_append, hI1]; simp [exOKs]; simpa using h1) ?_
            refine Reach.to ?_ ?_
            · simp only [amset, amlib, zset, encSh, eq_self, ↓reduceIte, reduceCtorEq, Nat.reduceBEq, Nat.reduceEqDiff, Nat.reduceAdd, Nat.reduceMul, Nat.reduceLeDiff, Nat.reduceLT, Nat.reduceSub] <;> simp [eq_self]
            · simp only [amset, amlib, zset, encSh, eq_self, ↓reduceIte, reduceCtorEq, Nat.reduceBEq, Nat.reduceEqDiff, Nat.reduceAdd, Nat.reduceMul, Nat.reduceLeDiff, Nat.reduceLT, Nat.reduceSub] <;> simp [eq_self]
    cases p0 : (shapeK y.kind).2 with
    | true =>
      cases p1 : ((y.args.length : Int) != (shapeK y.kind).1.args) with
      | true =>
        simp only [amset, amlib, zset, p0, p1, encSh, eq_self, ↓reduceIte, reduceCtorEq, Nat.reduceBEq, Nat.reduceEqDiff, Nat.reduceAdd, Nat.reduceMul, Nat.reduceLeDiff, Nat.reduceLT, Nat.reduceSub]
        intros
        intros
        intros
        refine keyK13 _ _ ?_ ?_
        · simp only [amset, amlib, zset, encSh, eq_self, ↓reduceIte, reduceCtorEq, Nat.reduceBEq, Nat.reduceEqDiff, Nat.reduceAdd, Nat.reduceMul, Nat.reduceLeDiff, Nat.reduceLT, Nat.reduceSub] <;> simp only [stBad, p0, p1, Bool.true_or, Bool.or_true, Bool.false_or, Bool.or_false, Bool.true_and, Bool.and_true, Bool.false_and, Bool.and_false, Bool.not_true, Bool.not_false, if_true, if_false, ↓reduceIte, Bool.false_eq_true]
        · simp only [amset, amlib, zset, encSh, eq_self, ↓reduceIte, reduceCtorEq, Nat.reduceBEq, Nat.reduceEqDiff, Nat.reduceAdd, Nat.reduceMul, Nat.reduceLeDiff, Nat.reduceLT, Nat.reduceSub]
      | false =>
        cases p2 : (shapeK y.kind).1.name with
        | true =>
          cases p3 : (!ident y.name) with
          | true =>
            simp only [amset, amlib, zset, p0, p1, p2, p3, encSh, eq_self, ↓reduceIte, reduceCtorEq, Nat.reduceBEq, Nat.reduceEqDiff, Nat.reduceAdd, Nat.reduceMul, Nat.reduceLeDiff, Nat.reduceLT, Nat.reduceSub]
            intros
            refine ⟨_, holds74 y.name, ?_⟩
            simp only [later]
            simp only [amset, amlib, zset, p0, p1, p2, p3, encSh, eq_self, ↓reduceIte, reduceCtorEq, Nat.reduceBEq, Nat.reduceEqDiff, Nat.reduceAdd, Nat.reduceMul, Nat.reduceLeDiff, Nat.reduceLT, Nat.reduceSub]
            intros
            intros
            refine keyK13 _ _ ?_ ?_
            · simp only [amset, amlib, zset, encSh, eq_self, ↓reduceIte, reduceCtorEq, Nat.reduceBEq, Nat.reduceEqDiff, Nat.reduceAdd, Nat.reduceMul, Nat.reduceLeDiff, Nat.reduceLT, Nat.reduceSub] <;> simp only [stBad, p0, p1, p2, p3, Bool.true_or, Bool.or_true, Bool.false_or, Bool.or_false, Bool.true_and, Bool.and_true, Bool.false_and, Bool.and_false, Bool.not_true, Bool.not_false, if_true, if_false, ↓reduceIte, Bool.false_eq_true]
            · simp only [amset, amlib, zset, encSh, eq_self, ↓reduceIte, reduceCtorEq, Nat.reduceBEq, Nat.reduceEqDiff, Nat.reduceAdd, Nat.reduceMul, Nat.reduceLeDiff, Nat.reduceLT, Nat.reduceSub]
          | false =>
            cases p5 : (!numOk y.n 0) with
            | true =>
              simp only [amset, amlib, zset, p0, p1, p2, p3, p5, encSh, eq_self, ↓reduceIte, reduceCtorEq, Nat.reduceBEq, Nat.reduceEqDiff, Nat.reduceAdd, Nat.reduceMul, Nat.reduceLeDiff, Nat.reduceLT, Nat.reduceSub]
              intros
              refine ⟨_, holds74 y.name, ?_⟩
              simp only [later]
              simp only [amset, amlib, zset, p0, p1, p2, p3, p5, encSh, eq_self, ↓reduceIte, reduceCtorEq, Nat.reduceBEq, Nat.reduceEqDiff, Nat.reduceAdd, Nat.reduceMul, Nat.reduceLeDiff, Nat.reduceLT, Nat.reduceSub]
              refine ⟨_, holds103 y.n 0, ?_⟩
              simp only [later]
              simp only [amset, amlib, zset, p0, p1, p2, p3, p5, encSh, eq_self, ↓reduceIte, reduceCtorEq, Nat.reduceBEq, Nat.reduceEqDiff, Nat.reduceAdd, Nat.reduceMul, Nat.reduceLeDiff, Nat.reduceLT, Nat.reduceSub]
              intros
              intros
              refine keyK13 _ _ ?_ ?_
              · simp only [amset, amlib, zset, encSh, eq_self, ↓reduceIte, reduceCtorEq, Nat.reduceBEq, Nat.reduceEqDiff, Nat.reduceAdd, Nat.reduceMul, Nat.reduceLeDiff, Nat.reduceLT, Nat.reduceSub] <;> simp only [stBad, p0, p1, p2, p3, p5, Bool.true_or, Bool.or_true, Bool.false_or, Bool.or_false, Bool.true_and, Bool.and_true, Bool.false_and, Bool.and_false, Bool.not_true, Bool.not_false, if_true, if_false, ↓reduceIte, Bool.false_eq_true]
              · simp only [amset, amlib, zset, encSh, eq_self, ↓reduceIte, reduceCtorEq, Nat.reduceBEq, Nat.reduceEqDiff, Nat.reduceAdd, Nat.reduceMul, Nat.reduceLeDiff, Nat.reduceLT, Nat.reduceSub]
            | false =>
              cases p6 : (shapeK y.kind).1.n with
              | true =>
                cases p8 : (shapeK y.kind).1.body with
                | true =>
                  cases p10 : (shapeK y.kind).1.els with
                  | true =>
                    simp only [amset, amlib, zset, p0, p1, p2, p3, p5, p6, p8, p10, encSh, eq_self, ↓reduceIte, reduceCtorEq, Nat.reduceBEq, Nat.reduceEqDiff, Nat.reduceAdd, Nat.reduceMul, Nat.reduceLeDiff, Nat.reduceLT, Nat.reduceSub]
                    intros
                    refine ⟨_, holds74 y.name, ?_⟩
                    simp only [later]
                    simp only [amset, amlib, zset, p0, p1, p2, p3, p5, p6, p8, p10, encSh, eq_self, ↓reduceIte, reduceCtorEq, Nat.reduceBEq, Nat.reduceEqDiff, Nat.reduceAdd, Nat.reduceMul, Nat.reduceLeDiff, Nat.reduceLT, Nat.reduceSub]
                    refine ⟨_, holds103 y.n 0, ?_⟩
                    simp only [later]
                    simp only [amset, amlib, zset, p0, p1, p2, p3, p5, p6, p8, p10, encSh, eq_self, ↓reduceIte, reduceCtorEq, Nat.reduceBEq, Nat.reduceEqDiff, Nat.reduceAdd, Nat.reduceMul, Nat.reduceLeDiff, Nat.reduceLT, Nat.reduceSub]
                    intros
                    intros
                    refine keyK13 _ _ ?_ ?_
                    · simp only [amset, amlib, zset, encSh, eq_self, ↓reduceIte, reduceCtorEq, Nat.reduceBEq, Nat.reduceEqDiff, Nat.reduceAdd, Nat.reduceMul, Nat.reduceLeDiff, Nat.reduceLT, Nat.reduceSub] <;> simp only [stBad, p0, p1, p2, p3, p5, p6, p8, p10, Bool.true_or, Bool.or_true, Bool.false_or, Bool.or_false, Bool.true_and, Bool.and_true, Bool.false_and, Bool.and_false, Bool.not_true, Bool.not_false, if_true, if_false, ↓reduceIte, Bool.false_eq_true]
                    · simp only [amset, amlib, zset, encSh, eq_self, ↓reduceIte, reduceCtorEq, Nat.reduceBEq, Nat.reduceEqDiff, Nat.reduceAdd, Nat.reduceMul, Nat.reduceLeDiff, Nat.reduceLT, Nat.reduceSub]
                  | false =>
                    cases p11 : decide ((y.els.length : Int) > 0) with
                    | true =>
                      simp only [amset, amlib, zset, p0, p1, p2, p3, p5, p6, p8, p10, p11, encSh, eq_self, ↓reduceIte, reduceCtorEq, Nat.reduceBEq, Nat.reduceEqDiff, Nat.reduceAdd, Nat.reduceMul, Nat.reduceLeDiff, Nat.reduceLT, Nat.reduceSub]
                      intros
                      refine ⟨_, holds74 y.name, ?_⟩
                      simp only [later]
                      simp only [amset, amlib, zset, p0, p1, p2, p3, p5, p6, p8, p10, p11, encSh, eq_self, ↓reduceIte, reduceCtorEq, Nat.reduceBEq, Nat.reduceEqDiff, Nat.reduceAdd, Nat.reduceMul, Nat.reduceLeDiff, Nat.reduceLT, Nat.reduceSub]
                      refine ⟨_, holds103 y.n 0, ?_⟩
                      simp only [later]
                      simp only [amset, amlib, zset, p0, p1, p2, p3, p5, p6, p8, p10, p11, encSh, eq_self, ↓reduceIte, reduceCtorEq, Nat.reduceBEq, Nat.reduceEqDiff, Nat.reduceAdd, Nat.reduceMul, Nat.reduceLeDiff, Nat.reduceLT, Nat.reduceSub]
                      intros
                      intros
                      refine keyK13 _ _ ?_ ?_
                      · simp only [amset, amlib, zset, encSh, eq_self, ↓reduceIte, reduceCtorEq, Nat.reduceBEq, Nat.reduceEqDiff, Nat.reduceAdd, Nat.reduceMul, Nat.reduceLeDiff, Nat.reduceLT, Nat.reduceSub] <;> simp only [stBad, p0, p1, p2, p3, p5, p6, p8, p10, p11, Bool.true_or, Bool.or_true, Bool.false_or, Bool.or_false, Bool.true_and, Bool.and_true, Bool.false_and, Bool.and_false, Bool.not_true, Bool.not_false, if_true, if_false, ↓reduceIte, Bool.false_eq_true]
                      · simp only [amset, amlib, zset, encSh, eq_self, ↓reduceIte, reduceCtorEq, Nat.reduceBEq, Nat.reduceEqDiff, Nat.reduceAdd, Nat.reduceMul, Nat.reduceLeDiff, Nat.reduceLT, Nat.reduceSub]
                    | false =>
                      simp only [amset, amlib, zset, p0, p1, p2, p3, p5, p6, p8, p10, p11, encSh, eq_self, ↓reduceIte, reduceCtorEq, Nat.reduceBEq, Nat.reduceEqDiff, Nat.reduceAdd, Nat.reduceMul, Nat.reduceLeDiff, Nat.reduceLT, Nat.reduceSub]
                      intros
                      refine ⟨_, holds74 y.name, ?_⟩
                      simp only [later]
                      simp only [amset, amlib, zset, p0, p1, p2, p3, p5, p6, p8, p10, p11, encSh, eq_self, ↓reduceIte, reduceCtorEq, Nat.reduceBEq, Nat.reduceEqDiff, Nat.reduceAdd, Nat.reduceMul, Nat.reduceLeDiff, Nat.reduceLT, Nat.reduceSub]
                      refine ⟨_, holds103 y.n 0, ?_⟩
                      simp only [later]
                      simp only [amset, amlib, zset, p0, p1, p2, p3, p5, p6, p8, p10, p11, encSh, eq_self, ↓reduceIte, reduceCtorEq, Nat.reduceBEq, Nat.reduceEqDiff, Nat.reduceAdd, Nat.reduceMul, Nat.reduceLeDiff, Nat.reduceLT, Nat.reduceSub]
                      intros
                      intros
                      refine keyK13 _ _ ?_ ?_
                      · simp only [amset, amlib, zset, encSh, eq_self, ↓reduceIte, reduceCtorEq, Nat.reduceBEq, Nat.reduceEqDiff, Nat.reduceAdd, Nat.reduceMul, Nat.reduceLeDiff, Nat.reduceLT, Nat.reduceSub] <;> simp only [stBad, p0, p1, p2, p3, p5, p6, p8, p10, p11, Bool.true_or, Bool.or_true, Bool.false_or, Bool.or_false, Bool.true_and, Bool.and_true, Bool.false_and, Bool.and_false, Bool.not_true, Bool.not_false, if_true, if_false, ↓reduceIte, Bool.false_eq_true]
                      · simp only [amset, amlib, zset, encSh, eq_self, ↓reduceIte, reduceCtorEq, Nat.reduceBEq, Nat.reduceEqDiff, Nat.reduceAdd, Nat.reduceMul, Nat.reduceLeDiff, Nat.reduceLT, Nat.reduceSub]
                | false =>
                  cases p9 : decide ((y.body.length : Int) > 0) with
                  | true =>
                    simp only [amset, amlib, zset, p0, p1, p2, p3, p5, p6, p8, p9, encSh, eq_self, ↓reduceIte, reduceCtorEq, Nat.reduceBEq, Nat.reduceEqDiff, Nat.reduceAdd, Nat.reduceMul, Nat.reduceLeDiff, Nat.reduceLT, Nat.reduceSub]
                    intros
                    refine ⟨_, holds74 y.name, ?_⟩
                    simp only [later]
                    simp only [amset, amlib, zset, p0, p1, p2, p3, p5, p6, p8, p9, encSh, eq_self, ↓reduceIte, reduceCtorEq, Nat.reduceBEq, Nat.reduceEqDiff, Nat.reduceAdd, Nat.reduceMul, Nat.reduceLeDiff, Nat.reduceLT, Nat.reduceSub]
                    refine ⟨_, holds103 y.n 0, ?_⟩
                    simp only [later]
                    simp only [amset, amlib, zset, p0, p1, p2, p3, p5, p6, p8, p9, encSh, eq_self, ↓reduceIte, reduceCtorEq, Nat.reduceBEq, Nat.reduceEqDiff, Nat.reduceAdd, Nat.reduceMul, Nat.reduceLeDiff, Nat.reduceLT, Nat.reduceSub]
                    intros
                    intros
                    refine keyK13 _ _ ?_ ?_
                    · simp only [amset, amlib, zset, encSh, eq_self, ↓reduceIte, reduceCtorEq, Nat.reduceBEq, Nat.reduceEqDiff, Nat.reduceAdd, Nat.reduceMul, Nat.reduceLeDiff, Nat.reduceLT, Nat.reduceSub] <;> simp only [stBad, p0, p1, p2, p3, p5, p6, p8, p9, Bool.true_or, Bool.or_true, Bool.false_or, Bool.or_false, Bool.true_and, Bool.and_true, Bool.false_and, Bool.and_false, Bool.not_true, Bool.not_false, if_true, if_false, ↓reduceIte, Bool.false_eq_true]
                    · simp only [amset, amlib, zset, encSh, eq_self, ↓reduceIte, reduceCtorEq, Nat.reduceBEq, Nat.reduceEqDiff, Nat.reduceAdd, Nat.reduceMul, Nat.reduceLeDiff, Nat.reduceLT, Nat.reduceSub]
                  | false =>
                    cases p10 : (shapeK y.kind).1.els with
                    | true =>
                      simp only [amset, amlib, zset, p0, p1, p2, p3, p5, p6, p8, p9, p10, encSh, eq_self, ↓reduceIte, reduceCtorEq, Nat.reduceBEq, Nat.reduceEqDiff, Nat.reduceAdd, Nat.reduceMul, Nat.reduceLeDiff, Nat.reduceLT, Nat.reduceSub]
                      intros
                      refine ⟨_, holds74 y.name, ?_⟩
                      simp only [later]
                      simp only [amset, amlib, zset, p0, p1, p2, p3, p5, p6, p8, p9, p10, encSh, eq_self, ↓reduceIte, reduceCtorEq, Nat.reduceBEq, Nat.reduceEqDiff, Nat.reduceAdd, Nat.reduceMul, Nat.reduceLeDiff, Nat.reduceLT, Nat.reduceSub]
                      refine ⟨_, holds103 y.n 0, ?_⟩
                      simp only [later]
                      simp only [amset, amlib, zset, p0, p1, p2, p3, p5, p6, p8, p9, p10, encSh, eq_self, ↓reduceIte, reduceCtorEq, Nat.reduceBEq, Nat.reduceEqDiff, Nat.reduceAdd, Nat.reduceMul, Nat.reduceLeDiff, Nat.reduceLT, Nat.reduceSub]
                      intros
                      intros
                      refine keyK13 _ _ ?_ ?_
                      · simp only [amset, amlib, zset, encSh, eq_self, ↓reduceIte, reduceCtorEq, Nat.reduceBEq, Nat.reduceEqDiff, Nat.reduceAdd, Nat.reduceMul, Nat.reduceLeDiff, Nat.reduceLT, Nat.reduceSub] <;> simp only [stBad, p0, p1, p2, p3, p5, p6, p8, p9, p10, Bool.true_or, Bool.or_true, Bool.false_or, Bool.or_false, Bool.true_and, Bool.and_true, Bool.false_and, Bool.and_false, Bool.not_true, Bool.not_false, if_true, if_false, ↓reduceIte, Bool.false_eq_true]
                      · simp only [amset, amlib, zset, encSh, eq_self, ↓reduceIte, reduceCtorEq, Nat.reduceBEq, Nat.reduceEqDiff, Nat.reduceAdd, Nat.reduceMul, Nat.reduceLeDiff, Nat.reduceLT, Nat.reduceSub]
                    | false =>
                      cases p11 : decide ((y.els.length : Int) > 0) with
                      | true =>
                        simp only [amset, amlib, zset, p0, p1, p2, p3, p5, p6, p8, p9, p10, p11, encSh, eq_self, ↓reduceIte, reduceCtorEq, Nat.reduceBEq, Nat.reduceEqDiff, Nat.reduceAdd, Nat.reduceMul, Nat.reduceLeDiff, Nat.reduceLT, Nat.reduceSub]
                        intros
                        refine ⟨_, holds74 y.name, ?_⟩
                        simp only [later]
                        simp only [amset, amlib, zset, p0, p1, p2, p3, p5, p6, p8, p9, p10, p11, encSh, eq_self, ↓reduceIte, reduceCtorEq, Nat.reduceBEq, Nat.reduceEqDiff, Nat.reduceAdd, Nat.reduceMul, Nat.reduceLeDiff, Nat.reduceLT, Nat.reduceSub]
                        refine ⟨_, holds103 y.n 0, ?_⟩
                        simp only [later]
                        simp only [amset, amlib, zset, p0, p1, p2, p3, p5, p6, p8, p9, p10, p11, encSh, eq_self, ↓reduceIte, reduceCtorEq, Nat.reduceBEq, Nat.reduceEqDiff, Nat.reduceAdd, Nat.reduceMul, Nat.reduceLeDiff, Nat.reduceLT, Nat.reduceSub]
                        intros
                        intros
                        refine keyK13 _ _ ?_ ?_
                        · simp only [amset, amlib, zset, encSh, eq_self, ↓reduceIte, reduceCtorEq, Nat.reduceBEq, Nat.reduceEqDiff, Nat.reduceAdd, Nat.reduceMul, Nat.reduceLeDiff, Nat.reduceLT, Nat.reduceSub] <;> simp only [stBad, p0, p1, p2, p3, p5, p6, p8, p9, p10, p11, Bool.true_or, Bool.or_true, Bool.false_or, Bool.or_false, Bool.true_and, Bool.and_true, Bool.false_and, Bool.and_false, Bool.not_true, Bool.not_false, if_true, if_false, ↓reduceIte, Bool.false_eq_true]
                        · simp only [amset, amlib, zset, encSh, eq_self, ↓reduceIte, reduceCtorEq, Nat.reduceBEq, Nat.reduceEqDiff, Nat.reduceAdd, Nat.reduceMul, Nat.reduceLeDiff, Nat.reduceLT, Nat.reduceSub]
                      | false =>
                        simp only [amset, amlib, zset, p0, p1, p2, p3, p5, p6, p8, p9, p10, p11, encSh, eq_self, ↓reduceIte, reduceCtorEq, Nat.reduceBEq, Nat.reduceEqDiff, Nat.reduceAdd, Nat.reduceMul, Nat.reduceLeDiff, Nat.reduceLT, Nat.reduceSub]
                        intros
                        refine ⟨_, holds74 y.name, ?_⟩
                        simp only [later]
                        simp only [amset, amlib, zset, p0, p1, p2, p3, p5, p6, p8, p9, p10, p11, encSh, eq_self, ↓reduceIte, reduceCtorEq, Nat.reduceBEq, Nat.reduceEqDiff, Nat.reduceAdd, Nat.reduceMul, Nat.reduceLeDiff, Nat.reduceLT, Nat.reduceSub]
                        refine ⟨_, holds103 y.n 0, ?_⟩
                        simp only [later]
                        simp only [amset, amlib, zset, p0, p1, p2, p3, p5, p6, p8, p9, p10, p11, encSh, eq_self, ↓reduceIte, reduceCtorEq, Nat.reduceBEq, Nat.reduceEqDiff, Nat.reduceAdd, Nat.reduceMul, Nat.reduceLeDiff, Nat.reduceLT, Nat.reduceSub]
                        intros
                        intros
                        refine keyK13 _ _ ?_ ?_
                        · simp only [amset, amlib, zset, encSh, eq_self, ↓reduceIte, reduceCtorEq, Nat.reduceBEq, Nat.reduceEqDiff, Nat.reduceAdd, Nat.reduceMul, Nat.reduceLeDiff, Nat.reduceLT, Nat.reduceSub] <;> simp only [stBad, p0, p1, p2, p3, p5, p6, p8, p9, p10, p11, Bool.true_or, Bool.or_true, Bool.false_or, Bool.or_false, Bool.true_and, Bool.and_true, Bool.false_and, Bool.and_false, Bool.not_true, Bool.not_false, if_true, if_false, ↓reduceIte, Bool.false_eq_true]
                        · simp only [amset, amlib, zset, encSh, eq_self, ↓reduceIte, reduceCtorEq, Nat.reduceBEq, Nat.reduceEqDiff, Nat.reduceAdd, Nat.reduceMul, Nat.reduceLeDiff, Nat.reduceLT, Nat.reduceSub]
              | false =>
                cases p7 : (y.n != 0) with
                | true =>
                  simp only [amset, amlib, zset, p0, p1, p2, p3, p5, p6, p7, encSh, eq_self, ↓reduceIte, reduceCtorEq, Nat.reduceBEq, Nat.reduceEqDiff, Nat.reduceAdd, Nat.reduceMul, Nat.reduceLeDiff, Nat.reduceLT, Nat.reduceSub]
                  intros
                  refine ⟨_, holds74 y.name, ?_⟩
                  simp only [later]
                  simp only [amset, amlib, zset, p0, p1, p2, p3, p5, p6, p7, encSh, eq_self, ↓reduceIte, reduceCtorEq, Nat.reduceBEq, Nat.reduceEqDiff, Nat.reduceAdd, Nat.reduceMul, Nat.reduceLeDiff, Nat.reduceLT, Nat.reduceSub]
                  refine ⟨_, holds103 y.n 0, ?_⟩
                  simp only [later]
                  simp only [amset, amlib, zset, p0, p1, p2, p3, p5, p6, p7, encSh, eq_self, ↓reduceIte, reduceCtorEq, Nat.reduceBEq, Nat.reduceEqDiff, Nat.reduceAdd, Nat.reduceMul, Nat.reduceLeDiff, Nat.reduceLT, Nat.reduceSub]
                  intros
                  intros
                  refine keyK13 _ _ ?_ ?_
                  · simp only [amset, amlib, zset, encSh, eq_self, ↓reduceIte, reduceCtorEq, Nat.reduceBEq, Nat.reduceEqDiff, Nat.reduceAdd, Nat.reduceMul, Nat.reduceLeDiff, Nat.reduceLT, Nat.reduceSub] <;> simp only [stBad, p0, p1, p2, p3, p5, p6, p7, Bool.true_or, Bool.or_true, Bool.false_or, Bool.or_false, Bool.true_and, Bool.and_true, Bool.false_and, Bool.and_false, Bool.not_true, Bool.not_false, if_true, if_false, ↓reduceIte, Bool.false_eq_true]
                  · simp only [amset, amlib, zset, encSh, eq_self, ↓reduceIte, reduceCtorEq, Nat.reduceBEq, Nat.reduceEqDiff, Nat.reduceAdd, Nat.reduceMul, Nat.reduceLeDiff, Nat.reduceLT, Nat.reduceSub]
                | false =>
                  cases p8 : (shapeK y.kind).1.body with
                  | true =>
                    cases p10 : (shapeK y.kind).1.els with
                    | true =>
                      simp only [amset, amlib, zset, p0, p1, p2, p3, p5, p6, p7, p8, p10, encSh, eq_self, ↓reduceIte, reduceCtorEq, Nat.reduceBEq, Nat.reduceEqDiff, Nat.reduceAdd, Nat.reduceMul, Nat.reduceLeDiff, Nat.reduceLT, Nat.reduceSub]
                      intros
                      refine ⟨_, holds74 y.name, ?_⟩
                      simp only [later]
                      simp only [amset, amlib, zset, p0, p1, p2, p3, p5, p6, p7, p8, p10, encSh, eq_self, ↓reduceIte, reduceCtorEq, Nat.reduceBEq, Nat.reduceEqDiff, Nat.reduceAdd, Nat.reduceMul, Nat.reduceLeDiff, Nat.reduceLT, Nat.reduceSub]
                      refine ⟨_, holds103 y.n 0, ?_⟩
                      simp only [later]
                      simp only [amset, amlib, zset, p0, p1, p2, p3, p5, p6, p7, p8, p10, encSh, eq_self, ↓reduceIte, reduceCtorEq, Nat.reduceBEq, Nat.reduceEqDiff, Nat.reduceAdd, Nat.reduceMul, Nat.reduceLeDiff, Nat.reduceLT, Nat.reduceSub]
                      intros
                      intros
                      refine keyK13 _ _ ?_ ?_
                      · simp only [amset, amlib, zset, encSh, eq_self, ↓reduceIte, reduceCtorEq, Nat.reduceBEq, Nat.reduceEqDiff, Nat.reduceAdd, Nat.reduceMul, Nat.reduceLeDiff, Nat.reduceLT, Nat.reduceSub] <;> simp only [stBad, p0, p1, p2, p3, p5, p6, p7, p8, p10, Bool.true_or, Bool.or_true, Bool.false_or, Bool.or_false, Bool.true_and, Bool.and_true, Bool.false_and, Bool.and_false, Bool.not_true, Bool.not_false, if_true, if_false, ↓reduceIte, Bool.false_eq_true]
                      · simp only [amset, amlib, zset, encSh, eq_self, ↓reduceIte, reduceCtorEq, Nat.reduceBEq, Nat.reduceEqDiff, Nat.reduceAdd, Nat.reduceMul, Nat.reduceLeDiff, Nat.reduceLT, Nat.reduceSub]
                    | false =>
                      cases p11 : decide ((y.els.length : Int) > 0) with
                      | true =>
                        simp only [amset, amlib, zset, p0, p1, p2, p3, p5, p6, p7, p8, p10, p11, encSh, eq_self, ↓reduceIte, reduceCtorEq, Nat.reduceBEq, Nat.reduceEqDiff, Nat.reduceAdd, Nat.reduceMul, Nat.reduceLeDiff, Nat.reduceLT, Nat.reduceSub]
                        intros
                        refine ⟨_, holds74 y.name, ?_⟩
                        simp only [later]
                        simp only [amset, amlib, zset, p0, p1, p2, p3, p5, p6, p7, p8, p10, p11, encSh, eq_self, ↓reduceIte, reduceCtorEq, Nat.reduceBEq, Nat.reduceEqDiff, Nat.reduceAdd, Nat.reduceMul, Nat.reduceLeDiff, Nat.reduceLT, Nat.reduceSub]
                        refine ⟨_, holds103 y.n 0, ?_⟩
                        simp only [later]
                        simp only [amset, amlib, zset, p0, p1, p2, p3, p5, p6, p7, p8, p10, p11, encSh, eq_self, ↓reduceIte, reduceCtorEq, Nat.reduceBEq, Nat.reduceEqDiff, Nat.reduceAdd, Nat.reduceMul, Nat.reduceLeDiff, Nat.reduceLT, Nat.reduceSub]
                        intros
                        intros
                        refine keyK13 _ _ ?_ ?_
                        · simp only [amset, amlib, zset, encSh, eq_self, ↓reduceIte, reduceCtorEq, Nat.reduceBEq, Nat.reduceEqDiff, Nat.reduceAdd, Nat.reduceMul, Nat.reduceLeDiff, Nat.reduceLT, Nat.reduceSub] <;> simp only [stBad, p0, p1, p2, p3, p5, p6, p7, p8, p10, p11, Bool.true_or, Bool.or_true, Bool.false_or, Bool.or_false, Bool.true_and, Bool.and_true, Bool.false_and, Bool.and_false, Bool.not_true, Bool.not_false, if_true, if_false, ↓reduceIte, Bool.false_eq_true]
                        · simp only [amset, amlib, zset, encSh, eq_self, ↓reduceIte, reduceCtorEq, Nat.reduceBEq, Nat.reduceEqDiff, Nat.reduceAdd, Nat.reduceMul, Nat.reduceLeDiff, Nat.reduceLT, Nat.reduceSub]
                      | false =>
                        simp only [amset, amlib, zset, p0, p1, p2, p3, p5, p6, p7, p8, p10, p11, encSh, eq_self, ↓reduceIte, reduceCtorEq, Nat.reduceBEq, Nat.reduceEqDiff, Nat.reduceAdd, Nat.reduceMul, Nat.reduceLeDiff, Nat.reduceLT, Nat.reduceSub]
                        intros
                        refine ⟨_, holds74 y.name, ?_⟩
                        simp only [later]
                        simp only [amset, amlib, zset, p0, p1, p2, p3, p5, p6, p7, p8, p10, p11, encSh, eq_self, ↓reduceIte, reduceCtorEq, Nat.reduceBEq, Nat.reduceEqDiff, Nat.reduceAdd, Nat.reduceMul, Nat.reduceLeDiff, Nat.reduceLT, Nat.reduceSub]
                        refine ⟨_, holds103 y.n 0, ?_⟩
                        simp only [later]
                        simp only [amset, amlib, zset, p0, p1, p2, p3, p5, p6, p7, p8, p10, p11, encSh, eq_self, ↓reduceIte, reduceCtorEq, Nat.reduceBEq, Nat.reduceEqDiff, Nat.reduceAdd, Nat.reduceMul, Nat.reduceLeDiff, Nat.reduceLT, Nat.reduceSub]
                        intros
                        intros
                        refine keyK13 _ _ ?_ ?_
                        · simp only [amset, amlib, zset, encSh, eq_self, ↓reduceIte, reduceCtorEq, Nat.reduceBEq, Nat.reduceEqDiff, Nat.reduceAdd, Nat.reduceMul, Nat.reduceLeDiff, Nat.reduceLT, Nat.reduceSub] <;> simp only [stBad, p0, p1, p2, p3, p5, p6, p7, p8, p10, p11, Bool.true_or, Bool.or_true, Bool.false_or, Bool.or_false, Bool.true_and, Bool.and_true, Bool.false_and, Bool.and_false, Bool.not_true, Bool.not_false, if_true, if_false, ↓reduceIte, Bool.false_eq_true]
                        · simp only [amset, amlib, zset, encSh, eq_self, ↓reduceIte, reduceCtorEq, Nat.reduceBEq, Nat.reduceEqDiff, Nat.reduceAdd, Nat.reduceMul, Nat.reduceLeDiff, Nat.reduceLT, Nat.reduceSub]
                  | false =>
                    cases p9 : decide ((y.body.length : Int) > 0) with
                    | true =>
                      simp only [amset, amlib, zset, p0, p1, p2, p3, p5, p6, p7, p8, p9, encSh, eq_self, ↓reduceIte, reduceCtorEq, Nat.reduceBEq, Nat.reduceEqDiff, Nat.reduceAdd, Nat.reduceMul, Nat.reduceLeDiff, Nat.reduceLT, Nat.reduceSub]
                      intros
                      refine ⟨_, holds74 y.name, ?_⟩
                      simp only [later]
                      simp only [amset, amlib, zset, p0, p1, p2, p3, p5, p6, p7, p8, p9, encSh, eq_self, ↓reduceIte, reduceCtorEq, Nat.reduceBEq, Nat.reduceEqDiff, Nat.reduceAdd, Nat.reduceMul, Nat.reduceLeDiff, Nat.reduceLT, Nat.reduceSub]
                      refine ⟨_, holds103 y.n 0, ?_⟩
                      simp only [later]
                      simp only [amset, amlib, zset, p0, p1, p2, p3, p5, p6, p7, p8, p9, encSh, eq_self, ↓reduceIte, reduceCtorEq, Nat.reduceBEq, Nat.reduceEqDiff, Nat.reduceAdd, Nat.reduceMul, Nat.reduceLeDiff, Nat.reduceLT, Nat.reduceSub]
                      intros
                      intros
                      refine keyK13 _ _ ?_ ?_
                      · simp only [amset, amlib, zset, encSh, eq_self, ↓reduceIte, reduceCtorEq, Nat.reduceBEq, Nat.reduceEqDiff, Nat.reduceAdd, Nat.reduceMul, Nat.reduceLeDiff, Nat.reduceLT, Nat.reduceSub] <;> simp only [stBad, p0, p1, p2, p3, p5, p6, p7, p8, p9, Bool.true_or, Bool.or_true, Bool.false_or, Bool.or_false, Bool.true_and, Bool.and_true, Bool.false_and, Bool.and_false, Bool.not_true, Bool.not_false, if_true, if_false, ↓reduceIte, Bool.false_eq_true]
                      · simp only [amset, amlib, zset, encSh, eq_self, ↓reduceIte, reduceCtorEq, Nat.reduceBEq, Nat.reduceEqDiff, Nat.reduceAdd, Nat.reduceMul, Nat.reduceLeDiff, Nat.reduceLT, Nat.reduceSub]
                    | false =>
                      cases p10 : (shapeK y.kind).1.els with
                      | true =>
                        simp only [amset, amlib, zset, p0, p1, p2, p3, p5, p6, p7, p8, p9, p10, encSh, eq_self, ↓reduceIte, reduceCtorEq, Nat.reduceBEq, Nat.reduceEqDiff, Nat.reduceAdd, Nat.reduceMul, Nat.reduceLeDiff, Nat.reduceLT, Nat.reduceSub]
                        intros
                        refine ⟨_, holds74 y.name, ?_⟩
                        simp only [later]
                        simp only [amset, amlib, zset, p0, p1, p2, p3, p5, p6, p7, p8, p9, p10, encSh, eq_self, ↓reduceIte, reduceCtorEq, Nat.reduceBEq, Nat.reduceEqDiff, Nat.reduceAdd, Nat.reduceMul, Nat.reduceLeDiff, Nat.reduceLT, Nat.reduceSub]
                        refine ⟨_, holds103 y.n 0, ?_⟩
                        simp only [later]
                        simp only [amset, amlib, zset, p0, p1, p2, p3, p5, p6, p7, p8, p9, p10, encSh, eq_self, ↓reduceIte, reduceCtorEq, Nat.reduceBEq, Nat.reduceEqDiff, Nat.reduceAdd, Nat.reduceMul, Nat.reduceLeDiff, Nat.reduceLT, Nat.reduceSub]
                        intros
                        intros
                        refine keyK13 _ _ ?_ ?_
                        · simp only [amset, amlib, zset, encSh, eq_self, ↓reduceIte, reduceCtorEq, Nat.reduceBEq, Nat.reduceEqDiff, Nat.reduceAdd, Nat.reduceMul, Nat.reduceLeDiff, Nat.reduceLT, Nat.reduceSub] <;> simp only [stBad, p0, p1, p2, p3, p5, p6, p7, p8, p9, p10, Bool.true_or, Bool.or_true, Bool.false_or, Bool.or_false, Bool.true_and, Bool.and_true, Bool.false_and, Bool.and_false, Bool.not_true, Bool.not_false, if_true, if_false, ↓reduceIte, Bool.false_eq_true]
                        · simp only [amset, amlib, zset, encSh, eq_self, ↓reduceIte, reduceCtorEq, Nat.reduceBEq, Nat.reduceEqDiff, Nat.reduceAdd, Nat.reduceMul, Nat.reduceLeDiff, Nat.reduceLT, Nat.reduceSub]
                      | false =>
                        cases p11 : decide ((y.els.length : Int) > 0) with
                        | true =>
                          simp only [amset, amlib, zset, p0, p1, p2, p3, p5, p6, p7, p8, p9, p10, p11, encSh, eq_self, ↓reduceIte, reduceCtorEq, Nat.reduceBEq, Nat.reduceEqDiff, Nat.reduceAdd, Nat.reduceMul, Nat.reduceLeDiff, Nat.reduceLT, Nat.reduceSub]
                          intros
                          refine ⟨_, holds74 y.name, ?_⟩
                          simp only [later]
                          simp only [amset, amlib, zset, p0, p1, p2, p3, p5, p6, p7, p8, p9, p10, p11, encSh, eq_self, ↓reduceIte, reduceCtorEq, Nat.reduceBEq, Nat.reduceEqDiff, Nat.reduceAdd, Nat.reduceMul, Nat.reduceLeDiff, Nat.reduceLT, Nat.reduceSub]
                          refine ⟨_, holds103 y.n 0, ?_⟩
                          simp only [later]
                          simp only [amset, amlib, zset, p0, p1, p2, p3, p5, p6, p7, p8, p9, p10, p11, encSh, eq_self, ↓reduceIte, reduceCtorEq, Nat.reduceBEq, Nat.reduceEqDiff, Nat.reduceAdd, Nat.reduceMul, Nat.reduceLeDiff, Nat.reduceLT, Nat.reduceSub]
                          intros
                          intros
                          refine keyK13 _ _ ?_ ?_
                          · simp only [amset, amlib, zset, encSh, eq_self, ↓reduceIte, reduceCtorEq, Nat.reduceBEq, Nat.reduceEqDiff, Nat.reduceAdd, Nat.reduceMul, Nat.reduceLeDiff, Nat.reduceLT, Nat.reduceSub] <;> simp only [stBad, p0, p1, p2, p3, p5, p6, p7, p8, p9, p10, p11, Bool.true_or, Bool.or_true, Bool.false_or, Bool.or_false, Bool.true_and, Bool.and_true, Bool.false_and, Bool.and_false, Bool.not_true, Bool.not_false, if_true, if_false, ↓reduceIte, Bool.false_eq_true]
                          · simp only [amset, amlib, zset, encSh, eq_self, ↓reduceIte, reduceCtorEq, Nat.reduceBEq, Nat.reduceEqDiff, Nat.reduceAdd, Nat.reduceMul, Nat.reduceLeDiff, Nat.reduceLT, Nat.reduceSub]
                        | false =>
                          simp only [amset, amlib, zset, p0, p1, p2, p3, p5, p6, p7, p8, p9, p10, p11, encSh, eq_self, ↓reduceIte, reduceCtorEq, Nat.reduceBEq, Nat.reduceEqDiff, Nat.reduceAdd, Nat.reduceMul, Nat.reduceLeDiff, Nat.reduceLT, Nat.reduceSub]
                          intros
                          refine ⟨_, holds74 y.name, ?_⟩
                          simp only [later]
                          simp only [amset, amlib, zset, p0, p1, p2, p3, p5, p6, p7, p8, p9, p10, p11, encSh, eq_self, ↓reduceIte, reduceCtorEq, Nat.reduceBEq, Nat.reduceEqDiff, Nat.reduceAdd, Nat.reduceMul, Nat.reduceLeDiff, Nat.reduceLT, Nat.reduceSub]
                          refine ⟨_, holds103 y.n 0, ?_⟩
                          simp only [later]
                          simp only [amset, amlib, zset, p0, p1, p2, p3, p5, p6, p7, p8, p9, p10, p11, encSh, eq_self, ↓reduceIte, reduceCtorEq, Nat.reduceBEq, Nat.reduceEqDiff, Nat.reduceAdd, Nat.reduceMul, Nat.reduceLeDiff, Nat.reduceLT, Nat.reduceSub]
                          intros
                          intros
                          refine keyK13 _ _ ?_ ?_
                          · simp only [amset, amlib, zset, encSh, eq_self, ↓reduceIte, reduceCtorEq, Nat.reduceBEq, Nat.reduceEqDiff, Nat.reduceAdd, Nat.reduceMul, Nat.reduceLeDiff, Nat.reduceLT, Nat.reduceSub] <;> simp only [stBad, p0, p1, p2, p3, p5, p6, p7, p8, p9, p10, p11, Bool.true_or, Bool.or_true, Bool.false_or, Bool.or_false, Bool.true_and, Bool.and_true, Bool.false_and, Bool.and_false, Bool.not_true, Bool.not_false, if_true, if_false, ↓reduceIte, Bool.false_eq_true]
                          · simp only [amset, amlib, zset, encSh, eq_self, ↓reduceIte, reduceCtorEq, Nat.reduceBEq, Nat.reduceEqDiff, Nat.reduceAdd, Nat.reduceMul, Nat.reduceLeDiff, Nat.reduceLT, Nat.reduceSub]
        | false =>
          cases p4 : (!(y.name == [])) with
          | true =>
            simp only [amset, amlib, zset, p0, p1, p2, p4, encSh, eq_self, ↓reduceIte, reduceCtorEq, Nat.reduceBEq, Nat.reduceEqDiff, Nat.reduceAdd, Nat.reduceMul, Nat.reduceLeDiff, Nat.reduceLT, Nat.reduceSub]
            intros
            intros
            intros
            refine keyK13 _ _ ?_ ?_
            · simp only [amset, amlib, zset, encSh, eq_self, ↓reduceIte, reduceCtorEq, Nat.reduceBEq, Nat.reduceEqDiff, Nat.reduceAdd, Nat.reduceMul, Nat.reduceLeDiff, Nat.reduceLT, Nat.reduceSub] <;> simp only [stBad, p0, p1, p2, p4, Bool.true_or, Bool.or_true, Bool.false_or, Bool.or_false, Bool.true_and, Bool.and_true, Bool.false_and, Bool.and_false, Bool.not_true, Bool.not_false, if_true, if_false, ↓reduceIte, Bool.false_eq_true]
            · simp only [amset, amlib, zset, encSh, eq_self, ↓reduceIte, reduceCtorEq, Nat.reduceBEq, Nat.reduceEqDiff, Nat.reduceAdd, Nat.reduceMul, Nat.reduceLeDiff, Nat.reduceLT, Nat.reduceSub]
          | false =>
            cases p5 : (!numOk y.n 0) with
            | true =>
              simp only [amset, amlib, zset, p0, p1, p2, p4, p5, encSh, eq_self, ↓reduceIte, reduceCtorEq, Nat.reduceBEq, Nat.reduceEqDiff, Nat.reduceAdd, Nat.reduceMul, Nat.reduceLeDiff, Nat.reduceLT, Nat.reduceSub]
              intros
              refine ⟨_, holds103 y.n 0, ?_⟩
              simp only [later]
              simp only [amset, amlib, zset, p0, p1, p2, p4, p5, encSh, eq_self, ↓reduceIte, reduceCtorEq, Nat.reduceBEq, Nat.reduceEqDiff, Nat.reduceAdd, Nat.reduceMul, Nat.reduceLeDiff, Nat.reduceLT, Nat.reduceSub]
              intros
              intros
              refine keyK13 _ _ ?_ ?_
              · simp only [amset, amlib, zset, encSh, eq_self, ↓reduceIte, reduceCtorEq, Nat.reduceBEq, Nat.reduceEqDiff, Nat.reduceAdd, Nat.reduceMul, Nat.reduceLeDiff, Nat.reduceLT, Nat.reduceSub] <;> simp only [stBad, p0, p1, p2, p4, p5, Bool.true_or, Bool.or_true, Bool.false_or, Bool.or_false, Bool.true_and, Bool.and_true, Bool.false_and, Bool.and_false, Bool.not_true, Bool.not_false, if_true, if_false, ↓reduceIte, Bool.false_eq_true]
              · simp only [amset, amlib, zset, encSh, eq_self, ↓reduceIte, reduceCtorEq, Nat.reduceBEq, Nat.reduceEqDiff, Nat.reduceAdd, Nat.reduceMul, Nat.reduceLeDiff, Nat.reduceLT, Nat.reduceSub]
            | false =>
              cases p6 : (shapeK y.kind).1.n with
              | true =>
                cases p8 : (shapeK y.kind).1.body with
                | true =>
                  cases p10 : (shapeK y.kind).1.els with
                  | true =>
                    simp only [amset, amlib, zset, p0, p1, p2, p4, p5, p6, p8, p10, encSh, eq_self, ↓reduceIte, reduceCtorEq, Nat.reduceBEq, Nat.reduceEqDiff, Nat.reduceAdd, Nat.reduceMul, Nat.reduceLeDiff, Nat.reduceLT, Nat.reduceSub]
                    intros
                    refine ⟨_, holds103 y.n 0, ?_⟩
                    simp only [later]
                    simp only [amset, amlib, zset, p0, p1, p2, p4, p5, p6, p8, p10, encSh, eq_self, ↓reduceIte, reduceCtorEq, Nat.reduceBEq, Nat.reduceEqDiff, Nat.reduceAdd, Nat.reduceMul, Nat.reduceLeDiff, Nat.reduceLT, Nat.reduceSub]
                    intros
                    intros
                    refine keyK13 _ _ ?_ ?_
                    · simp only [amset, amlib, zset, encSh, eq_self, ↓reduceIte, reduceCtorEq, Nat.reduceBEq, Nat.reduceEqDiff, Nat.reduceAdd, Nat.reduceMul, Nat.reduceLeDiff, Nat.reduceLT, Nat.reduceSub] <;> simp only [stBad, p0, p1, p2, p4, p5, p6, p8, p10, Bool.true_or, Bool.or_true, Bool.false_or, Bool.or_false, Bool.true_and, Bool.and_true, Bool.false_and, Bool.and_false, Bool.not_true, Bool.not_false, if_true, if_false, ↓reduceIte, Bool.false_eq_true]
                    · simp only [amset, amlib, zset, encSh, eq_self, ↓reduceIte, reduceCtorEq, Nat.reduceBEq, Nat.reduceEqDiff, Nat.reduceAdd, Nat.reduceMul, Nat.reduceLeDiff, Nat.reduceLT, Nat.reduceSub]
                  | false =>
                    cases p11 : decide ((y.els.length : Int) > 0) with
                    | true =>
                      simp only [amset, amlib, zset, p0, p1, p2, p4, p5, p6, p8, p10, p11, encSh, eq_self, ↓reduceIte, reduceCtorEq, Nat.reduceBEq, Nat.reduceEqDiff, Nat.reduceAdd, Nat.reduceMul, Nat.reduceLeDiff, Nat.reduceLT, Nat.reduceSub]
                      intros
                      refine ⟨_, holds103 y.n 0, ?_⟩
                      simp only [later]
                      simp only [amset, amlib, zset, p0, p1, p2, p4, p5, p6, p8, p10, p11, encSh, eq_self, ↓reduceIte, reduceCtorEq, Nat.reduceBEq, Nat.reduceEqDiff, Nat.reduceAdd, Nat.reduceMul, Nat.reduceLeDiff, Nat.reduceLT, Nat.reduceSub]
                      intros
                      intros
                      refine keyK13 _ _ ?_ ?_
                      · simp only [amset, amlib, zset, encSh, eq_self, ↓reduceIte, reduceCtorEq, Nat.reduceBEq, Nat.reduceEqDiff, Nat.reduceAdd, Nat.reduceMul, Nat.reduceLeDiff, Nat.reduceLT, Nat.reduceSub] <;> simp only [stBad, p0, p1, p2, p4, p5, p6, p8, p10, p11, Bool.true_or, Bool.or_true, Bool.false_or, Bool.or_false, Bool.true_and, Bool.and_true, Bool.false_and, Bool.and_false, Bool.not_true, Bool.not_false, if_true, if_false, ↓reduceIte, Bool.false_eq_true]
                      · simp only [amset, amlib, zset, encSh, eq_self, ↓reduceIte, reduceCtorEq, Nat.reduceBEq, Nat.reduceEqDiff, Nat.reduceAdd, Nat.reduceMul, Nat.reduceLeDiff, Nat.reduceLT, Nat.reduceSub]
                    | false =>
                      simp only [amset, amlib, zset, p0, p1, p2, p4, p5, p6, p8, p10, p11, encSh, eq_self, ↓reduceIte, reduceCtorEq, Nat.reduceBEq, Nat.reduceEqDiff, Nat.reduceAdd, Nat.reduceMul, Nat.reduceLeDiff, Nat.reduceLT, Nat.reduceSub]
                      intros
                      refine ⟨_, holds103 y.n 0, ?_⟩
                      simp only [later]
                      simp only [amset, amlib, zset, p0, p1, p2, p4, p5, p6, p8, p10, p11, encSh, eq_self, ↓reduceIte, reduceCtorEq, Nat.reduceBEq, Nat.reduceEqDiff, Nat.reduceAdd, Nat.reduceMul, Nat.reduceLeDiff, Nat.reduceLT, Nat.reduceSub]
                      intros
                      intros
                      refine keyK13 _ _ ?_ ?_
                      · simp only [amset, amlib, zset, encSh, eq_self, ↓reduceIte, reduceCtorEq, Nat.reduceBEq, Nat.reduceEqDiff, Nat.reduceAdd, Nat.reduceMul, Nat.reduceLeDiff, Nat.reduceLT, Nat.reduceSub] <;> simp only [stBad, p0, p1, p2, p4, p5, p6, p8, p10, p11, Bool.true_or, Bool.or_true, Bool.false_or, Bool.or_false, Bool.true_and, Bool.and_true, Bool.false_and, Bool.and_false, Bool.not_true, Bool.not_false, if_true, if_false, ↓reduceIte, Bool.false_eq_true]
                      · simp only [amset, amlib, zset, encSh, eq_self, ↓reduceIte, reduceCtorEq, Nat.reduceBEq, Nat.reduceEqDiff, Nat.reduceAdd, Nat.reduceMul, Nat.reduceLeDiff, Nat.reduceLT, Nat.reduceSub]
                | false =>
                  cases p9 : decide ((y.body.length : Int) > 0) with
                  | true =>
                    simp only [amset, amlib, zset, p0, p1, p2, p4, p5, p6, p8, p9, encSh, eq_self, ↓reduceIte, reduceCtorEq, Nat.reduceBEq, Nat.reduceEqDiff, Nat.reduceAdd, Nat.reduceMul, Nat.reduceLeDiff, Nat.reduceLT, Nat.reduceSub]
                    intros
                    refine ⟨_, holds103 y.n 0, ?_⟩
                    simp only [later]
                    simp only [amset, amlib, zset, p0, p1, p2, p4, p5, p6, p8, p9, encSh, eq_self, ↓reduceIte, reduceCtorEq, Nat.reduceBEq, Nat.reduceEqDiff, Nat.reduceAdd, Nat.reduceMul, Nat.reduceLeDiff, Nat.reduceLT, Nat.reduceSub]
                    intros
                    intros
                    refine keyK13 _ _ ?_ ?_
                    · simp only [amset, amlib, zset, encSh, eq_self, ↓reduceIte, reduceCtorEq, Nat.reduceBEq, Nat.reduceEqDiff, Nat.reduceAdd, Nat.reduceMul, Nat.reduceLeDiff, Nat.reduceLT, Nat.reduceSub] <;> simp only [stBad, p0, p1, p2, p4, p5, p6, p8, p9, Bool.true_or, Bool.or_true, Bool.false_or, Bool.or_false, Bool.true_and, Bool.and_true, Bool.false_and, Bool.and_false, Bool.not_true, Bool.not_false, if_true, if_false, ↓reduceIte, Bool.false_eq_true]
                    · simp only [amset, amlib, zset, encSh, eq_self, ↓reduceIte, reduceCtorEq, Nat.reduceBEq, Nat.reduceEqDiff, Nat.reduceAdd, Nat.reduceMul, Nat.reduceLeDiff, Nat.reduceLT, Nat.reduceSub]
                  | false =>
                    cases p10 : (shapeK y.kind).1.els with
                    | true =>
                      simp only [amset, amlib, zset, p0, p1, p2, p4, p5, p6, p8, p9, p10, encSh, eq_self, ↓reduceIte, reduceCtorEq, Nat.reduceBEq, Nat.reduceEqDiff, Nat.reduceAdd, Nat.reduceMul, Nat.reduceLeDiff, Nat.reduceLT, Nat.reduceSub]
                      intros
                      refine ⟨_, holds103 y.n 0, ?_⟩
                      simp only [later]
                      simp only [amset, amlib, zset, p0, p1, p2, p4, p5, p6, p8, p9, p10, encSh, eq_self, ↓reduceIte, reduceCtorEq, Nat.reduceBEq, Nat.reduceEqDiff, Nat.reduceAdd, Nat.reduceMul, Nat.reduceLeDiff, Nat.reduceLT, Nat.reduceSub]
                      intros
                      intros
                      refine keyK13 _ _ ?_ ?_
                      · simp only [amset, amlib, zset, encSh, eq_self, ↓reduceIte, reduceCtorEq, Nat.reduceBEq, Nat.reduceEqDiff, Nat.reduceAdd, Nat.reduceMul, Nat.reduceLeDiff, Nat.reduceLT, Nat.reduceSub] <;> simp only [stBad, p0, p1, p2, p4, p5, p6, p8, p9, p10, Bool.true_or, Bool.or_true, Bool.false_or, Bool.or_false, Bool.true_and, Bool.and_true, Bool.false_and, Bool.and_false, Bool.not_true, Bool.not_false, if_true, if_false, ↓reduceIte, Bool.false_eq_true]
                      · simp only [amset, amlib, zset, encSh, eq_self, ↓reduceIte, reduceCtorEq, Nat.reduceBEq, Nat.reduceEqDiff, Nat.reduceAdd, Nat.reduceMul, Nat.reduceLeDiff, Nat.reduceLT, Nat.reduceSub]
                    | false =>
                      cases p11 : decide ((y.els.length : Int) > 0) with
                      | true =>
                        simp only [amset, amlib, zset, p0, p1, p2, p4, p5, p6, p8, p9, p10, p11, encSh, eq_self, ↓reduceIte, reduceCtorEq, Nat.reduceBEq, Nat.reduceEqDiff, Nat.reduceAdd, Nat.reduceMul, Nat.reduceLeDiff, Nat.reduceLT, Nat.reduceSub]
                        intros
                        refine ⟨_, holds103 y.n 0, ?_⟩
                        simp only [later]
                        simp only [amset, amlib, zset, p0, p1, p2, p4, p5, p6, p8, p9, p10, p11, encSh, eq_self, ↓reduceIte, reduceCtorEq, Nat.reduceBEq, Nat.reduceEqDiff, Nat.reduceAdd, Nat.reduceMul, Nat.reduceLeDiff, Nat.reduceLT, Nat.reduceSub]
                        intros
                        intros
                        refine keyK13 _ _ ?_ ?_
                        · simp only [amset, amlib, zset, encSh, eq_self, ↓reduceIte, reduceCtorEq, Nat.reduceBEq, Nat.reduceEqDiff, Nat.reduceAdd, Nat.reduceMul, Nat.reduceLeDiff, Nat.reduceLT, Nat.reduceSub] <;> simp only [stBad, p0, p1, p2, p4, p5, p6, p8, p9, p10, p11, Bool.true_or, Bool.or_true, Bool.false_or, Bool.or_false, Bool.true_and, Bool.and_true, Bool.false_and, Bool.and_false, Bool.not_true, Bool.not_false, if_true, if_false, ↓reduceIte, Bool.false_eq_true]
                        · simp only [amset, amlib, zset, encSh, eq_self, ↓reduceIte, reduceCtorEq, Nat.reduceBEq, Nat.reduceEqDiff, Nat.reduceAdd, Nat.reduceMul, Nat.reduceLeDiff, Nat.reduceLT, Nat.reduceSub]
                      | false =>
                        simp only [amset, amlib, zset, p0, p1, p2, p4, p5, p6, p8, p9, p10, p11, encSh, eq_self, ↓reduceIte, reduceCtorEq, Nat.reduceBEq, Nat.reduceEqDiff, Nat.reduceAdd, Nat.reduceMul, Nat.reduceLeDiff, Nat.reduceLT, Nat.reduceSub]
                        intros
                        refine ⟨_, holds103 y.n 0, ?_⟩
                        simp only [later]
                        simp only [amset, amlib, zset, p0, p1, p2, p4, p5, p6, p8, p9, p10, p11, encSh, eq_self, ↓reduceIte, reduceCtorEq, Nat.reduceBEq, Nat.reduceEqDiff, Nat.reduceAdd, Nat.reduceMul, Nat.reduceLeDiff, Nat.reduceLT, Nat.reduceSub]
                        intros
                        intros
                        refine keyK13 _ _ ?_ ?_
                        · simp only [amset, amlib, zset, encSh, eq_self, ↓reduceIte, reduceCtorEq, Nat.reduceBEq, Nat.reduceEqDiff, Nat.reduceAdd, Nat.reduceMul, Nat.reduceLeDiff, Nat.reduceLT, Nat.reduceSub] <;> simp only [stBad, p0, p1, p2, p4, p5, p6, p8, p9, p10, p11, Bool.true_or, Bool.or_true, Bool.false_or, Bool.or_false, Bool.true_and, Bool.and_true, Bool.false_and, Bool.and_false, Bool.not_true, Bool.not_false, if_true, if_false, ↓reduceIte, Bool.false_eq_true]
                        · simp only [amset, amlib, zset, encSh, eq_self, ↓reduceIte, reduceCtorEq, Nat.reduceBEq, Nat.reduceEqDiff, Nat.reduceAdd, Nat.reduceMul, Nat.reduceLeDiff, Nat.reduceLT, Nat.reduceSub]
              | false =>
                cases p7 : (y.n != 0) with
                | true =>
                  simp only [amset, amlib, zset, p0, p1, p2, p4, p5, p6, p7, encSh, eq_self, ↓reduceIte, reduceCtorEq, Nat.reduceBEq, Nat.reduceEqDiff, Nat.reduceAdd, Nat.reduceMul, Nat.reduceLeDiff, Nat.reduceLT, Nat.reduceSub]
                  intros
                  refine ⟨_, holds103 y.n 0, ?_⟩
                  simp only [later]
                  simp only [amset, amlib, zset, p0, p1, p2, p4, p5, p6, p7, encSh, eq_self, ↓reduceIte, reduceCtorEq, Nat.reduceBEq, Nat.reduceEqDiff, Nat.reduceAdd, Nat.reduceMul, Nat.reduceLeDiff, Nat.reduceLT, Nat.reduceSub]
                  intros
                  intros
                  refine keyK13 _ _ ?_ ?_
                  · simp only [amset, amlib, zset, encSh, eq_self, ↓reduceIte, reduceCtorEq, Nat.reduceBEq, Nat.reduceEqDiff, Nat.reduceAdd, Nat.reduceMul, Nat.reduceLeDiff, Nat.reduceLT, Nat.reduceSub] <;> simp only [stBad, p0, p1, p2, p4, p5, p6, p7, Bool.true_or, Bool.or_true, Bool.false_or, Bool.or_false, Bool.true_and, Bool.and_true, Bool.false_and, Bool.and_false, Bool.not_true, Bool.not_false, if_true, if_false, ↓reduceIte, Bool.false_eq_true]
                  · simp only [amset, amlib, zset, encSh, eq_self, ↓reduceIte, reduceCtorEq, Nat.reduceBEq, Nat.reduceEqDiff, Nat.reduceAdd, Nat.reduceMul, Nat.reduceLeDiff, Nat.reduceLT, Nat.reduceSub]
                | false =>
                  cases p8 : (shapeK y.kind).1.body with
                  | true =>
                    cases p10 : (shapeK y.kind).1.els with
                    | true =>
                      simp only [amset, amlib, zset, p0, p1, p2, p4, p5, p6, p7, p8, p10, encSh, eq_self, ↓reduceIte, reduceCtorEq, Nat.reduceBEq, Nat.reduceEqDiff, Nat.reduceAdd, Nat.reduceMul, Nat.reduceLeDiff, Nat.reduceLT, Nat.reduceSub]
                      intros
                      refine ⟨_, holds103 y.n 0, ?_⟩
                      simp only [later]
                      simp only [amset, amlib, zset, p0, p1, p2, p4, p5, p6, p7, p8, p10, encSh, eq_self, ↓reduceIte, reduceCtorEq, Nat.reduceBEq, Nat.reduceEqDiff, Nat.reduceAdd, Nat.reduceMul, Nat.reduceLeDiff, Nat.reduceLT, Nat.reduceSub]
                      intros
                      intros
                      refine keyK13 _ _ ?_ ?_
                      · simp only [amset, amlib, zset, encSh, eq_self, ↓reduceIte, reduceCtorEq, Nat.reduceBEq, Nat.reduceEqDiff, Nat.reduceAdd, Nat.reduceMul, Nat.reduceLeDiff, Nat.reduceLT, Nat.reduceSub] <;> simp only [stBad, p0, p1, p2, p4, p5, p6, p7, p8, p10, Bool.true_or, Bool.or_true, Bool.false_or, Bool.or_false, Bool.true_and, Bool.and_true, Bool.false_and, Bool.and_false, Bool.not_true, Bool.not_false, if_true, if_false, ↓reduceIte, Bool.false_eq_true]
                      · simp only [amset, amlib, zset, encSh, eq_self, ↓reduceIte, reduceCtorEq, Nat.reduceBEq, Nat.reduceEqDiff, Nat.reduceAdd, Nat.reduceMul, Nat.reduceLeDiff, Nat.reduceLT, Nat.reduceSub]
                    | false =>
                      cases p11 : decide ((y.els.length : Int) > 0) with
                      | true =>
                        simp only [amset, amlib, zset, p0, p1, p2, p4, p5, p6, p7, p8, p10, p11, encSh, eq_self, ↓reduceIte, reduceCtorEq, Nat.reduceBEq, Nat.reduceEqDiff, Nat.reduceAdd, Nat.reduceMul, Nat.reduceLeDiff, Nat.reduceLT, Nat.reduceSub]
                        intros
                        refine ⟨_, holds103 y.n 0, ?_⟩
                        simp only [later]
                        simp only [amset, amlib, zset, p0, p1, p2, p4, p5, p6, p7, p8, p10, p11, encSh, eq_self, ↓reduceIte, reduceCtorEq, Nat.reduceBEq, Nat.reduceEqDiff, Nat.reduceAdd, Nat.reduceMul, Nat.reduceLeDiff, Nat.reduceLT, Nat.reduceSub]
                        intros
                        intros
                        refine keyK13 _ _ ?_ ?_
                        · simp only [amset, amlib, zset, encSh, eq_self, ↓reduceIte, reduceCtorEq, Nat.reduceBEq, Nat.reduceEqDiff, Nat.reduceAdd, Nat.reduceMul, Nat.reduceLeDiff, Nat.reduceLT, Nat.reduceSub] <;> simp only [stBad, p0, p1, p2, p4, p5, p6, p7, p8, p10, p11, Bool.true_or, Bool.or_true, Bool.false_or, Bool.or_false, Bool.true_and, Bool.and_true, Bool.false_and, Bool.and_false, Bool.not_true, Bool.not_false, if_true, if_false, ↓reduceIte, Bool.false_eq_true]
                        · simp only [amset, amlib, zset, encSh, eq_self, ↓reduceIte, reduceCtorEq, Nat.reduceBEq, Nat.reduceEqDiff, Nat.reduceAdd, Nat.reduceMul, Nat.reduceLeDiff, Nat.reduceLT, Nat.reduceSub]
                      | false =>
                        simp only [amset, amlib, zset, p0, p1, p2, p4, p5, p6, p7, p8, p10, p11, encSh, eq_self, ↓reduceIte, reduceCtorEq, Nat.reduceBEq, Nat.reduceEqDiff, Nat.reduceAdd, Nat.reduceMul, Nat.reduceLeDiff, Nat.reduceLT, Nat.reduceSub]
                        intros
                        refine ⟨_, holds103 y.n 0, ?_⟩
                        simp only [later]
                        simp only [amset, amlib, zset, p0, p1, p2, p4, p5, p6, p7, p8, p10, p11, encSh, eq_self, ↓reduceIte, reduceCtorEq, Nat.reduceBEq, Nat.reduceEqDiff, Nat.reduceAdd, Nat.reduceMul, Nat.reduceLeDiff, Nat.reduceLT, Nat.reduceSub]
                        intros
                        intros
                        refine keyK13 _ _ ?_ ?_
                        · simp only [amset, amlib, zset, encSh, eq_self, ↓reduceIte, reduceCtorEq, Nat.reduceBEq, Nat.reduceEqDiff, Nat.reduceAdd, Nat.reduceMul, Nat.reduceLeDiff, Nat.reduceLT, Nat.reduceSub] <;> simp only [stBad, p0, p1, p2, p4, p5, p6, p7, p8, p10, p11, Bool.true_or, Bool.or_true, Bool.false_or, Bool.or_false, Bool.true_and, Bool.and_true, Bool.false_and, Bool.and_false, Bool.not_true, Bool.not_false, if_true, if_false, ↓reduceIte, Bool.false_eq_true]
                        · simp only [amset, amlib, zset, encSh, eq_self, ↓reduceIte, reduceCtorEq, Nat.reduceBEq, Nat.reduceEqDiff, Nat.reduceAdd, Nat.reduceMul, Nat.reduceLeDiff, Nat.reduceLT, Nat.reduceSub]
                  | false =>
                    cases p9 : decide ((y.body.length : Int) > 0) with
                    | true =>
                      simp only [amset, amlib, zset, p0, p1, p2, p4, p5, p6, p7, p8, p9, encSh, eq_self, ↓reduceIte, reduceCtorEq, Nat.reduceBEq, Nat.reduceEqDiff, Nat.reduceAdd, Nat.reduceMul, Nat.reduceLeDiff, Nat.reduceLT, Nat.reduceSub]
                      intros
                      refine ⟨_, holds103 y.n 0, ?_⟩
                      simp only [later]
                      simp only [amset, amlib, zset, p0, p1, p2, p4, p5, p6, p7, p8, p9, encSh, eq_self, ↓reduceIte, reduceCtorEq, Nat.reduceBEq, Nat.reduceEqDiff, Nat.reduceAdd, Nat.reduceMul, Nat.reduceLeDiff, Nat.reduceLT, Nat.reduceSub]
                      intros
                      intros
                      refine keyK13 _ _ ?_ ?_
                      · simp only [amset, amlib, zset, encSh, eq_self, ↓reduceIte, reduceCtorEq, Nat.reduceBEq, Nat.reduceEqDiff, Nat.reduceAdd, Nat.reduceMul, Nat.reduceLeDiff, Nat.reduceLT, Nat.reduceSub] <;> simp only [stBad, p0, p1, p2, p4, p5, p6, p7, p8, p9, Bool.true_or, Bool.or_true, Bool.false_or, Bool.or_false, Bool.true_and, Bool.and_true, Bool.false_and, Bool.and_false, Bool.not_true, Bool.not_false, if_true, if_false, ↓reduceIte, Bool.false_eq_true]
                      · simp only [amset, amlib, zset, encSh, eq_self, ↓reduceIte, reduceCtorEq, Nat.reduceBEq, Nat.reduceEqDiff, Nat.reduceAdd, Nat.reduceMul, Nat.reduceLeDiff, Nat.reduceLT, Nat.reduceSub]
                    | false =>
                      cases p10 : (shapeK y.kind).1.els with
                      | true =>
                        simp only [amset, amlib, zset, p0, p1, p2, p4, p5, p6, p7, p8, p9, p10, encSh, eq_self, ↓reduceIte, reduceCtorEq, Nat.reduceBEq, Nat.reduceEqDiff, Nat.reduceAdd, Nat.reduceMul, Nat.reduceLeDiff, Nat.reduceLT, Nat.reduceSub]
                        intros
                        refine ⟨_, holds103 y.n 0, ?_⟩
                        simp only [later]
                        simp only [amset, amlib, zset, p0, p1, p2, p4, p5, p6, p7, p8, p9, p10, encSh, eq_self, ↓reduceIte, reduceCtorEq, Nat.reduceBEq, Nat.reduceEqDiff, Nat.reduceAdd, Nat.reduceMul, Nat.reduceLeDiff, Nat.reduceLT, Nat.reduceSub]
                        intros
                        intros
                        refine keyK13 _ _ ?_ ?_
                        · simp only [amset, amlib, zset, encSh, eq_self, ↓reduceIte, reduceCtorEq, Nat.reduceBEq, Nat.reduceEqDiff, Nat.reduceAdd, Nat.reduceMul, Nat.reduceLeDiff, Nat.reduceLT, Nat.reduceSub] <;> simp only [stBad, p0, p1, p2, p4, p5, p6, p7, p8, p9, p10, Bool.true_or, Bool.or_true, Bool.false_or, Bool.or_false, Bool.true_and, Bool.and_true, Bool.false_and, Bool.and_false, Bool.not_true, Bool.not_false, if_true, if_false, ↓reduceIte, Bool.false_eq_true]
                        · simp only [amset, amlib, zset, encSh, eq_self, ↓reduceIte, reduceCtorEq, Nat.reduceBEq, Nat.reduceEqDiff, Nat.reduceAdd, Nat.reduceMul, Nat.reduceLeDiff, Nat.reduceLT, Nat.reduceSub]
                      | false =>
                        cases p11 : decide ((y.els.length : Int) > 0) with
                        | true =>
                          simp only [amset, amlib, zset, p0, p1, p2, p4, p5, p6, p7, p8, p9, p10, p11, encSh, eq_self, ↓reduceIte, reduceCtorEq, Nat.reduceBEq, Nat.reduceEqDiff, Nat.reduceAdd, Nat.reduceMul, Nat.reduceLeDiff, Nat.reduceLT, Nat.reduceSub]
                          intros
                          refine ⟨_, holds103 y.n 0, ?_⟩
                          simp only [later]
                          simp only [amset, amlib, zset, p0, p1, p2, p4, p5, p6, p7, p8, p9, p10, p11, encSh, eq_self, ↓reduceIte, reduceCtorEq, Nat.reduceBEq, Nat.reduceEqDiff, Nat.reduceAdd, Nat.reduceMul, Nat.reduceLeDiff, Nat.reduceLT, Nat.reduceSub]
                          intros
                          intros
                          refine keyK13 _ _ ?_ ?_
                          · simp only [amset, amlib, zset, encSh, eq_self, ↓reduceIte, reduceCtorEq, Nat.reduceBEq, Nat.reduceEqDiff, Nat.reduceAdd, Nat.reduceMul, Nat.reduceLeDiff, Nat.reduceLT, Nat.reduceSub] <;> simp only [stBad, p0, p1, p2, p4, p5, p6, p7, p8, p9, p10, p11, Bool.true_or, Bool.or_true, Bool.false_or, Bool.or_false, Bool.true_and, Bool.and_true, Bool.false_and, Bool.and_false, Bool.not_true, Bool.not_false, if_true, if_false, ↓reduceIte, Bool.false_eq_true]
                          · simp only [amset, amlib, zset, encSh, eq_self, ↓reduceIte, reduceCtorEq, Nat.reduceBEq, Nat.reduceEqDiff, Nat.reduceAdd, Nat.reduceMul, Nat.reduceLeDiff, Nat.reduceLT, Nat.reduceSub]
                        | false =>
                          simp only [amset, amlib, zset, p0, p1, p2, p4, p5, p6, p7, p8, p9, p10, p11, encSh, eq_self, ↓reduceIte, reduceCtorEq, Nat.reduceBEq, Nat.reduceEqDiff, Nat.reduceAdd, Nat.reduceMul, Nat.reduceLeDiff, Nat.reduceLT, Nat.reduceSub]
                          intros
                          refine ⟨_, holds103 y.n 0, ?_⟩
                          simp only [later]
                          simp only [amset, amlib, zset, p0, p1, p2, p4, p5, p6, p7, p8, p9, p10, p11, encSh, eq_self, ↓reduceIte, reduceCtorEq, Nat.reduceBEq, Nat.reduceEqDiff, Nat.reduceAdd, Nat.reduceMul, Nat.reduceLeDiff, Nat.reduceLT, Nat.reduceSub]
                          intros
                          intros
                          refine keyK13 _ _ ?_ ?_
                          · simp only [amset, amlib, zset, encSh, eq_self, ↓reduceIte, reduceCtorEq, Nat.reduceBEq, Nat.reduceEqDiff, Nat.reduceAdd, Nat.reduceMul, Nat.reduceLeDiff, Nat.reduceLT, Nat.reduceSub] <;> simp only [stBad, p0, p1, p2, p4, p5, p6, p7, p8, p9, p10, p11, Bool.true_or, Bool.or_true, Bool.false_or, Bool.or_false, Bool.true_and, Bool.and_true, Bool.false_and, Bool.and_false, Bool.not_true, Bool.not_false, if_true, if_false, ↓reduceIte, Bool.false_eq_true]
                          · simp only [amset, amlib, zset, encSh, eq_self, ↓reduceIte, reduceCtorEq, Nat.reduceBEq, Nat.reduceEqDiff, Nat.reduceAdd, Nat.reduceMul, Nat.reduceLeDiff, Nat.reduceLT, Nat.reduceSub]
    | false =>
      simp only [amset, amlib, zset, p0, encSh, eq_self, ↓reduceIte, reduceCtorEq, Nat.reduceBEq, Nat.reduceEqDiff, Nat.reduceAdd, Nat.reduceMul, Nat.reduceLeDiff, Nat.reduceLT, Nat.reduceSub]
      intros
      intros
      intros
      refine keyK13 _ _ ?_ ?_
      · simp only [amset, amlib, zset, encSh, eq_self, ↓reduceIte, reduceCtorEq, Nat.reduceBEq, Nat.reduceEqDiff, Nat.reduceAdd, Nat.reduceMul, Nat.reduceLeDiff, Nat.reduceLT, Nat.reduceSub] <;> simp only [stBad, p0, Bool.true_or, Bool.or_true, Bool.false_or, Bool.or_false, Bool.true_and, Bool.and_true, Bool.false_and, Bool.and_false, Bool.not_true, Bool.not_false, if_true, if_false, ↓reduceIte, Bool.false_eq_true]
      · simp only [amset, amlib, zset, encSh, eq_self, ↓reduceIte, reduceCtorEq, Nat.reduceBEq, Nat.reduceEqDiff, Nat.reduceAdd, Nat.reduceMul, Nat.reduceLeDiff, Nat.reduceLT, Nat.reduceSub]
theorem holds69 (l : List St) : Holds Tryz.prog zG 69 [.c (.sl 7 (encSs l))] [.c (.bool (stsOK l))] := step69 l fun m hm => holds69 m
  termination_by SizeOf.sizeOf l
  decreasing_by exact hm
end Go.Proofs.Am
set_option maxRecDepth 100000
set_option maxHeartbeats 4000000
namespace Go.Proofs.Am
open Go.RowKit
theorem grow_nil (A : Option Addr) (cap : Nat) (w : World) (hc : cap ≤ maxLen) : Calls Tryz.prog 172 #[.slice A 0 cap, .int .i64 0] w fun e w' => e = .returned (.slice A 0 cap) ∧ w' = w := by
  have key : ¬ (0 < wrap64 (-wrap64 (cap : Int))) := by unfold wrap64; simp only [maxLen] at hc; omega
  go_enter Tryz.func172, Tryz.ntmps172
  go_wp2
  all_goals first
    | (exfalso; apply key; assumption)
    | (go_ret; exact ⟨rfl, rfl⟩)
theorem holds172 : Holds Tryz.prog zG 172 [.c (.sl 0 []), .c (.int .i64 0)] [.c (.sl 0 [])] := by
  refine ⟨⟨Tryz.f172, Tryz.func172, rfl, rfl⟩, fun ok w vs hng hglob hA => ?_⟩
  cases hA with
  | cons h r => cases r with
    | cons h2 r =>
      cases r
      obtain rfl : _ = Value.int .i64 0 := h2
      obtain ⟨A, n, cap, rfl, hn, hc, _⟩ := h
      simp at hn
      subst hn
      refine Calls.mono (grow_nil A cap w hc.2) fun e w' he => ?_
      obtain ⟨rfl, rfl⟩ := he
      exact ⟨[_], rfl, .cons ⟨A, 0, cap, rfl, rfl, hc, .inl rfl⟩ .nil, Below.refl _ _⟩
theorem prog99 : Tryz.prog.funcs[99]? = some Tryz.f99 := by kernel_rfl
theorem holds99  : Holds Tryz.prog zG 99 [.c (.sl 1 [[C.sl 1 []], [C.sl 1 []]])] [.c (.sl 0 [])] := by
  refine holds_of_body zT prog99 rfl rfl rfl (by simp [Tryz.f99]) ?_
  refine aw_ops zT fun K1 hK1 => ?_
  simp only [amset, amlib, zset, eq_self, ↓reduceIte, reduceCtorEq, Nat.reduceBEq, Nat.reduceEqDiff, Nat.reduceAdd, Nat.reduceMul, Nat.reduceLeDiff, Nat.reduceLT, Nat.reduceSub]
  refine hK1 _ ?_
  clear hK1
  refine aw_ops zT fun K2 hK2 => ?_
  simp only [amset, amlib, zset, eq_self, ↓reduceIte, reduceCtorEq, Nat.reduceBEq, Nat.reduceEqDiff, Nat.reduceAdd, Nat.reduceMul, Nat.reduceLeDiff, Nat.reduceLT, Nat.reduceSub]
  refine hK2 _ ?_
  clear hK2
  refine aw_seq fun K3 hK3 => ?_
  refine aw_ops zT fun K4 hK4 => ?_
  simp only [amset, amlib, zset, eq_self, ↓reduceIte, reduceCtorEq, Nat.reduceBEq, Nat.reduceEqDiff, Nat.reduceAdd, Nat.reduceMul, Nat.reduceLeDiff, Nat.reduceLT, Nat.reduceSub]
  intros
  refine hK4 _ ?_
  clear hK4
  refine aw_block ?_
  refine aw_range (α := Unit) ([(), ()]) (fun dn => True) (fun dn => [(3, .cell (.c (.int .i64 0))), (11, .cell (.c (.int .i64 dn.length)))]) (fun dn => []) [] [3, 5, 11, 12, 13, 14, 15, 16, 17, 18, 19, 20, 21, 22] [] trivial ?_ ?_ ?_ ?_
  · simp only [amset, amlib, zset, eq_self, ↓reduceIte, reduceCtorEq, Nat.reduceBEq, Nat.reduceEqDiff, Nat.reduceAdd, Nat.reduceMul, Nat.reduceLeDiff, Nat.reduceLT, Nat.reduceSub] <;> simp [eq_self]
  · simp only [amset, amlib, zset, eq_self, ↓reduceIte, reduceCtorEq, Nat.reduceBEq, Nat.reduceEqDiff, Nat.reduceAdd, Nat.reduceMul, Nat.reduceLeDiff, Nat.reduceLT, Nat.reduceSub] <;> simp [eq_self]
  · intro hI R
    refine aw_norm (by simp only [amset, amlib, zset, eq_self, ↓reduceIte, reduceCtorEq, Nat.reduceBEq, Nat.reduceEqDiff, Nat.reduceAdd, Nat.reduceMul, Nat.reduceLeDiff, Nat.reduceLT, Nat.reduceSub]; exact rfl) ?_
    refine aw_ops zT fun K5 hK5 => ?_
    simp only [amset, amlib, zset, eq_self, ↓reduceIte, reduceCtorEq, Nat.reduceBEq, Nat.reduceEqDiff, Nat.reduceAdd, Nat.reduceMul, Nat.reduceLeDiff, Nat.reduceLT, Nat.reduceSub]
    refine hK5 _ ?_
    clear hK5
    refine aw_seq fun K6 hK6 => ?_
    refine aw_cond (t := false) (by simp [evalO, S.get, amLook]) (fun h => nomatch h) (fun _ => ?_)
    refine aw_exit ?_
    simp only [thenQ, blkQ, if_true, reduceIte, Nat.reduceEqDiff, eq_self]
    refine hK3 _ ?_
    clear hK3
    refine aw_ops zT fun K7 hK7 => ?_
    simp only [amset, amlib, zset, eq_self, ↓reduceIte, reduceCtorEq, Nat.reduceBEq, Nat.reduceEqDiff, Nat.reduceAdd, Nat.reduceMul, Nat.reduceLeDiff, Nat.reduceLT, Nat.reduceSub]
    refine ⟨_, holds172, ?_⟩
    simp only [later]
    simp only [amset, amlib, zset, eq_self, ↓reduceIte, reduceCtorEq, Nat.reduceBEq, Nat.reduceEqDiff, Nat.reduceAdd, Nat.reduceMul, Nat.reduceLeDiff, Nat.reduceLT, Nat.reduceSub]
    refine hK7 _ ?_
    clear hK7
    refine aw_seq fun K8 hK8 => ?_
    refine aw_ops zT fun K9 hK9 => ?_
    simp only [amset, amlib, zset, eq_self, ↓reduceIte, reduceCtorEq, Nat.reduceBEq, Nat.reduceEqDiff, Nat.reduceAdd, Nat.reduceMul, Nat.reduceLeDiff, Nat.reduceLT, Nat.reduceSub]
    intros
    refine hK9 _ ?_
    clear hK9
    refine aw_block ?_
    refine aw_range (α := Unit) ([(), ()]) (fun dn1 => True) (fun dn1 => [(6, .cell (.c (.sl 0 []))), (27, .cell (.c (.int .i64 dn1.length)))]) (fun dn1 => []) [] [6, 8, 27, 28, 29, 30, 31, 32, 33, 34] [] trivial ?_ ?_ ?_ ?_
    · simp only [amset, amlib, zset, eq_self, ↓reduceIte, reduceCtorEq, Nat.reduceBEq, Nat.reduceEqDiff, Nat.reduceAdd, Nat.reduceMul, Nat.reduceLeDiff, Nat.reduceLT, Nat.reduceSub] <;> simp [eq_self]
    · simp only [amset, amlib, zset, eq_self, ↓reduceIte, reduceCtorEq, Nat.reduceBEq, Nat.reduceEqDiff, Nat.reduceAdd, Nat.reduceMul, Nat.reduceLeDiff, Nat.reduceLT, Nat.reduceSub] <;> simp [eq_self]
    · intro hI1 R1
      refine aw_norm (by simp only [amset, amlib, zset, eq_self, ↓reduceIte, reduceCtorEq, Nat.reduceBEq, Nat.reduceEqDiff, Nat.reduceAdd, Nat.reduceMul, Nat.reduceLeDiff, Nat.reduceLT, Nat.reduceSub]; exact rfl) ?_
      refine aw_ops zT fun K10 hK10 => ?_
      simp only [amset, amlib, zset, eq_self, ↓reduceIte, reduceCtorEq, Nat.reduceBEq, Nat.reduceEqDiff, Nat.reduceAdd, Nat.reduceMul, Nat.reduceLeDiff, Nat.reduceLT, Nat.reduceSub]
      refine hK10 _ ?_
      clear hK10
      refine aw_seq fun K11 hK11 => ?_
      refine aw_cond (t := false) (by simp [evalO, S.get, amLook]) (fun h => nomatch h) (fun _ => ?_)
      refine aw_exit ?_
      simp only [thenQ, blkQ, if_true, reduceIte, Nat.reduceEqDiff, eq_self]
      refine hK8 _ ?_
      clear hK8
      refine aw_ops zT fun K12 hK12 => ?_
      simp only [amset, amlib, zset, eq_self, ↓reduceIte, reduceCtorEq, Nat.reduceBEq, Nat.reduceEqDiff, Nat.reduceAdd, Nat.reduceMul, Nat.reduceLeDiff, Nat.reduceLT, Nat.reduceSub]
      refine hK12 _ ?_
      clear hK12
      refine aw_ret ?_
      show resOf zG _ [.tmp 2] = some _
      simp only [amset, amlib, zset, eq_self, ↓reduceIte, reduceCtorEq, Nat.reduceBEq, Nat.reduceEqDiff, Nat.reduceAdd, Nat.reduceMul, Nat.reduceLeDiff, Nat.reduceLT, Nat.reduceSub]
    · intro dn1 y1 td1 harg1 hI1 R1 hR1
      have hl1 : ([(), ()]).length = dn1.length + (td1.length + 1) := by rw [harg1]; simp
      have hmem1 : y1 ∈ [(), ()] := by rw [harg1]; simp
      refine aw_norm (by simp only [amset, amlib, zset, eq_self, ↓reduceIte, reduceCtorEq, Nat.reduceBEq, Nat.reduceEqDiff, Nat.reduceAdd, Nat.reduceMul, Nat.reduceLeDiff, Nat.reduceLT, Nat.reduceSub]; exact rfl) ?_
      have hd2 : dn1.length < 2 := by simp at hl1; omega
      have hget1 : ([[C.sl 1 []], [C.sl 1 []]] : List (List C)).getD dn1.length [] = [C.sl 1 []] := by
        rcases hx : dn1.length with _ | _ | n
        · rfl
        · rfl
        · omega
      refine aw_ops zT fun K13 hK13 => ?_
      simp only [amset, amlib, zset, eq_self, ↓reduceIte, reduceCtorEq, Nat.reduceBEq, Nat.reduceEqDiff, Nat.reduceAdd, Nat.reduceMul, Nat.reduceLeDiff, Nat.reduceLT, Nat.reduceSub]
      refine hK13 _ ?_
      clear hK13
      refine aw_seq fun K14 hK14 => ?_
      refine aw_cond (t := true) (by simp [evalO, S.get, amLook]; omega) (fun _ => ?_) (fun h => nomatch h)
      refine aw_skip ?_
      simp only [thenQ, blkQ, if_true, reduceIte, Nat.reduceEqDiff, eq_self]
      refine hK14 _ ?_
      clear hK14
      refine aw_seq fun K15 hK15 => ?_
      refine aw_block ?_
      refine aw_ops zT fun K16 hK16 => ?_
      simp only [amset, amlib, zset, hget1, eq_self, ↓reduceIte, reduceCtorEq, Nat.reduceBEq, Nat.reduceEqDiff, Nat.reduceAdd, Nat.reduceMul, Nat.reduceLeDiff, Nat.reduceLT, Nat.reduceSub]
      refine ⟨⟨by omega, by omega⟩, ?_⟩
      refine hK16 _ ?_
      clear hK16
      refine aw_region zT ?_
      simp only [amset, amlib, zset, eq_self, ↓reduceIte, reduceCtorEq, Nat.reduceBEq, Nat.reduceEqDiff, Nat.reduceAdd, Nat.reduceMul, Nat.reduceLeDiff, Nat.reduceLT, Nat.reduceSub]
      refine hK15 _ ?_
      clear hK15
      refine aw_region zT ?_
      simp only [amset, amlib, zset, eq_self, ↓reduceIte, reduceCtorEq, Nat.reduceBEq, Nat.reduceEqDiff, Nat.reduceAdd, Nat.reduceMul, Nat.reduceLeDiff, Nat.reduceLT, Nat.reduceSub]
      refine ⟨⟨by omega, by omega⟩, ?_⟩
      refine hR1 _ trivial ?_
      refine Reach.to ?_ ?_
      · simp only [amset, amlib, zset, eq_self, ↓reduceIte, reduceCtorEq, Nat.reduceBEq, Nat.reduceEqDiff, Nat.reduceAdd, Nat.reduceMul, Nat.reduceLeDiff, Nat.reduceLT, Nat.reduceSub] <;> simp [eq_self]
      · simp only [amset, amlib, zset, eq_self, ↓reduceIte, reduceCtorEq, Nat.reduceBEq, Nat.reduceEqDiff, Nat.reduceAdd, Nat.reduceMul, Nat.reduceLeDiff, Nat.reduceLT, Nat.reduceSub] <;> simp [eq_self]
  · intro dn y td harg hI R hR
    have hl : ([(), ()]).length = dn.length + (td.length + 1) := by rw [harg]; simp
    have hmem : y ∈ [(), ()] := by rw [harg]; simp
    refine aw_norm (by simp only [amset, amlib, zset, eq_self, ↓reduceIte, reduceCtorEq, Nat.reduceBEq, Nat.reduceEqDiff, Nat.reduceAdd, Nat.reduceMul, Nat.reduceLeDiff, Nat.reduceLT, Nat.reduceSub]; exact rfl) ?_
    have hd2 : dn.length < 2 := by simp at hl; omega
    have hget : ([[C.sl 1 []], [C.sl 1 []]] : List (List C)).getD dn.length [] = [C.sl 1 []] := by
      rcases hx : dn.length with _ | _ | n
      · rfl
      · rfl
      · omega
    refine aw_ops zT fun K17 hK17 => ?_
    simp only [amset, amlib, zset, eq_self, ↓reduceIte, reduceCtorEq, Nat.reduceBEq, Nat.reduceEqDiff, Nat.reduceAdd, Nat.reduceMul, Nat.reduceLeDiff, Nat.reduceLT, Nat.reduceSub]
    refine hK17 _ ?_
    clear hK17
    refine aw_seq fun K18 hK18 => ?_
    refine aw_cond (t := true) (by simp [evalO, S.get, amLook]; omega) (fun _ => ?_) (fun h => nomatch h)
    refine aw_skip ?_
    simp only [thenQ, blkQ, if_true, reduceIte, Nat.reduceEqDiff, eq_self]
    refine hK18 _ ?_
    clear hK18
    refine aw_seq fun K19 hK19 => ?_
    refine aw_block ?_
    refine aw_ops zT fun K20 hK20 => ?_
    simp only [amset, amlib, zset, hget, eq_self, ↓reduceIte, reduceCtorEq, Nat.reduceBEq, Nat.reduceEqDiff, Nat.reduceAdd, Nat.reduceMul, Nat.reduceLeDiff, Nat.reduceLT, Nat.reduceSub]
    refine ⟨⟨by omega, by omega⟩, ?_⟩
    refine hK20 _ ?_
    clear hK20
    have hz : ((0 : Int) + ((0 : Nat) : Int)) = 0 := rfl
    refine aw_ops zT fun K21 hK21 => ?_
    simp only [amset, amlib, zset, hz, eq_self, ↓reduceIte, reduceCtorEq, Nat.reduceBEq, Nat.reduceEqDiff, Nat.reduceAdd, Nat.reduceMul, Nat.reduceLeDiff, Nat.reduceLT, Nat.reduceSub]
    intros
    refine ⟨⟨by omega, by omega⟩, ?_⟩
    refine hK21 _ ?_
    clear hK21
    refine aw_ops zT fun K22 hK22 => ?_
    simp only [amset, amlib, zset, eq_self, ↓reduceIte, reduceCtorEq, Nat.reduceBEq, Nat.reduceEqDiff, Nat.reduceAdd, Nat.reduceMul, Nat.reduceLeDiff, Nat.reduceLT, Nat.reduceSub]
    refine hK22 _ ?_
    clear hK22
    refine aw_cond (t := false) (by simp [evalO, S.get, amLook]) (fun h => nomatch h) (fun _ => ?_)
    refine aw_skip ?_
    simp only [thenQ, blkQ, if_true, reduceIte, Nat.reduceEqDiff, eq_self]
    refine hK19 _ ?_
    clear hK19
    refine aw_region zT ?_
    simp only [amset, amlib, zset, eq_self, ↓reduceIte, reduceCtorEq, Nat.reduceBEq, Nat.reduceEqDiff, Nat.reduceAdd, Nat.reduceMul, Nat.reduceLeDiff, Nat.reduceLT, Nat.reduceSub]
    refine ⟨⟨by omega, by omega⟩, ?_⟩
    refine hR _ trivial ?_
    refine Reach.to ?_ ?_
    · simp only [amset, amlib, zset, eq_self, ↓reduceIte, reduceCtorEq, Nat.reduceBEq, Nat.reduceEqDiff, Nat.reduceAdd, Nat.reduceMul, Nat.reduceLeDiff, Nat.reduceLT, Nat.reduceSub] <;> simp [eq_self]
    · simp only [amset, amlib, zset, eq_self, ↓reduceIte, reduceCtorEq, Nat.reduceBEq, Nat.reduceEqDiff, Nat.reduceAdd, Nat.reduceMul, Nat.reduceLeDiff, Nat.reduceLT, Nat.reduceSub] <;> simp [eq_self]
end Go.Proofs.Am
set_option maxRecDepth 100000
set_option maxHeartbeats 4000000
namespace Go.Proofs.Am
def stTab : List (Bool × Bool × Bool × Bool × Int) := [(false, false, false, false, 0), (true, false, false, false, 1), (true, false, false, false, 1), (true, false, false, false, 2), (false, false, true, true, 1), (false, true, true, false, 0), (false, false, true, false, 1), (true, false, false, false, 1), (false, false, false, false, 1), (true, false, false, false, 1), (false, true, true, false, 0), (false, true, true, false, 0), (false, false, false, false, 0), (false, false, false, false, 0)]
def stR (k : Int) : Bool × Bool × Bool × Bool × Int := stTab.getD k.toNat (false, false, false, false, 0)
def sN (k : Int) : Bool := (stR k).1
def sI (k : Int) : Bool := (stR k).2.1
def sB (k : Int) : Bool := (stR k).2.2.1
def sA (k : Int) : Bool := (stR k).2.2.2.1
def sC (k : Int) : Int := (stR k).2.2.2.2
theorem st_at (k : Int) (h : 1 ≤ k ∧ k ≤ 13) : gStatements.drop (k.toNat * 5) = .bool (sN k) :: .bool (sI k) :: .bool (sB k) :: .bool (sA k) :: .int .i64 (sC k) :: gStatements.drop (k.toNat * 5 + 5) := by
  have : k = 1 ∨ k = 2 ∨ k = 3 ∨ k = 4 ∨ k = 5 ∨ k = 6 ∨ k = 7 ∨ k = 8 ∨ k = 9 ∨ k = 10 ∨ k = 11 ∨ k = 12 ∨ k = 13 := by omega
  rcases this with rfl | rfl | rfl | rfl | rfl | rfl | rfl | rfl | rfl | rfl | rfl | rfl | rfl <;> rfl
def nmA (x : St) : Bool := (sN x.kind && ident x.name) || (!sN x.kind && (x.name == []))
def nuA (x : St) : Bool := (sI x.kind && numA x.n) || (!sI x.kind && (x.n == 0))
def lsA (x : St) : Bool := (sB x.kind || ((x.body.length : Int) == 0)) && (sA x.kind || ((x.els.length : Int) == 0))
def bdA (x : St) : Bool := decide (x.kind < 1) || decide (x.kind > 13) || !nmA x || !nuA x || !lsA x || ((x.args.length : Int) != sC x.kind) || x.args.any (fun y => !wfA y)
mutual
def wfS : St → Bool
  | .mk k n v a b e p => !bdA (.mk k n v a b e p) && wfSs b && wfSs e
def wfSs : List St → Bool
  | [] => true
  | x :: r => wfS x && wfSs r
end
theorem wfS_not (x : St) : (!wfS x) = (bdA x || !wfSs x.body || !wfSs x.els) := by
  cases x
  rw [wfS, Bool.not_and, Bool.not_and, Bool.not_not]
  rfl
theorem wfSs_any (l : List St) : (!(l.any fun y => !wfS y)) = wfSs l := by
  induction l with
  | nil => rfl
  | cons y r ih => rw [List.any_cons, Bool.not_or, ih, wfSs, Bool.not_not]
theorem prog209 : Tryz.prog.funcs[209]? = some Tryz.f209 := by kernel_rfl
theorem holds209 (x : Ex) : Holds Tryz.prog zG 209 [.agg [.int .i64 x.kind, .str x.name, .int .i16 x.value, .int .i64 x.op, .sl 6 (encEs x.args), .int .i64 x.pos]] [.c (.bool (!wfA x))] := by
  refine holds_of_body zT prog209 rfl rfl rfl (by simp [Tryz.f209]) ?_
  refine aw_ops zT fun K1 hK1 => ?_
  simp only [amset, amlib, zset, eq_self, ↓reduceIte, reduceCtorEq, Nat.reduceBEq, Nat.reduceEqDiff, Nat.reduceAdd, Nat.reduceMul, Nat.reduceLeDiff, Nat.reduceLT, Nat.reduceSub]
  refine hK1 _ ?_
  clear hK1
  refine aw_ops zT fun K2 hK2 => ?_
  simp only [amset, amlib, zset, eq_self, ↓reduceIte, reduceCtorEq, Nat.reduceBEq, Nat.reduceEqDiff, Nat.reduceAdd, Nat.reduceMul, Nat.reduceLeDiff, Nat.reduceLT, Nat.reduceSub]
  refine ⟨_, holds93 x, ?_⟩
  simp only [later]
  simp only [amset, amlib, zset, eq_self, ↓reduceIte, reduceCtorEq, Nat.reduceBEq, Nat.reduceEqDiff, Nat.reduceAdd, Nat.reduceMul, Nat.reduceLeDiff, Nat.reduceLT, Nat.reduceSub]
  refine hK2 _ ?_
  clear hK2
  refine aw_ret ?_
  show resOf zG _ [.tmp 2] = some _
  simp only [amset, amlib, zset, eq_self, ↓reduceIte, reduceCtorEq, Nat.reduceBEq, Nat.reduceEqDiff, Nat.reduceAdd, Nat.reduceMul, Nat.reduceLeDiff, Nat.reduceLT, Nat.reduceSub]
theorem prog208 : Tryz.prog.funcs[208]? = some Tryz.f208 := by kernel_rfl
theorem step208 (x : St) (ih : Holds Tryz.prog zG 174 [.c (.sl 7 (encSs x.body))] [.c (.bool (wfSs x.body))]) (ihe : Holds Tryz.prog zG 174 [.c (.sl 7 (encSs x.els))] [.c (.bool (wfSs x.els))]) : Holds Tryz.prog zG 208 [.agg [.int .i64 x.kind, .str x.name, .int .i64 x.n, .sl 6 (encEs x.args), .sl 7 (encSs x.body), .sl 7 (encSs x.els), .int .i64 x.pos]] [.c (.bool (!wfS x))] := by
  refine holds_of_body zT prog208 rfl rfl rfl (by simp [Tryz.f208]) ?_
  refine aw_ops zT fun K1 hK1 => ?_
  simp only [amset, amlib, zset, eq_self, ↓reduceIte, reduceCtorEq, Nat.reduceBEq, Nat.reduceEqDiff, Nat.reduceAdd, Nat.reduceMul, Nat.reduceLeDiff, Nat.reduceLT, Nat.reduceSub]
  refine hK1 _ ?_
  clear hK1
  refine aw_seq fun K2 hK2 => ?_
  refine aw_ops zT fun K3 hK3 => ?_
  cases k0 : decide (x.kind < 1) with
  | true =>
    simp only [amset, amlib, zset, k0, eq_self, ↓reduceIte, reduceCtorEq, Nat.reduceBEq, Nat.reduceEqDiff, Nat.reduceAdd, Nat.reduceMul, Nat.reduceLeDiff, Nat.reduceLT, Nat.reduceSub]
    refine hK3 _ ?_
    clear hK3
    refine aw_cond (t := true) rfl (fun _ => ?_) (fun h => nomatch h)
    refine aw_ops zT fun K4 hK4 => ?_
    simp only [amset, amlib, zset, eq_self, ↓reduceIte, reduceCtorEq, Nat.reduceBEq, Nat.reduceEqDiff, Nat.reduceAdd, Nat.reduceMul, Nat.reduceLeDiff, Nat.reduceLT, Nat.reduceSub]
    refine hK4 _ ?_
    clear hK4
    refine aw_ret ?_
    show resOf zG _ [.tmp 2] = some _
    simp only [amset, amlib, zset, eq_self, ↓reduceIte, reduceCtorEq, Nat.reduceBEq, Nat.reduceEqDiff, Nat.reduceAdd, Nat.reduceMul, Nat.reduceLeDiff, Nat.reduceLT, Nat.reduceSub]
    rw [wfS_not]
    simp only [bdA, k0, Bool.true_or, Bool.or_true, Bool.false_or, Bool.or_false, Bool.true_and, Bool.and_true, Bool.false_and, Bool.and_false, Bool.not_true, Bool.not_false, if_true, if_false, ↓reduceIte, Bool.false_eq_true]
  | false =>
    cases k1 : decide (x.kind > 13) with
    | true =>
      simp only [amset, amlib, zset, k0, k1, eq_self, ↓reduceIte, reduceCtorEq, Nat.reduceBEq, Nat.reduceEqDiff, Nat.reduceAdd, Nat.reduceMul, Nat.reduceLeDiff, Nat.reduceLT, Nat.reduceSub]
      refine hK3 _ ?_
      clear hK3
      refine aw_cond (t := true) rfl (fun _ => ?_) (fun h => nomatch h)
      refine aw_ops zT fun K5 hK5 => ?_
      simp only [amset, amlib, zset, eq_self, ↓reduceIte, reduceCtorEq, Nat.reduceBEq, Nat.reduceEqDiff, Nat.reduceAdd, Nat.reduceMul, Nat.reduceLeDiff, Nat.reduceLT, Nat.reduceSub]
      refine hK5 _ ?_
      clear hK5
      refine aw_ret ?_
      show resOf zG _ [.tmp 2] = some _
      simp only [amset, amlib, zset, eq_self, ↓reduceIte, reduceCtorEq, Nat.reduceBEq, Nat.reduceEqDiff, Nat.reduceAdd, Nat.reduceMul, Nat.reduceLeDiff, Nat.reduceLT, Nat.reduceSub]
      rw [wfS_not]
      simp only [bdA, k0, k1, Bool.true_or, Bool.or_true, Bool.false_or, Bool.or_false, Bool.true_and, Bool.and_true, Bool.false_and, Bool.and_false, Bool.not_true, Bool.not_false, if_true, if_false, ↓reduceIte, Bool.false_eq_true]
    | false =>
      simp only [amset, amlib, zset, k0, k1, eq_self, ↓reduceIte, reduceCtorEq, Nat.reduceBEq, Nat.reduceEqDiff, Nat.reduceAdd, Nat.reduceMul, Nat.reduceLeDiff, Nat.reduceLT, Nat.reduceSub]
      refine hK3 _ ?_
      clear hK3
      refine aw_cond (t := false) rfl (fun h => nomatch h) (fun _ => ?_)
      refine aw_skip ?_
      simp only [thenQ, blkQ, if_true, reduceIte, Nat.reduceEqDiff, eq_self]
      refine hK2 _ ?_
      clear hK2
      have hst := st_at x.kind (by simp at k0 k1; omega)
      refine aw_ops zT fun K6 hK6 => ?_
      simp only [amset, amlib, zset, hst, eq_self, ↓reduceIte, reduceCtorEq, Nat.reduceBEq, Nat.reduceEqDiff, Nat.reduceAdd, Nat.reduceMul, Nat.reduceLeDiff, Nat.reduceLT, Nat.reduceSub]
      refine ⟨⟨by simp at k0; omega, by simp at k1; omega⟩, ?_⟩
      refine hK6 _ ?_
      clear hK6
      refine aw_ops zT fun K7 hK7 => ?_
      have keyK7 : ∀ E B, envIn E ([(1, .ptr 1 0), (3, .ptr 3 0), (4, .cell (.c (.bool (nmA x))))] : List (Nat × V)) → envIn B ([(1, (encS x).map .c), (3, [.c (.bool (sN x.kind)), .c (.bool (sI x.kind)), .c (.bool (sB x.kind)), .c (.bool (sA x.kind)), .c (.int .i64 (sC x.kind))])] : List (Nat × List Cell)) → K7 ⟨E, B⟩ := by
        intro E B he hb
        refine hK7 _ (aw_to ⟨[(1, .ptr 1 0), (3, .ptr 3 0), (4, .cell (.c (.bool (nmA x))))], [(1, (encS x).map .c), (3, [.c (.bool (sN x.kind)), .c (.bool (sI x.kind)), .c (.bool (sB x.kind)), .c (.bool (sA x.kind)), .c (.int .i64 (sC x.kind))])]⟩ he hb ?_)
        refine aw_ops zT fun K8 hK8 => ?_
        have keyK8 : ∀ E B, envIn E ([(1, .ptr 1 0), (3, .ptr 3 0), (4, .cell (.c (.bool (nmA x)))), (5, .cell (.c (.bool (nuA x))))] : List (Nat × V)) → envIn B ([(1, (encS x).map .c), (3, [.c (.bool (sN x.kind)), .c (.bool (sI x.kind)), .c (.bool (sB x.kind)), .c (.bool (sA x.kind)), .c (.int .i64 (sC x.kind))])] : List (Nat × List Cell)) → K8 ⟨E, B⟩ := by
          intro E B he hb
          refine hK8 _ (aw_to ⟨[(1, .ptr 1 0), (3, .ptr 3 0), (4, .cell (.c (.bool (nmA x)))), (5, .cell (.c (.bool (nuA x))))], [(1, (encS x).map .c), (3, [.c (.bool (sN x.kind)), .c (.bool (sI x.kind)), .c (.bool (sB x.kind)), .c (.bool (sA x.kind)), .c (.int .i64 (sC x.kind))])]⟩ he hb ?_)
          refine aw_ops zT fun K9 hK9 => ?_
          have keyK9 : ∀ E B, envIn E ([(1, .ptr 1 0), (3, .ptr 3 0), (4, .cell (.c (.bool (nmA x)))), (5, .cell (.c (.bool (nuA x)))), (6, .cell (.c (.bool (lsA x))))] : List (Nat × V)) → envIn B ([(1, (encS x).map .c), (3, [.c (.bool (sN x.kind)), .c (.bool (sI x.kind)), .c (.bool (sB x.kind)), .c (.bool (sA x.kind)), .c (.int .i64 (sC x.kind))])] : List (Nat × List Cell)) → K9 ⟨E, B⟩ := by
            intro E B he hb
            refine hK9 _ (aw_to ⟨[(1, .ptr 1 0), (3, .ptr 3 0), (4, .cell (.c (.bool (nmA x)))), (5, .cell (.c (.bool (nuA x)))), (6, .cell (.c (.bool (lsA x))))], [(1, (encS x).map .c), (3, [.c (.bool (sN x.kind)), .c (.bool (sI x.kind)), .c (.bool (sB x.kind)), .c (.bool (sA x.kind)), .c (.int .i64 (sC x.kind))])]⟩ he hb ?_)
            refine aw_ops zT fun K10 hK10 => ?_
            cases u0 : (!nmA x) with
            | true =>
              simp only [amset, amlib, zset, k0, k1, u0, eq_self, ↓reduceIte, reduceCtorEq, Nat.reduceBEq, Nat.reduceEqDiff, Nat.reduceAdd, Nat.reduceMul, Nat.reduceLeDiff, Nat.reduceLT, Nat.reduceSub]
              refine hK10 _ ?_
              clear hK10
              refine aw_ret ?_
              show resOf zG _ [.tmp 2] = some _
              simp only [amset, amlib, zset, eq_self, ↓reduceIte, reduceCtorEq, Nat.reduceBEq, Nat.reduceEqDiff, Nat.reduceAdd, Nat.reduceMul, Nat.reduceLeDiff, Nat.reduceLT, Nat.reduceSub]
              rw [wfS_not]
              simp only [bdA, k0, k1, u0, Bool.true_or, Bool.or_true, Bool.false_or, Bool.or_false, Bool.true_and, Bool.and_true, Bool.false_and, Bool.and_false, Bool.not_true, Bool.not_false, if_true, if_false, ↓reduceIte, Bool.false_eq_true]
            | false =>
              cases u1 : (!nuA x) with
              | true =>
                simp only [amset, amlib, zset, k0, k1, u0, u1, eq_self, ↓reduceIte, reduceCtorEq, Nat.reduceBEq, Nat.reduceEqDiff, Nat.reduceAdd, Nat.reduceMul, Nat.reduceLeDiff, Nat.reduceLT, Nat.reduceSub]
                refine hK10 _ ?_
                clear hK10
                refine aw_ret ?_
                show resOf zG _ [.tmp 2] = some _
                simp only [amset, amlib, zset, eq_self, ↓reduceIte, reduceCtorEq, Nat.reduceBEq, Nat.reduceEqDiff, Nat.reduceAdd, Nat.reduceMul, Nat.reduceLeDiff, Nat.reduceLT, Nat.reduceSub]
                rw [wfS_not]
                simp only [bdA, k0, k1, u0, u1, Bool.true_or, Bool.or_true, Bool.false_or, Bool.or_false, Bool.true_and, Bool.and_true, Bool.false_and, Bool.and_false, Bool.not_true, Bool.not_false, if_true, if_false, ↓reduceIte, Bool.false_eq_true]
              | false =>
                cases u2 : (!lsA x) with
                | true =>
                  simp only [amset, amlib, zset, k0, k1, u0, u1, u2, eq_self, ↓reduceIte, reduceCtorEq, Nat.reduceBEq, Nat.reduceEqDiff, Nat.reduceAdd, Nat.reduceMul, Nat.reduceLeDiff, Nat.reduceLT, Nat.reduceSub]
                  refine hK10 _ ?_
                  clear hK10
                  refine aw_ret ?_
                  show resOf zG _ [.tmp 2] = some _
                  simp only [amset, amlib, zset, eq_self, ↓reduceIte, reduceCtorEq, Nat.reduceBEq, Nat.reduceEqDiff, Nat.reduceAdd, Nat.reduceMul, Nat.reduceLeDiff, Nat.reduceLT, Nat.reduceSub]
                  rw [wfS_not]
                  simp only [bdA, k0, k1, u0, u1, u2, Bool.true_or, Bool.or_true, Bool.false_or, Bool.or_false, Bool.true_and, Bool.and_true, Bool.false_and, Bool.and_false, Bool.not_true, Bool.not_false, if_true, if_false, ↓reduceIte, Bool.false_eq_true]
                | false =>
                  cases u3 : ((x.args.length : Int) != sC x.kind) with
                  | true =>
                    simp only [amset, amlib, zset, k0, k1, u0, u1, u2, u3, eq_self, ↓reduceIte, reduceCtorEq, Nat.reduceBEq, Nat.reduceEqDiff, Nat.reduceAdd, Nat.reduceMul, Nat.reduceLeDiff, Nat.reduceLT, Nat.reduceSub]
                    intros
                    refine hK10 _ ?_
                    clear hK10
                    refine aw_ret ?_
                    show resOf zG _ [.tmp 2] = some _
                    simp only [amset, amlib, zset, eq_self, ↓reduceIte, reduceCtorEq, Nat.reduceBEq, Nat.reduceEqDiff, Nat.reduceAdd, Nat.reduceMul, Nat.reduceLeDiff, Nat.reduceLT, Nat.reduceSub]
                    rw [wfS_not]
                    simp only [bdA, k0, k1, u0, u1, u2, u3, Bool.true_or, Bool.or_true, Bool.false_or, Bool.or_false, Bool.true_and, Bool.and_true, Bool.false_and, Bool.and_false, Bool.not_true, Bool.not_false, if_true, if_false, ↓reduceIte, Bool.false_eq_true]
                  | false =>
                    cases u4 : (x.args.any fun y => !wfA y) with
                    | true =>
                      simp only [amset, amlib, zset, k0, k1, u0, u1, u2, u3, u4, eq_self, ↓reduceIte, reduceCtorEq, Nat.reduceBEq, Nat.reduceEqDiff, Nat.reduceAdd, Nat.reduceMul, Nat.reduceLeDiff, Nat.reduceLT, Nat.reduceSub]
                      intros
                      refine ⟨_, holds79 209 (fun y => !wfA y) x.args (fun y _ => holds209 y), ?_⟩
                      simp only [later]
                      simp only [amset, amlib, zset, k0, k1, u0, u1, u2, u3, u4, eq_self, ↓reduceIte, reduceCtorEq, Nat.reduceBEq, Nat.reduceEqDiff, Nat.reduceAdd, Nat.reduceMul, Nat.reduceLeDiff, Nat.reduceLT, Nat.reduceSub]
                      refine hK10 _ ?_
                      clear hK10
                      refine aw_ret ?_
                      show resOf zG _ [.tmp 2] = some _
                      simp only [amset, amlib, zset, eq_self, ↓reduceIte, reduceCtorEq, Nat.reduceBEq, Nat.reduceEqDiff, Nat.reduceAdd, Nat.reduceMul, Nat.reduceLeDiff, Nat.reduceLT, Nat.reduceSub]
                      rw [wfS_not]
                      simp only [bdA, k0, k1, u0, u1, u2, u3, u4, Bool.true_or, Bool.or_true, Bool.false_or, Bool.or_false, Bool.true_and, Bool.and_true, Bool.false_and, Bool.and_false, Bool.not_true, Bool.not_false, if_true, if_false, ↓reduceIte, Bool.false_eq_true]
                    | false =>
                      cases u5 : (!wfSs x.body) with
                      | true =>
                        simp only [amset, amlib, zset, k0, k1, u0, u1, u2, u3, u4, u5, eq_self, ↓reduceIte, reduceCtorEq, Nat.reduceBEq, Nat.reduceEqDiff, Nat.reduceAdd, Nat.reduceMul, Nat.reduceLeDiff, Nat.reduceLT, Nat.reduceSub]
                        intros
                        refine ⟨_, holds79 209 (fun y => !wfA y) x.args (fun y _ => holds209 y), ?_⟩
                        simp only [later]
                        simp only [amset, amlib, zset, k0, k1, u0, u1, u2, u3, u4, u5, eq_self, ↓reduceIte, reduceCtorEq, Nat.reduceBEq, Nat.reduceEqDiff, Nat.reduceAdd, Nat.reduceMul, Nat.reduceLeDiff, Nat.reduceLT, Nat.reduceSub]
                        refine ⟨_, ih, ?_⟩
                        simp only [later]
                        simp only [amset, amlib, zset, k0, k1, u0, u1, u2, u3, u4, u5, eq_self, ↓reduceIte, reduceCtorEq, Nat.reduceBEq, Nat.reduceEqDiff, Nat.reduceAdd, Nat.reduceMul, Nat.reduceLeDiff, Nat.reduceLT, Nat.reduceSub]
                        refine hK10 _ ?_
                        clear hK10
                        refine aw_ret ?_
                        show resOf zG _ [.tmp 2] = some _
                        simp only [amset, amlib, zset, eq_self, ↓reduceIte, reduceCtorEq, Nat.reduceBEq, Nat.reduceEqDiff, Nat.reduceAdd, Nat.reduceMul, Nat.reduceLeDiff, Nat.reduceLT, Nat.reduceSub]
                        rw [wfS_not]
                        simp only [bdA, k0, k1, u0, u1, u2, u3, u4, u5, Bool.true_or, Bool.or_true, Bool.false_or, Bool.or_false, Bool.true_and, Bool.and_true, Bool.false_and, Bool.and_false, Bool.not_true, Bool.not_false, if_true, if_false, ↓reduceIte, Bool.false_eq_true]
                      | false =>
                        cases u6 : (!wfSs x.els) with
                        | true =>
                          simp only [amset, amlib, zset, k0, k1, u0, u1, u2, u3, u4, u5, u6, eq_self, ↓reduceIte, reduceCtorEq, Nat.reduceBEq, Nat.reduceEqDiff, Nat.reduceAdd, Nat.reduceMul, Nat.reduceLeDiff, Nat.reduceLT, Nat.reduceSub]
                          intros
                          refine ⟨_, holds79 209 (fun y => !wfA y) x.args (fun y _ => holds209 y), ?_⟩
                          simp only [later]
                          simp only [amset, amlib, zset, k0, k1, u0, u1, u2, u3, u4, u5, u6, eq_self, ↓reduceIte, reduceCtorEq, Nat.reduceBEq, Nat.reduceEqDiff, Nat.reduceAdd, Nat.reduceMul, Nat.reduceLeDiff, Nat.reduceLT, Nat.reduceSub]
                          refine ⟨_, ih, ?_⟩
                          simp only [later]
                          simp only [amset, amlib, zset, k0, k1, u0, u1, u2, u3, u4, u5, u6, eq_self, ↓reduceIte, reduceCtorEq, Nat.reduceBEq, Nat.reduceEqDiff, Nat.reduceAdd, Nat.reduceMul, Nat.reduceLeDiff, Nat.reduceLT, Nat.reduceSub]
                          refine ⟨_, ihe, ?_⟩
                          simp only [later]
                          simp only [amset, amlib, zset, k0, k1, u0, u1, u2, u3, u4, u5, u6, eq_self, ↓reduceIte, reduceCtorEq, Nat.reduceBEq, Nat.reduceEqDiff, Nat.reduceAdd, Nat.reduceMul, Nat.reduceLeDiff, Nat.reduceLT, Nat.reduceSub]
                          refine hK10 _ ?_
                          clear hK10
                          refine aw_ret ?_
                          show resOf zG _ [.tmp 2] = some _
                          simp only [amset, amlib, zset, eq_self, ↓reduceIte, reduceCtorEq, Nat.reduceBEq, Nat.reduceEqDiff, Nat.reduceAdd, Nat.reduceMul, Nat.reduceLeDiff, Nat.reduceLT, Nat.reduceSub]
                          rw [wfS_not]
                          simp only [bdA, k0, k1, u0, u1, u2, u3, u4, u5, u6, Bool.true_or, Bool.or_true, Bool.false_or, Bool.or_false, Bool.true_and, Bool.and_true, Bool.false_and, Bool.and_false, Bool.not_true, Bool.not_false, if_true, if_false, ↓reduceIte, Bool.false_eq_true]
                        | false =>
                          simp only [amset, amlib, zset, k0, k1, u0, u1, u2, u3, u4, u5, u6, eq_self, ↓reduceIte, reduceCtorEq, Nat.reduceBEq, Nat.reduceEqDiff, Nat.reduceAdd, Nat.reduceMul, Nat.reduceLeDiff, Nat.reduceLT, Nat.reduceSub]
                          intros
                          refine ⟨_, holds79 209 (fun y => !wfA y) x.args (fun y _ => holds209 y), ?_⟩
                          simp only [later]
                          simp only [amset, amlib, zset, k0, k1, u0, u1, u2, u3, u4, u5, u6, eq_self, ↓reduceIte, reduceCtorEq, Nat.reduceBEq, Nat.reduceEqDiff, Nat.reduceAdd, Nat.reduceMul, Nat.reduceLeDiff, Nat.reduceLT, Nat.reduceSub]
                          refine ⟨_, ih, ?_⟩
                          simp only [later]
                          simp only [amset, amlib, zset, k0, k1, u0, u1, u2, u3, u4, u5, u6, eq_self, ↓reduceIte, reduceCtorEq, Nat.reduceBEq, Nat.reduceEqDiff, Nat.reduceAdd, Nat.reduceMul, Nat.reduceLeDiff, Nat.reduceLT, Nat.reduceSub]
                          refine ⟨_, ihe, ?_⟩
                          simp only [later]
                          simp only [amset, amlib, zset, k0, k1, u0, u1, u2, u3, u4, u5, u6, eq_self, ↓reduceIte, reduceCtorEq, Nat.reduceBEq, Nat.reduceEqDiff, Nat.reduceAdd, Nat.reduceMul, Nat.reduceLeDiff, Nat.reduceLT, Nat.reduceSub]
                          refine hK10 _ ?_
                          clear hK10
                          refine aw_ret ?_
                          show resOf zG _ [.tmp 2] = some _
                          simp only [amset, amlib, zset, eq_self, ↓reduceIte, reduceCtorEq, Nat.reduceBEq, Nat.reduceEqDiff, Nat.reduceAdd, Nat.reduceMul, Nat.reduceLeDiff, Nat.reduceLT, Nat.reduceSub]
                          rw [wfS_not]
                          simp only [bdA, k0, k1, u0, u1, u2, u3, u4, u5, u6, Bool.true_or, Bool.or_true, Bool.false_or, Bool.or_false, Bool.true_and, Bool.and_true, Bool.false_and, Bool.and_false, Bool.not_true, Bool.not_false, if_true, if_false, ↓reduceIte, Bool.false_eq_true]
          cases c0 : sB x.kind with
          | true =>
            cases c2 : sA x.kind with
            | true =>
              simp only [amset, amlib, zset, k0, k1, c0, c2, eq_self, ↓reduceIte, reduceCtorEq, Nat.reduceBEq, Nat.reduceEqDiff, Nat.reduceAdd, Nat.reduceMul, Nat.reduceLeDiff, Nat.reduceLT, Nat.reduceSub]
              refine keyK9 _ _ ?_ ?_
              · simp only [amset, amlib, zset, eq_self, ↓reduceIte, reduceCtorEq, Nat.reduceBEq, Nat.reduceEqDiff, Nat.reduceAdd, Nat.reduceMul, Nat.reduceLeDiff, Nat.reduceLT, Nat.reduceSub] <;> simp only [lsA, k0, k1, c0, c2, Bool.true_or, Bool.or_true, Bool.false_or, Bool.or_false, Bool.true_and, Bool.and_true, Bool.false_and, Bool.and_false, Bool.not_true, Bool.not_false, if_true, if_false, ↓reduceIte, Bool.false_eq_true]
              · simp only [amset, amlib, zset, eq_self, ↓reduceIte, reduceCtorEq, Nat.reduceBEq, Nat.reduceEqDiff, Nat.reduceAdd, Nat.reduceMul, Nat.reduceLeDiff, Nat.reduceLT, Nat.reduceSub] <;> simp only [k0, k1, c0, c2]
            | false =>
              simp only [amset, amlib, zset, k0, k1, c0, c2, eq_self, ↓reduceIte, reduceCtorEq, Nat.reduceBEq, Nat.reduceEqDiff, Nat.reduceAdd, Nat.reduceMul, Nat.reduceLeDiff, Nat.reduceLT, Nat.reduceSub]
              intros
              refine keyK9 _ _ ?_ ?_
              · simp only [amset, amlib, zset, eq_self, ↓reduceIte, reduceCtorEq, Nat.reduceBEq, Nat.reduceEqDiff, Nat.reduceAdd, Nat.reduceMul, Nat.reduceLeDiff, Nat.reduceLT, Nat.reduceSub] <;> simp only [lsA, k0, k1, c0, c2, Bool.true_or, Bool.or_true, Bool.false_or, Bool.or_false, Bool.true_and, Bool.and_true, Bool.false_and, Bool.and_false, Bool.not_true, Bool.not_false, if_true, if_false, ↓reduceIte, Bool.false_eq_true]
              · simp only [amset, amlib, zset, eq_self, ↓reduceIte, reduceCtorEq, Nat.reduceBEq, Nat.reduceEqDiff, Nat.reduceAdd, Nat.reduceMul, Nat.reduceLeDiff, Nat.reduceLT, Nat.reduceSub] <;> simp only [k0, k1, c0, c2]
          | false =>
            cases c1 : ((x.body.length : Int) == 0) with
            | true =>
              cases c2 : sA x.kind with
              | true =>
                simp only [amset, amlib, zset, k0, k1, c0, c1, c2, eq_self, ↓reduceIte, reduceCtorEq, Nat.reduceBEq, Nat.reduceEqDiff, Nat.reduceAdd, Nat.reduceMul, Nat.reduceLeDiff, Nat.reduceLT, Nat.reduceSub]
                intros
                refine keyK9 _ _ ?_ ?_
                · simp only [amset, amlib, zset, eq_self, ↓reduceIte, reduceCtorEq, Nat.reduceBEq, Nat.reduceEqDiff, Nat.reduceAdd, Nat.reduceMul, Nat.reduceLeDiff, Nat.reduceLT, Nat.reduceSub] <;> simp only [lsA, k0, k1, c0, c1, c2, Bool.true_or, Bool.or_true, Bool.false_or, Bool.or_false, Bool.true_and, Bool.and_true, Bool.false_and, Bool.and_false, Bool.not_true, Bool.not_false, if_true, if_false, ↓reduceIte, Bool.false_eq_true]
                · simp only [amset, amlib, zset, eq_self, ↓reduceIte, reduceCtorEq, Nat.reduceBEq, Nat.reduceEqDiff, Nat.reduceAdd, Nat.reduceMul, Nat.reduceLeDiff, Nat.reduceLT, Nat.reduceSub] <;> simp only [k0, k1, c0, c1, c2]
              | false =>
                simp only [amset, amlib, zset, k0, k1, c0, c1, c2, eq_self, ↓reduceIte, reduceCtorEq, Nat.reduceBEq, Nat.reduceEqDiff, Nat.reduceAdd, Nat.reduceMul, Nat.reduceLeDiff, Nat.reduceLT, Nat.reduceSub]
                intros
                intros
                refine keyK9 _ _ ?_ ?_
                · simp only [amset, amlib, zset, eq_self, ↓reduceIte, reduceCtorEq, Nat.reduceBEq, Nat.reduceEqDiff, Nat.reduceAdd, Nat.reduceMul, Nat.reduceLeDiff, Nat.reduceLT, Nat.reduceSub] <;> simp only [lsA, k0, k1, c0, c1, c2, Bool.true_or, Bool.or_true, Bool.false_or, Bool.or_false, Bool.true_and, Bool.and_true, Bool.false_and, Bool.and_false, Bool.not_true, Bool.not_false, if_true, if_false, ↓reduceIte, Bool.false_eq_true]
                · simp only [amset, amlib, zset, eq_self, ↓reduceIte, reduceCtorEq, Nat.reduceBEq, Nat.reduceEqDiff, Nat.reduceAdd, Nat.reduceMul, Nat.reduceLeDiff, Nat.reduceLT, Nat.reduceSub] <;> simp only [k0, k1, c0, c1, c2]
            | false =>
              simp only [amset, amlib, zset, k0, k1, c0, c1, eq_self, ↓reduceIte, reduceCtorEq, Nat.reduceBEq, Nat.reduceEqDiff, Nat.reduceAdd, Nat.reduceMul, Nat.reduceLeDiff, Nat.reduceLT, Nat.reduceSub]
              intros
              refine keyK9 _ _ ?_ ?_
              · simp only [amset, amlib, zset, eq_self, ↓reduceIte, reduceCtorEq, Nat.reduceBEq, Nat.reduceEqDiff, Nat.reduceAdd, Nat.reduceMul, Nat.reduceLeDiff, Nat.reduceLT, Nat.reduceSub] <;> simp only [lsA, k0, k1, c0, c1, Bool.true_or, Bool.or_true, Bool.false_or, Bool.or_false, Bool.true_and, Bool.and_true, Bool.false_and, Bool.and_false, Bool.not_true, Bool.not_false, if_true, if_false, ↓reduceIte, Bool.false_eq_true]
              · simp only [amset, amlib, zset, eq_self, ↓reduceIte, reduceCtorEq, Nat.reduceBEq, Nat.reduceEqDiff, Nat.reduceAdd, Nat.reduceMul, Nat.reduceLeDiff, Nat.reduceLT, Nat.reduceSub] <;> simp only [k0, k1, c0, c1]
        cases b0 : sI x.kind with
        | true =>
          cases b1 : numA x.n with
          | true =>
            simp only [amset, amlib, zset, k0, k1, b0, b1, eq_self, ↓reduceIte, reduceCtorEq, Nat.reduceBEq, Nat.reduceEqDiff, Nat.reduceAdd, Nat.reduceMul, Nat.reduceLeDiff, Nat.reduceLT, Nat.reduceSub]
            refine ⟨_, holds98 x.n, ?_⟩
            simp only [later]
            simp only [amset, amlib, zset, k0, k1, b0, b1, eq_self, ↓reduceIte, reduceCtorEq, Nat.reduceBEq, Nat.reduceEqDiff, Nat.reduceAdd, Nat.reduceMul, Nat.reduceLeDiff, Nat.reduceLT, Nat.reduceSub]
            refine keyK8 _ _ ?_ ?_
            · simp only [amset, amlib, zset, eq_self, ↓reduceIte, reduceCtorEq, Nat.reduceBEq, Nat.reduceEqDiff, Nat.reduceAdd, Nat.reduceMul, Nat.reduceLeDiff, Nat.reduceLT, Nat.reduceSub] <;> simp only [nuA, k0, k1, b0, b1, Bool.true_or, Bool.or_true, Bool.false_or, Bool.or_false, Bool.true_and, Bool.and_true, Bool.false_and, Bool.and_false, Bool.not_true, Bool.not_false, if_true, if_false, ↓reduceIte, Bool.false_eq_true]
            · simp only [amset, amlib, zset, eq_self, ↓reduceIte, reduceCtorEq, Nat.reduceBEq, Nat.reduceEqDiff, Nat.reduceAdd, Nat.reduceMul, Nat.reduceLeDiff, Nat.reduceLT, Nat.reduceSub] <;> simp only [k0, k1, b0, b1]
          | false =>
            simp only [amset, amlib, zset, k0, k1, b0, b1, eq_self, ↓reduceIte, reduceCtorEq, Nat.reduceBEq, Nat.reduceEqDiff, Nat.reduceAdd, Nat.reduceMul, Nat.reduceLeDiff, Nat.reduceLT, Nat.reduceSub]
            refine ⟨_, holds98 x.n, ?_⟩
            simp only [later]
            simp only [amset, amlib, zset, k0, k1, b0, b1, eq_self, ↓reduceIte, reduceCtorEq, Nat.reduceBEq, Nat.reduceEqDiff, Nat.reduceAdd, Nat.reduceMul, Nat.reduceLeDiff, Nat.reduceLT, Nat.reduceSub]
            refine keyK8 _ _ ?_ ?_
            · simp only [amset, amlib, zset, eq_self, ↓reduceIte, reduceCtorEq, Nat.reduceBEq, Nat.reduceEqDiff, Nat.reduceAdd, Nat.reduceMul, Nat.reduceLeDiff, Nat.reduceLT, Nat.reduceSub] <;> simp only [nuA, k0, k1, b0, b1, Bool.true_or, Bool.or_true, Bool.false_or, Bool.or_false, Bool.true_and, Bool.and_true, Bool.false_and, Bool.and_false, Bool.not_true, Bool.not_false, if_true, if_false, ↓reduceIte, Bool.false_eq_true]
            · simp only [amset, amlib, zset, eq_self, ↓reduceIte, reduceCtorEq, Nat.reduceBEq, Nat.reduceEqDiff, Nat.reduceAdd, Nat.reduceMul, Nat.reduceLeDiff, Nat.reduceLT, Nat.reduceSub] <;> simp only [k0, k1, b0, b1]
        | false =>
          simp only [amset, amlib, zset, k0, k1, b0, eq_self, ↓reduceIte, reduceCtorEq, Nat.reduceBEq, Nat.reduceEqDiff, Nat.reduceAdd, Nat.reduceMul, Nat.reduceLeDiff, Nat.reduceLT, Nat.reduceSub]
          refine keyK8 _ _ ?_ ?_
          · simp only [amset, amlib, zset, eq_self, ↓reduceIte, reduceCtorEq, Nat.reduceBEq, Nat.reduceEqDiff, Nat.reduceAdd, Nat.reduceMul, Nat.reduceLeDiff, Nat.reduceLT, Nat.reduceSub] <;> simp only [nuA, k0, k1, b0, Bool.true_or, Bool.or_true, Bool.false_or, Bool.or_false, Bool.true_and, Bool.and_true, Bool.false_and, Bool.and_false, Bool.not_true, Bool.not_false, if_true, if_false, ↓reduceIte, Bool.false_eq_true]
          · simp only [amset, amlib, zset, eq_self, ↓reduceIte, reduceCtorEq, Nat.reduceBEq, Nat.reduceEqDiff, Nat.reduceAdd, Nat.reduceMul, Nat.reduceLeDiff, Nat.reduceLT, Nat.reduceSub] <;> simp only [k0, k1, b0]
      cases a0 : sN x.kind with
      | true =>
        cases a1 : ident x.name with
        | true =>
          simp only [amset, amlib, zset, k0, k1, a0, a1, eq_self, ↓reduceIte, reduceCtorEq, Nat.reduceBEq, Nat.reduceEqDiff, Nat.reduceAdd, Nat.reduceMul, Nat.reduceLeDiff, Nat.reduceLT, Nat.reduceSub]
          refine ⟨_, holds96 x.name, ?_⟩
          simp only [later]
          simp only [amset, amlib, zset, k0, k1, a0, a1, eq_self, ↓reduceIte, reduceCtorEq, Nat.reduceBEq, Nat.reduceEqDiff, Nat.reduceAdd, Nat.reduceMul, Nat.reduceLeDiff, Nat.reduceLT, Nat.reduceSub]
          refine keyK7 _ _ ?_ ?_
          · simp only [amset, amlib, zset, eq_self, ↓reduceIte, reduceCtorEq, Nat.reduceBEq, Nat.reduceEqDiff, Nat.reduceAdd, Nat.reduceMul, Nat.reduceLeDiff, Nat.reduceLT, Nat.reduceSub] <;> simp only [nmA, k0, k1, a0, a1, Bool.true_or, Bool.or_true, Bool.false_or, Bool.or_false, Bool.true_and, Bool.and_true, Bool.false_and, Bool.and_false, Bool.not_true, Bool.not_false, if_true, if_false, ↓reduceIte, Bool.false_eq_true]
          · simp only [amset, amlib, zset, eq_self, ↓reduceIte, reduceCtorEq, Nat.reduceBEq, Nat.reduceEqDiff, Nat.reduceAdd, Nat.reduceMul, Nat.reduceLeDiff, Nat.reduceLT, Nat.reduceSub] <;> simp only [k0, k1, a0, a1]
        | false =>
          simp only [amset, amlib, zset, k0, k1, a0, a1, eq_self, ↓reduceIte, reduceCtorEq, Nat.reduceBEq, Nat.reduceEqDiff, Nat.reduceAdd, Nat.reduceMul, Nat.reduceLeDiff, Nat.reduceLT, Nat.reduceSub]
          refine ⟨_, holds96 x.name, ?_⟩
          simp only [later]
          simp only [amset, amlib, zset, k0, k1, a0, a1, eq_self, ↓reduceIte, reduceCtorEq, Nat.reduceBEq, Nat.reduceEqDiff, Nat.reduceAdd, Nat.reduceMul, Nat.reduceLeDiff, Nat.reduceLT, Nat.reduceSub]
          refine keyK7 _ _ ?_ ?_
          · simp only [amset, amlib, zset, eq_self, ↓reduceIte, reduceCtorEq, Nat.reduceBEq, Nat.reduceEqDiff, Nat.reduceAdd, Nat.reduceMul, Nat.reduceLeDiff, Nat.reduceLT, Nat.reduceSub] <;> simp only [nmA, k0, k1, a0, a1, Bool.true_or, Bool.or_true, Bool.false_or, Bool.or_false, Bool.true_and, Bool.and_true, Bool.false_and, Bool.and_false, Bool.not_true, Bool.not_false, if_true, if_false, ↓reduceIte, Bool.false_eq_true]
          · simp only [amset, amlib, zset, eq_self, ↓reduceIte, reduceCtorEq, Nat.reduceBEq, Nat.reduceEqDiff, Nat.reduceAdd, Nat.reduceMul, Nat.reduceLeDiff, Nat.reduceLT, Nat.reduceSub] <;> simp only [k0, k1, a0, a1]
      | false =>
        simp only [amset, amlib, zset, k0, k1, a0, eq_self, ↓reduceIte, reduceCtorEq, Nat.reduceBEq, Nat.reduceEqDiff, Nat.reduceAdd, Nat.reduceMul, Nat.reduceLeDiff, Nat.reduceLT, Nat.reduceSub]
        refine keyK7 _ _ ?_ ?_
        · simp only [amset, amlib, zset, eq_self, ↓reduceIte, reduceCtorEq, Nat.reduceBEq, Nat.reduceEqDiff, Nat.reduceAdd, Nat.reduceMul, Nat.reduceLeDiff, Nat.reduceLT, Nat.reduceSub] <;> simp only [nmA, k0, k1, a0, Bool.true_or, Bool.or_true, Bool.false_or, Bool.or_false, Bool.true_and, Bool.and_true, Bool.false_and, Bool.and_false, Bool.not_true, Bool.not_false, if_true, if_false, ↓reduceIte, Bool.false_eq_true]
        · simp only [amset, amlib, zset, eq_self, ↓reduceIte, reduceCtorEq, Nat.reduceBEq, Nat.reduceEqDiff, Nat.reduceAdd, Nat.reduceMul, Nat.reduceLeDiff, Nat.reduceLT, Nat.reduceSub] <;> simp only [k0, k1, a0]
theorem prog174 : Tryz.prog.funcs[174]? = some Tryz.f174 := by kernel_rfl
theorem step174 (l : List St) (ih : ∀ y ∈ l, Holds Tryz.prog zG 208 [.agg [.int .i64 y.kind, .str y.name, .int .i64 y.n, .sl 6 (encEs y.args), .sl 7 (encSs y.body), .sl 7 (encSs y.els), .int .i64 y.pos]] [.c (.bool (!wfS y))]) : Holds Tryz.prog zG 174 [.c (.sl 7 (encSs l))] [.c (.bool (wfSs l))] := by
  refine holds_of_body zT prog174 rfl rfl rfl (by simp [Tryz.f174]) ?_
  refine aw_ops zT fun K1 hK1 => ?_
  simp only [amset, amlib, zset, eq_self, ↓reduceIte, reduceCtorEq, Nat.reduceBEq, Nat.reduceEqDiff, Nat.reduceAdd, Nat.reduceMul, Nat.reduceLeDiff, Nat.reduceLT, Nat.reduceSub]
  refine hK1 _ ?_
  clear hK1
  refine aw_ops zT fun K2 hK2 => ?_
  simp only [amset, amlib, zset, eq_self, ↓reduceIte, reduceCtorEq, Nat.reduceBEq, Nat.reduceEqDiff, Nat.reduceAdd, Nat.reduceMul, Nat.reduceLeDiff, Nat.reduceLT, Nat.reduceSub]
  refine ⟨_, holds207 208 (fun y => !wfS y) l ih, ?_⟩
  simp only [later]
  simp only [amset, amlib, zset, eq_self, ↓reduceIte, reduceCtorEq, Nat.reduceBEq, Nat.reduceEqDiff, Nat.reduceAdd, Nat.reduceMul, Nat.reduceLeDiff, Nat.reduceLT, Nat.reduceSub]
  refine hK2 _ ?_
  clear hK2
  refine aw_ret ?_
  show resOf zG _ [.tmp 2] = some _
  simp only [amset, amlib, zset, eq_self, ↓reduceIte, reduceCtorEq, Nat.reduceBEq, Nat.reduceEqDiff, Nat.reduceAdd, Nat.reduceMul, Nat.reduceLeDiff, Nat.reduceLT, Nat.reduceSub]
  rw [wfSs_any]
theorem holds174 (l : List St) : Holds Tryz.prog zG 174 [.c (.sl 7 (encSs l))] [.c (.bool (wfSs l))] := step174 l fun y hy => step208 y (holds174 y.body) (holds174 y.els)
  termination_by SizeOf.sizeOf l
  decreasing_by
  · exact sizeOf_body hy
  · exact sizeOf_els hy
end Go.Proofs.Am
set_option maxRecDepth 100000
set_option maxHeartbeats 4000000
namespace Go.Proofs.Am
def wfT (t : Tk) : Bool := ident t.name && numA t.deadline && numA t.within && numA t.period && wfSs t.body && (if decide (t.period > 0) then t.channel == [] && t.param == [] && t.within == 0 else ident t.channel && ident t.param)
def okC (c : Cn) : Bool := ident c.name && signedA c.value
def okG (g : Gl) : Bool := ident g.name && numA g.len && signedA g.init && !(decide (g.len > 0) && (g.init != 0))
def okH (c : Ch) : Bool := ident c.name && numA c.cap
def wfP (p : Pg) : Bool := p.consts.all okC && p.globals.all okG && (p.sensors ++ p.outputs).all ident && p.channels.all okH && p.tasks.all wfT
theorem tasks_any (l : List Tk) : (!(l.any fun y => !wfT y)) = l.all wfT := by
  induction l with
  | nil => rfl
  | cons y r ih => rw [List.any_cons, List.all_cons, Bool.not_or, ih, Bool.not_not]
theorem prog102 : Tryz.prog.funcs[102]? = some Tryz.f102 := by kernel_rfl
theorem holds102 (t : Tk) : Holds Tryz.prog zG 102 [.agg [.str t.name, .int .i64 t.period, .int .i64 t.deadline, .str t.channel, .str t.param, .int .i64 t.within, .sl 7 (encSs t.body), .int .i64 t.pos]] [.c (.bool (wfT t))] := by
  refine holds_of_body zT prog102 rfl rfl rfl (by simp [Tryz.f102]) ?_
  refine aw_ops zT fun K1 hK1 => ?_
  simp only [amset, amlib, zset, eq_self, ↓reduceIte, reduceCtorEq, Nat.reduceBEq, Nat.reduceEqDiff, Nat.reduceAdd, Nat.reduceMul, Nat.reduceLeDiff, Nat.reduceLT, Nat.reduceSub]
  refine hK1 _ ?_
  clear hK1
  refine aw_seq fun K2 hK2 => ?_
  refine aw_ops zT fun K3 hK3 => ?_
  cases u0 : ident t.name with
  | true =>
    cases u1 : numA t.deadline with
    | true =>
      cases u2 : numA t.within with
      | true =>
        cases u3 : numA t.period with
        | true =>
          cases u4 : wfSs t.body with
          | true =>
            simp only [amset, amlib, zset, u0, u1, u2, u3, u4, eq_self, ↓reduceIte, reduceCtorEq, Nat.reduceBEq, Nat.reduceEqDiff, Nat.reduceAdd, Nat.reduceMul, Nat.reduceLeDiff, Nat.reduceLT, Nat.reduceSub]
            refine ⟨_, holds96 _, ?_⟩
            simp only [later]
            simp only [amset, amlib, zset, u0, u1, u2, u3, u4, eq_self, ↓reduceIte, reduceCtorEq, Nat.reduceBEq, Nat.reduceEqDiff, Nat.reduceAdd, Nat.reduceMul, Nat.reduceLeDiff, Nat.reduceLT, Nat.reduceSub]
            refine ⟨_, holds98 _, ?_⟩
            simp only [later]
            simp only [amset, amlib, zset, u0, u1, u2, u3, u4, eq_self, ↓reduceIte, reduceCtorEq, Nat.reduceBEq, Nat.reduceEqDiff, Nat.reduceAdd, Nat.reduceMul, Nat.reduceLeDiff, Nat.reduceLT, Nat.reduceSub]
            refine ⟨_, holds98 _, ?_⟩
            simp only [later]
            simp only [amset, amlib, zset, u0, u1, u2, u3, u4, eq_self, ↓reduceIte, reduceCtorEq, Nat.reduceBEq, Nat.reduceEqDiff, Nat.reduceAdd, Nat.reduceMul, Nat.reduceLeDiff, Nat.reduceLT, Nat.reduceSub]
            refine ⟨_, holds98 _, ?_⟩
            simp only [later]
            simp only [amset, amlib, zset, u0, u1, u2, u3, u4, eq_self, ↓reduceIte, reduceCtorEq, Nat.reduceBEq, Nat.reduceEqDiff, Nat.reduceAdd, Nat.reduceMul, Nat.reduceLeDiff, Nat.reduceLT, Nat.reduceSub]
            refine ⟨_, holds174 t.body, ?_⟩
            simp only [later]
            simp only [amset, amlib, zset, u0, u1, u2, u3, u4, eq_self, ↓reduceIte, reduceCtorEq, Nat.reduceBEq, Nat.reduceEqDiff, Nat.reduceAdd, Nat.reduceMul, Nat.reduceLeDiff, Nat.reduceLT, Nat.reduceSub]
            refine hK3 _ ?_
            clear hK3
            refine aw_cond (t := false) rfl (fun h => nomatch h) (fun _ => ?_)
            refine aw_skip ?_
            simp only [thenQ, blkQ, if_true, reduceIte, Nat.reduceEqDiff, eq_self]
            refine hK2 _ ?_
            clear hK2
            refine aw_seq fun K4 hK4 => ?_
            refine aw_ops zT fun K5 hK5 => ?_
            simp only [amset, amlib, zset, eq_self, ↓reduceIte, reduceCtorEq, Nat.reduceBEq, Nat.reduceEqDiff, Nat.reduceAdd, Nat.reduceMul, Nat.reduceLeDiff, Nat.reduceLT, Nat.reduceSub]
            refine hK5 _ ?_
            clear hK5
            refine aw_cond rfl (fun h0 => ?_) (fun h0 => ?_)
            · skip
              refine aw_ops zT fun K6 hK6 => ?_
              cases v0 : (t.channel == []) with
              | true =>
                cases v1 : (t.param == []) with
                | true =>
                  simp only [amset, amlib, zset, u0, u1, u2, u3, u4, v0, v1, eq_self, ↓reduceIte, reduceCtorEq, Nat.reduceBEq, Nat.reduceEqDiff, Nat.reduceAdd, Nat.reduceMul, Nat.reduceLeDiff, Nat.reduceLT, Nat.reduceSub]
                  refine hK6 _ ?_
                  clear hK6
                  refine aw_ret ?_
                  show resOf zG _ [.tmp 2] = some _
                  simp only [amset, amlib, zset, eq_self, ↓reduceIte, reduceCtorEq, Nat.reduceBEq, Nat.reduceEqDiff, Nat.reduceAdd, Nat.reduceMul, Nat.reduceLeDiff, Nat.reduceLT, Nat.reduceSub]
                  simp only [wfT, u0, u1, u2, u3, u4, v0, v1, h0, Bool.true_or, Bool.or_true, Bool.false_or, Bool.or_false, Bool.true_and, Bool.and_true, Bool.false_and, Bool.and_false, Bool.not_true, Bool.not_false, if_true, if_false, ↓reduceIte, Bool.false_eq_true]
                | false =>
                  simp only [amset, amlib, zset, u0, u1, u2, u3, u4, v0, v1, eq_self, ↓reduceIte, reduceCtorEq, Nat.reduceBEq, Nat.reduceEqDiff, Nat.reduceAdd, Nat.reduceMul, Nat.reduceLeDiff, Nat.reduceLT, Nat.reduceSub]
                  refine hK6 _ ?_
                  clear hK6
                  refine aw_ret ?_
                  show resOf zG _ [.tmp 2] = some _
                  simp only [amset, amlib, zset, eq_self, ↓reduceIte, reduceCtorEq, Nat.reduceBEq, Nat.reduceEqDiff, Nat.reduceAdd, Nat.reduceMul, Nat.reduceLeDiff, Nat.reduceLT, Nat.reduceSub]
                  simp only [wfT, u0, u1, u2, u3, u4, v0, v1, h0, Bool.true_or, Bool.or_true, Bool.false_or, Bool.or_false, Bool.true_and, Bool.and_true, Bool.false_and, Bool.and_false, Bool.not_true, Bool.not_false, if_true, if_false, ↓reduceIte, Bool.false_eq_true]
              | false =>
                simp only [amset, amlib, zset, u0, u1, u2, u3, u4, v0, eq_self, ↓reduceIte, reduceCtorEq, Nat.reduceBEq, Nat.reduceEqDiff, Nat.reduceAdd, Nat.reduceMul, Nat.reduceLeDiff, Nat.reduceLT, Nat.reduceSub]
                refine hK6 _ ?_
                clear hK6
                refine aw_ret ?_
                show resOf zG _ [.tmp 2] = some _
                simp only [amset, amlib, zset, eq_self, ↓reduceIte, reduceCtorEq, Nat.reduceBEq, Nat.reduceEqDiff, Nat.reduceAdd, Nat.reduceMul, Nat.reduceLeDiff, Nat.reduceLT, Nat.reduceSub]
                simp only [wfT, u0, u1, u2, u3, u4, v0, h0, Bool.true_or, Bool.or_true, Bool.false_or, Bool.or_false, Bool.true_and, Bool.and_true, Bool.false_and, Bool.and_false, Bool.not_true, Bool.not_false, if_true, if_false, ↓reduceIte, Bool.false_eq_true]
            · skip
              refine aw_skip ?_
              simp only [thenQ, blkQ, if_true, reduceIte, Nat.reduceEqDiff, eq_self]
              refine hK4 _ ?_
              clear hK4
              refine aw_ops zT fun K7 hK7 => ?_
              cases w0 : ident t.channel with
              | true =>
                simp only [amset, amlib, zset, u0, u1, u2, u3, u4, w0, eq_self, ↓reduceIte, reduceCtorEq, Nat.reduceBEq, Nat.reduceEqDiff, Nat.reduceAdd, Nat.reduceMul, Nat.reduceLeDiff, Nat.reduceLT, Nat.reduceSub]
                refine ⟨_, holds96 _, ?_⟩
                simp only [later]
                simp only [amset, amlib, zset, u0, u1, u2, u3, u4, w0, eq_self, ↓reduceIte, reduceCtorEq, Nat.reduceBEq, Nat.reduceEqDiff, Nat.reduceAdd, Nat.reduceMul, Nat.reduceLeDiff, Nat.reduceLT, Nat.reduceSub]
                refine ⟨_, holds96 _, ?_⟩
                simp only [later]
                simp only [amset, amlib, zset, u0, u1, u2, u3, u4, w0, eq_self, ↓reduceIte, reduceCtorEq, Nat.reduceBEq, Nat.reduceEqDiff, Nat.reduceAdd, Nat.reduceMul, Nat.reduceLeDiff, Nat.reduceLT, Nat.reduceSub]
                refine hK7 _ ?_
                clear hK7
                refine aw_ret ?_
                show resOf zG _ [.tmp 2] = some _
                simp only [amset, amlib, zset, eq_self, ↓reduceIte, reduceCtorEq, Nat.reduceBEq, Nat.reduceEqDiff, Nat.reduceAdd, Nat.reduceMul, Nat.reduceLeDiff, Nat.reduceLT, Nat.reduceSub]
                simp only [wfT, u0, u1, u2, u3, u4, w0, h0, Bool.true_or, Bool.or_true, Bool.false_or, Bool.or_false, Bool.true_and, Bool.and_true, Bool.false_and, Bool.and_false, Bool.not_true, Bool.not_false, if_true, if_false, ↓reduceIte, Bool.false_eq_true]
              | false =>
                simp only [amset, amlib, zset, u0, u1, u2, u3, u4, w0, eq_self, ↓reduceIte, reduceCtorEq, Nat.reduceBEq, Nat.reduceEqDiff, Nat.reduceAdd, Nat.reduceMul, Nat.reduceLeDiff, Nat.reduceLT, Nat.reduceSub]
                refine ⟨_, holds96 _, ?_⟩
                simp only [later]
                simp only [amset, amlib, zset, u0, u1, u2, u3, u4, w0, eq_self, ↓reduceIte, reduceCtorEq, Nat.reduceBEq, Nat.reduceEqDiff, Nat.reduceAdd, Nat.reduceMul, Nat.reduceLeDiff, Nat.reduceLT, Nat.reduceSub]
                refine hK7 _ ?_
                clear hK7
                refine aw_ret ?_
                show resOf zG _ [.tmp 2] = some _
                simp only [amset, amlib, zset, eq_self, ↓reduceIte, reduceCtorEq, Nat.reduceBEq, Nat.reduceEqDiff, Nat.reduceAdd, Nat.reduceMul, Nat.reduceLeDiff, Nat.reduceLT, Nat.reduceSub]
                simp only [wfT, u0, u1, u2, u3, u4, w0, h0, Bool.true_or, Bool.or_true, Bool.false_or, Bool.or_false, Bool.true_and, Bool.and_true, Bool.false_and, Bool.and_false, Bool.not_true, Bool.not_false, if_true, if_false, ↓reduceIte, Bool.false_eq_true]
          | false =>
            simp only [amset, amlib, zset, u0, u1, u2, u3, u4, eq_self, ↓reduceIte, reduceCtorEq, Nat.reduceBEq, Nat.reduceEqDiff, Nat.reduceAdd, Nat.reduceMul, Nat.reduceLeDiff, Nat.reduceLT, Nat.reduceSub]
            refine ⟨_, holds96 _, ?_⟩
            simp only [later]
            simp only [amset, amlib, zset, u0, u1, u2, u3, u4, eq_self, ↓reduceIte, reduceCtorEq, Nat.reduceBEq, Nat.reduceEqDiff, Nat.reduceAdd, Nat.reduceMul, Nat.reduceLeDiff, Nat.reduceLT, Nat.reduceSub]
            refine ⟨_, holds98 _, ?_⟩
            simp only [later]
            simp only [amset, amlib, zset, u0, u1, u2, u3, u4, eq_self, ↓reduceIte, reduceCtorEq, Nat.reduceBEq, Nat.reduceEqDiff, Nat.reduceAdd, Nat.reduceMul, Nat.reduceLeDiff, Nat.reduceLT, Nat.reduceSub]
            refine ⟨_, holds98 _, ?_⟩
            simp only [later]
            simp only [amset, amlib, zset, u0, u1, u2, u3, u4, eq_self, ↓reduceIte, reduceCtorEq, Nat.reduceBEq, Nat.reduceEqDiff, Nat.reduceAdd, Nat.reduceMul, Nat.reduceLeDiff, Nat.reduceLT, Nat.reduceSub]
            refine ⟨_, holds98 _, ?_⟩
            simp only [later]
            simp only [amset, amlib, zset, u0, u1, u2, u3, u4, eq_self, ↓reduceIte, reduceCtorEq, Nat.reduceBEq, Nat.reduceEqDiff, Nat.reduceAdd, Nat.reduceMul, Nat.reduceLeDiff, Nat.reduceLT, Nat.reduceSub]
            refine ⟨_, holds174 t.body, ?_⟩
            simp only [later]
            simp only [amset, amlib, zset, u0, u1, u2, u3, u4, eq_self, ↓reduceIte, reduceCtorEq, Nat.reduceBEq, Nat.reduceEqDiff, Nat.reduceAdd, Nat.reduceMul, Nat.reduceLeDiff, Nat.reduceLT, Nat.reduceSub]
            refine hK3 _ ?_
            clear hK3
            refine aw_cond (t := true) rfl (fun _ => ?_) (fun h => nomatch h)
            refine aw_ops zT fun K8 hK8 => ?_
            simp only [amset, amlib, zset, eq_self, ↓reduceIte, reduceCtorEq, Nat.reduceBEq, Nat.reduceEqDiff, Nat.reduceAdd, Nat.reduceMul, Nat.reduceLeDiff, Nat.reduceLT, Nat.reduceSub]
            refine hK8 _ ?_
            clear hK8
            refine aw_ret ?_
            show resOf zG _ [.tmp 2] = some _
            simp only [amset, amlib, zset, eq_self, ↓reduceIte, reduceCtorEq, Nat.reduceBEq, Nat.reduceEqDiff, Nat.reduceAdd, Nat.reduceMul, Nat.reduceLeDiff, Nat.reduceLT, Nat.reduceSub]
            simp only [wfT, u0, u1, u2, u3, u4, Bool.true_or, Bool.or_true, Bool.false_or, Bool.or_false, Bool.true_and, Bool.and_true, Bool.false_and, Bool.and_false, Bool.not_true, Bool.not_false, if_true, if_false, ↓reduceIte, Bool.false_eq_true]
        | false =>
          simp only [amset, amlib, zset, u0, u1, u2, u3, eq_self, ↓reduceIte, reduceCtorEq, Nat.reduceBEq, Nat.reduceEqDiff, Nat.reduceAdd, Nat.reduceMul, Nat.reduceLeDiff, Nat.reduceLT, Nat.reduceSub]
          refine ⟨_, holds96 _, ?_⟩
          simp only [later]
          simp only [amset, amlib, zset, u0, u1, u2, u3, eq_self, ↓reduceIte, reduceCtorEq, Nat.reduceBEq, Nat.reduceEqDiff, Nat.reduceAdd, Nat.reduceMul, Nat.reduceLeDiff, Nat.reduceLT, Nat.reduceSub]
          refine ⟨_, holds98 _, ?_⟩
          simp only [later]
          simp only [amset, amlib, zset, u0, u1, u2, u3, eq_self, ↓reduceIte, reduceCtorEq, Nat.reduceBEq, Nat.reduceEqDiff, Nat.reduceAdd, Nat.reduceMul, Nat.reduceLeDiff, Nat.reduceLT, Nat.reduceSub]
          refine ⟨_, holds98 _, ?_⟩
          simp only [later]
          simp only [amset, amlib, zset, u0, u1, u2, u3, eq_self, ↓reduceIte, reduceCtorEq, Nat.reduceBEq, Nat.reduceEqDiff, Nat.reduceAdd, Nat.reduceMul, Nat.reduceLeDiff, Nat.reduceLT, Nat.reduceSub]
          refine ⟨_, holds98 _, ?_⟩
          simp only [later]
          simp only [amset, amlib, zset, u0, u1, u2, u3, eq_self, ↓reduceIte, reduceCtorEq, Nat.reduceBEq, Nat.reduceEqDiff, Nat.reduceAdd, Nat.reduceMul, Nat.reduceLeDiff, Nat.reduceLT, Nat.reduceSub]
          refine hK3 _ ?_
          clear hK3
          refine aw_cond (t := true) rfl (fun _ => ?_) (fun h => nomatch h)
          refine aw_ops zT fun K9 hK9 => ?_
          simp only [amset, amlib, zset, eq_self, ↓reduceIte, reduceCtorEq, Nat.reduceBEq, Nat.reduceEqDiff, Nat.reduceAdd, Nat.reduceMul, Nat.reduceLeDiff, Nat.reduceLT, Nat.reduceSub]
          refine hK9 _ ?_
          clear hK9
          refine aw_ret ?_
          show resOf zG _ [.tmp 2] = some _
          simp only [amset, amlib, zset, eq_self, ↓reduceIte, reduceCtorEq, Nat.reduceBEq, Nat.reduceEqDiff, Nat.reduceAdd, Nat.reduceMul, Nat.reduceLeDiff, Nat.reduceLT, Nat.reduceSub]
          simp only [wfT, u0, u1, u2, u3, Bool.true_or, Bool.or_true, Bool.false_or, Bool.or_false, Bool.true_and, Bool.and_true, Bool.false_and, Bool.and_false, Bool.not_true, Bool.not_false, if_true, if_false, ↓reduceIte, Bool.false_eq_true]
      | false =>
        simp only [amset, amlib, zset, u0, u1, u2, eq_self, ↓reduceIte, reduceCtorEq, Nat.reduceBEq, Nat.reduceEqDiff, Nat.reduceAdd, Nat.reduceMul, Nat.reduceLeDiff, Nat.reduceLT, Nat.reduceSub]
        refine ⟨_, holds96 _, ?_⟩
        simp only [later]
        simp only [amset, amlib, zset, u0, u1, u2, eq_self, ↓reduceIte, reduceCtorEq, Nat.reduceBEq, Nat.reduceEqDiff, Nat.reduceAdd, Nat.reduceMul, Nat.reduceLeDiff, Nat.reduceLT, Nat.reduceSub]
        refine ⟨_, holds98 _, ?_⟩
        simp only [later]
        simp only [amset, amlib, zset, u0, u1, u2, eq_self, ↓reduceIte, reduceCtorEq, Nat.reduceBEq, Nat.reduceEqDiff, Nat.reduceAdd, Nat.reduceMul, Nat.reduceLeDiff, Nat.reduceLT, Nat.reduceSub]
        refine ⟨_, holds98 _, ?_⟩
        simp only [later]
        simp only [amset, amlib, zset, u0, u1, u2, eq_self, ↓reduceIte, reduceCtorEq, Nat.reduceBEq, Nat.reduceEqDiff, Nat.reduceAdd, Nat.reduceMul, Nat.reduceLeDiff, Nat.reduceLT, Nat.reduceSub]
        refine hK3 _ ?_
        clear hK3
        refine aw_cond (t := true) rfl (fun _ => ?_) (fun h => nomatch h)
        refine aw_ops zT fun K10 hK10 => ?_
        simp only [amset, amlib, zset, eq_self, ↓reduceIte, reduceCtorEq, Nat.reduceBEq, Nat.reduceEqDiff, Nat.reduceAdd, Nat.reduceMul, Nat.reduceLeDiff, Nat.reduceLT, Nat.reduceSub]
        refine hK10 _ ?_
        clear hK10
        refine aw_ret ?_
        show resOf zG _ [.tmp 2] = some _
        simp only [amset, amlib, zset, eq_self, ↓reduceIte, reduceCtorEq, Nat.reduceBEq, Nat.reduceEqDiff, Nat.reduceAdd, Nat.reduceMul, Nat.reduceLeDiff, Nat.reduceLT, Nat.reduceSub]
        simp only [wfT, u0, u1, u2, Bool.true_or, Bool.or_true, Bool.false_or, Bool.or_false, Bool.true_and, Bool.and_true, Bool.false_and, Bool.and_false, Bool.not_true, Bool.not_false, if_true, if_false, ↓reduceIte, Bool.false_eq_true]
    | false =>
      simp only [amset, amlib, zset, u0, u1, eq_self, ↓reduceIte, reduceCtorEq, Nat.reduceBEq, Nat.reduceEqDiff, Nat.reduceAdd, Nat.reduceMul, Nat.reduceLeDiff, Nat.reduceLT, Nat.reduceSub]
      refine ⟨_, holds96 _, ?_⟩
      simp only [later]
      simp only [amset, amlib, zset, u0, u1, eq_self, ↓reduceIte, reduceCtorEq, Nat.reduceBEq, Nat.reduceEqDiff, Nat.reduceAdd, Nat.reduceMul, Nat.reduceLeDiff, Nat.reduceLT, Nat.reduceSub]
      refine ⟨_, holds98 _, ?_⟩
      simp only [later]
      simp only [amset, amlib, zset, u0, u1, eq_self, ↓reduceIte, reduceCtorEq, Nat.reduceBEq, Nat.reduceEqDiff, Nat.reduceAdd, Nat.reduceMul, Nat.reduceLeDiff, Nat.reduceLT, Nat.reduceSub]
      refine hK3 _ ?_
      clear hK3
      refine aw_cond (t := true) rfl (fun _ => ?_) (fun h => nomatch h)
      refine aw_ops zT fun K11 hK11 => ?_
      simp only [amset, amlib, zset, eq_self, ↓reduceIte, reduceCtorEq, Nat.reduceBEq, Nat.reduceEqDiff, Nat.reduceAdd, Nat.reduceMul, Nat.reduceLeDiff, Nat.reduceLT, Nat.reduceSub]
      refine hK11 _ ?_
      clear hK11
      refine aw_ret ?_
      show resOf zG _ [.tmp 2] = some _
      simp only [amset, amlib, zset, eq_self, ↓reduceIte, reduceCtorEq, Nat.reduceBEq, Nat.reduceEqDiff, Nat.reduceAdd, Nat.reduceMul, Nat.reduceLeDiff, Nat.reduceLT, Nat.reduceSub]
      simp only [wfT, u0, u1, Bool.true_or, Bool.or_true, Bool.false_or, Bool.or_false, Bool.true_and, Bool.and_true, Bool.false_and, Bool.and_false, Bool.not_true, Bool.not_false, if_true, if_false, ↓reduceIte, Bool.false_eq_true]
  | false =>
    simp only [amset, amlib, zset, u0, eq_self, ↓reduceIte, reduceCtorEq, Nat.reduceBEq, Nat.reduceEqDiff, Nat.reduceAdd, Nat.reduceMul, Nat.reduceLeDiff, Nat.reduceLT, Nat.reduceSub]
    refine ⟨_, holds96 _, ?_⟩
    simp only [later]
    simp only [amset, amlib, zset, u0, eq_self, ↓reduceIte, reduceCtorEq, Nat.reduceBEq, Nat.reduceEqDiff, Nat.reduceAdd, Nat.reduceMul, Nat.reduceLeDiff, Nat.reduceLT, Nat.reduceSub]
    refine hK3 _ ?_
    clear hK3
    refine aw_cond (t := true) rfl (fun _ => ?_) (fun h => nomatch h)
    refine aw_ops zT fun K12 hK12 => ?_
    simp only [amset, amlib, zset, eq_self, ↓reduceIte, reduceCtorEq, Nat.reduceBEq, Nat.reduceEqDiff, Nat.reduceAdd, Nat.reduceMul, Nat.reduceLeDiff, Nat.reduceLT, Nat.reduceSub]
    refine hK12 _ ?_
    clear hK12
    refine aw_ret ?_
    show resOf zG _ [.tmp 2] = some _
    simp only [amset, amlib, zset, eq_self, ↓reduceIte, reduceCtorEq, Nat.reduceBEq, Nat.reduceEqDiff, Nat.reduceAdd, Nat.reduceMul, Nat.reduceLeDiff, Nat.reduceLT, Nat.reduceSub]
    simp only [wfT, u0, Bool.true_or, Bool.or_true, Bool.false_or, Bool.or_false, Bool.true_and, Bool.and_true, Bool.false_and, Bool.and_false, Bool.not_true, Bool.not_false, if_true, if_false, ↓reduceIte, Bool.false_eq_true]
theorem prog101 : Tryz.prog.funcs[101]? = some Tryz.f101 := by kernel_rfl
theorem holds101 (t : Tk) : Holds Tryz.prog zG 101 [.agg [.str t.name, .int .i64 t.period, .int .i64 t.deadline, .str t.channel, .str t.param, .int .i64 t.within, .sl 7 (encSs t.body), .int .i64 t.pos]] [.c (.bool (!wfT t))] := by
  refine holds_of_body zT prog101 rfl rfl rfl (by simp [Tryz.f101]) ?_
  refine aw_ops zT fun K1 hK1 => ?_
  simp only [amset, amlib, zset, eq_self, ↓reduceIte, reduceCtorEq, Nat.reduceBEq, Nat.reduceEqDiff, Nat.reduceAdd, Nat.reduceMul, Nat.reduceLeDiff, Nat.reduceLT, Nat.reduceSub]
  refine hK1 _ ?_
  clear hK1
  refine aw_ops zT fun K2 hK2 => ?_
  simp only [amset, amlib, zset, eq_self, ↓reduceIte, reduceCtorEq, Nat.reduceBEq, Nat.reduceEqDiff, Nat.reduceAdd, Nat.reduceMul, Nat.reduceLeDiff, Nat.reduceLT, Nat.reduceSub]
  refine ⟨_, holds102 t, ?_⟩
  simp only [later]
  simp only [amset, amlib, zset, eq_self, ↓reduceIte, reduceCtorEq, Nat.reduceBEq, Nat.reduceEqDiff, Nat.reduceAdd, Nat.reduceMul, Nat.reduceLeDiff, Nat.reduceLT, Nat.reduceSub]
  refine hK2 _ ?_
  clear hK2
  refine aw_ret ?_
  show resOf zG _ [.tmp 2] = some _
  simp only [amset, amlib, zset, eq_self, ↓reduceIte, reduceCtorEq, Nat.reduceBEq, Nat.reduceEqDiff, Nat.reduceAdd, Nat.reduceMul, Nat.reduceLeDiff, Nat.reduceLT, Nat.reduceSub]
theorem prog36 : Tryz.prog.funcs[36]? = some Tryz.f36 := by kernel_rfl
theorem holds36 (p : Pg) (hse : p.sensors = []) (hou : p.outputs = []) : Holds Tryz.prog zG 36 [.agg [.sl 3 (encCs p.consts), .sl 4 (encGs p.globals), .sl 1 (encStrs p.sensors), .sl 1 (encStrs p.outputs), .sl 3 (encHs p.channels), .sl 8 (encTs p.tasks)]] [.c (.bool (wfP p))] := by
  refine holds_of_body zT prog36 rfl rfl rfl (by simp [Tryz.f36]) ?_
  refine aw_ops zT fun K1 hK1 => ?_
  simp only [amset, amlib, zset, eq_self, ↓reduceIte, reduceCtorEq, Nat.reduceBEq, Nat.reduceEqDiff, Nat.reduceAdd, Nat.reduceMul, Nat.reduceLeDiff, Nat.reduceLT, Nat.reduceSub]
  refine hK1 _ ?_
  clear hK1
  refine aw_seq fun K2 hK2 => ?_
  refine aw_ops zT fun K3 hK3 => ?_
  simp only [amset, amlib, zset, eq_self, ↓reduceIte, reduceCtorEq, Nat.reduceBEq, Nat.reduceEqDiff, Nat.reduceAdd, Nat.reduceMul, Nat.reduceLeDiff, Nat.reduceLT, Nat.reduceSub]
  intros
  refine hK3 _ ?_
  clear hK3
  refine aw_block ?_
  refine aw_range (α := Cn) (p.consts) (fun dn => dn.all okC = true) (fun dn => [(14, .cell (.c (.int .i64 dn.length)))]) (fun dn => []) [] [2, 4, 14, 15, 16, 17, 18, 19, 20, 21, 22, 23, 24, 25, 26, 27, 28] [4] rfl ?_ ?_ ?_ ?_
  · simp only [amset, amlib, zset, eq_self, ↓reduceIte, reduceCtorEq, Nat.reduceBEq, Nat.reduceEqDiff, Nat.reduceAdd, Nat.reduceMul, Nat.reduceLeDiff, Nat.reduceLT, Nat.reduceSub] <;> simp [eq_self]
  · simp only [amset, amlib, zset, eq_self, ↓reduceIte, reduceCtorEq, Nat.reduceBEq, Nat.reduceEqDiff, Nat.reduceAdd, Nat.reduceMul, Nat.reduceLeDiff, Nat.reduceLT, Nat.reduceSub] <;> simp [eq_self]
  · intro hI R
    refine aw_norm (by simp only [amset, amlib, zset, eq_self, ↓reduceIte, reduceCtorEq, Nat.reduceBEq, Nat.reduceEqDiff, Nat.reduceAdd, Nat.reduceMul, Nat.reduceLeDiff, Nat.reduceLT, Nat.reduceSub]; exact rfl) ?_
    refine aw_ops zT fun K4 hK4 => ?_
    simp only [amset, amlib, zset, eq_self, ↓reduceIte, reduceCtorEq, Nat.reduceBEq, Nat.reduceEqDiff, Nat.reduceAdd, Nat.reduceMul, Nat.reduceLeDiff, Nat.reduceLT, Nat.reduceSub]
    refine hK4 _ ?_
    clear hK4
    refine aw_seq fun K5 hK5 => ?_
    refine aw_cond (t := false) (by simp [evalO, S.get, amLook]) (fun h => nomatch h) (fun _ => ?_)
    refine aw_exit ?_
    simp only [thenQ, blkQ, if_true, reduceIte, Nat.reduceEqDiff, eq_self]
    refine hK2 _ ?_
    clear hK2
    refine aw_seq fun K6 hK6 => ?_
    refine aw_ops zT fun K7 hK7 => ?_
    simp only [amset, amlib, zset, eq_self, ↓reduceIte, reduceCtorEq, Nat.reduceBEq, Nat.reduceEqDiff, Nat.reduceAdd, Nat.reduceMul, Nat.reduceLeDiff, Nat.reduceLT, Nat.reduceSub]
    intros
    refine hK7 _ ?_
    clear hK7
    refine aw_block ?_
    refine aw_range (α := Gl) (p.globals) (fun dn1 => dn1.all okG = true) (fun dn1 => [(32, .cell (.c (.int .i64 dn1.length)))]) (fun dn1 => []) [] [2, 6, 32, 33, 34, 35, 36, 37, 38, 39, 40, 41, 42, 43, 44, 45, 46, 47, 48, 49, 50, 51, 52, 53, 54, 55, 56, 57, 58, 59, 60, 61, 62] [6] rfl ?_ ?_ ?_ ?_
    · simp only [amset, amlib, zset, eq_self, ↓reduceIte, reduceCtorEq, Nat.reduceBEq, Nat.reduceEqDiff, Nat.reduceAdd, Nat.reduceMul, Nat.reduceLeDiff, Nat.reduceLT, Nat.reduceSub] <;> simp [eq_self]
    · simp only [amset, amlib, zset, eq_self, ↓reduceIte, reduceCtorEq, Nat.reduceBEq, Nat.reduceEqDiff, Nat.reduceAdd, Nat.reduceMul, Nat.reduceLeDiff, Nat.reduceLT, Nat.reduceSub] <;> simp [eq_self]
    · intro hI1 R1
      refine aw_norm (by simp only [amset, amlib, zset, eq_self, ↓reduceIte, reduceCtorEq, Nat.reduceBEq, Nat.reduceEqDiff, Nat.reduceAdd, Nat.reduceMul, Nat.reduceLeDiff, Nat.reduceLT, Nat.reduceSub]; exact rfl) ?_
      refine aw_ops zT fun K8 hK8 => ?_
      simp only [amset, amlib, zset, eq_self, ↓reduceIte, reduceCtorEq, Nat.reduceBEq, Nat.reduceEqDiff, Nat.reduceAdd, Nat.reduceMul, Nat.reduceLeDiff, Nat.reduceLT, Nat.reduceSub]
      refine hK8 _ ?_
      clear hK8
      refine aw_seq fun K9 hK9 => ?_
      refine aw_cond (t := false) (by simp [evalO, S.get, amLook]) (fun h => nomatch h) (fun _ => ?_)
      refine aw_exit ?_
      simp only [thenQ, blkQ, if_true, reduceIte, Nat.reduceEqDiff, eq_self]
      refine hK6 _ ?_
      clear hK6
      refine aw_seq fun K10 hK10 => ?_
      refine aw_ops zT fun K11 hK11 => ?_
      simp only [amset, amlib, zset, hse, hou, encStrs_nil, eq_self, ↓reduceIte, reduceCtorEq, Nat.reduceBEq, Nat.reduceEqDiff, Nat.reduceAdd, Nat.reduceMul, Nat.reduceLeDiff, Nat.reduceLT, Nat.reduceSub]
      refine ⟨_, holds99, ?_⟩
      simp only [later]
      simp only [amset, amlib, zset, hse, hou, encStrs_nil, eq_self, ↓reduceIte, reduceCtorEq, Nat.reduceBEq, Nat.reduceEqDiff, Nat.reduceAdd, Nat.reduceMul, Nat.reduceLeDiff, Nat.reduceLT, Nat.reduceSub]
      intros
      refine hK11 _ ?_
      clear hK11
      refine aw_block ?_
      refine aw_range (α := Unit) (([] : List Unit)) (fun dn2 => True) (fun dn2 => [(70, .cell (.c (.int .i64 dn2.length)))]) (fun dn2 => []) [] [2, 8, 70, 71, 72, 73, 74, 75, 76, 77] [] trivial ?_ ?_ ?_ ?_
      · simp only [amset, amlib, zset, eq_self, ↓reduceIte, reduceCtorEq, Nat.reduceBEq, Nat.reduceEqDiff, Nat.reduceAdd, Nat.reduceMul, Nat.reduceLeDiff, Nat.reduceLT, Nat.reduceSub] <;> simp [eq_self]
      · simp only [amset, amlib, zset, eq_self, ↓reduceIte, reduceCtorEq, Nat.reduceBEq, Nat.reduceEqDiff, Nat.reduceAdd, Nat.reduceMul, Nat.reduceLeDiff, Nat.reduceLT, Nat.reduceSub] <;> simp [eq_self]
      · intro hI2 R2
        refine aw_norm (by simp only [amset, amlib, zset, eq_self, ↓reduceIte, reduceCtorEq, Nat.reduceBEq, Nat.reduceEqDiff, Nat.reduceAdd, Nat.reduceMul, Nat.reduceLeDiff, Nat.reduceLT, Nat.reduceSub]; exact rfl) ?_
        refine aw_ops zT fun K12 hK12 => ?_
        simp only [amset, amlib, zset, eq_self, ↓reduceIte, reduceCtorEq, Nat.reduceBEq, Nat.reduceEqDiff, Nat.reduceAdd, Nat.reduceMul, Nat.reduceLeDiff, Nat.reduceLT, Nat.reduceSub]
        refine hK12 _ ?_
        clear hK12
        refine aw_seq fun K13 hK13 => ?_
        refine aw_cond (t := false) (by simp [evalO, S.get, amLook]) (fun h => nomatch h) (fun _ => ?_)
        refine aw_exit ?_
        simp only [thenQ, blkQ, if_true, reduceIte, Nat.reduceEqDiff, eq_self]
        refine hK10 _ ?_
        clear hK10
        refine aw_seq fun K14 hK14 => ?_
        refine aw_ops zT fun K15 hK15 => ?_
        simp only [amset, amlib, zset, eq_self, ↓reduceIte, reduceCtorEq, Nat.reduceBEq, Nat.reduceEqDiff, Nat.reduceAdd, Nat.reduceMul, Nat.reduceLeDiff, Nat.reduceLT, Nat.reduceSub]
        intros
        refine hK15 _ ?_
        clear hK15
        refine aw_block ?_
        refine aw_range (α := Ch) (p.channels) (fun dn3 => dn3.all okH = true) (fun dn3 => [(81, .cell (.c (.int .i64 dn3.length)))]) (fun dn3 => []) [] [2, 10, 81, 82, 83, 84, 85, 86, 87, 88, 89, 90, 91, 92, 93, 94, 95] [10] rfl ?_ ?_ ?_ ?_
        · simp only [amset, amlib, zset, eq_self, ↓reduceIte, reduceCtorEq, Nat.reduceBEq, Nat.reduceEqDiff, Nat.reduceAdd, Nat.reduceMul, Nat.reduceLeDiff, Nat.reduceLT, Nat.reduceSub] <;> simp [eq_self]
        · simp only [amset, amlib, zset, eq_self, ↓reduceIte, reduceCtorEq, Nat.reduceBEq, Nat.reduceEqDiff, Nat.reduceAdd, Nat.reduceMul, Nat.reduceLeDiff, Nat.reduceLT, Nat.reduceSub] <;> simp [eq_self]
        · intro hI3 R3
          refine aw_norm (by simp only [amset, amlib, zset, eq_self, ↓reduceIte, reduceCtorEq, Nat.reduceBEq, Nat.reduceEqDiff, Nat.reduceAdd, Nat.reduceMul, Nat.reduceLeDiff, Nat.reduceLT, Nat.reduceSub]; exact rfl) ?_
          refine aw_ops zT fun K16 hK16 => ?_
          simp only [amset, amlib, zset, eq_self, ↓reduceIte, reduceCtorEq, Nat.reduceBEq, Nat.reduceEqDiff, Nat.reduceAdd, Nat.reduceMul, Nat.reduceLeDiff, Nat.reduceLT, Nat.reduceSub]
          refine hK16 _ ?_
          clear hK16
          refine aw_seq fun K17 hK17 => ?_
          refine aw_cond (t := false) (by simp [evalO, S.get, amLook]) (fun h => nomatch h) (fun _ => ?_)
          refine aw_exit ?_
          simp only [thenQ, blkQ, if_true, reduceIte, Nat.reduceEqDiff, eq_self]
          refine hK14 _ ?_
          clear hK14
          refine aw_ops zT fun K18 hK18 => ?_
          simp only [amset, amlib, zset, eq_self, ↓reduceIte, reduceCtorEq, Nat.reduceBEq, Nat.reduceEqDiff, Nat.reduceAdd, Nat.reduceMul, Nat.reduceLeDiff, Nat.reduceLT, Nat.reduceSub]
          refine ⟨_, holds100 101 (fun y => !wfT y) p.tasks (fun y _ => holds101 y), ?_⟩
          simp only [later]
          simp only [amset, amlib, zset, eq_self, ↓reduceIte, reduceCtorEq, Nat.reduceBEq, Nat.reduceEqDiff, Nat.reduceAdd, Nat.reduceMul, Nat.reduceLeDiff, Nat.reduceLT, Nat.reduceSub]
          refine hK18 _ ?_
          clear hK18
          refine aw_ret ?_
          show resOf zG _ [.tmp 2] = some _
          simp only [amset, amlib, zset, eq_self, ↓reduceIte, reduceCtorEq, Nat.reduceBEq, Nat.reduceEqDiff, Nat.reduceAdd, Nat.reduceMul, Nat.reduceLeDiff, Nat.reduceLT, Nat.reduceSub]
          rw [tasks_any]
          simp only [wfP, hI, hI1, hI3, hse, hou, List.append_nil, List.all_nil, Bool.true_or, Bool.or_true, Bool.false_or, Bool.or_false, Bool.true_and, Bool.and_true, Bool.false_and, Bool.and_false, Bool.not_true, Bool.not_false, if_true, if_false, ↓reduceIte, Bool.false_eq_true]
        · intro dn3 y3 td3 harg3 hI3 R3 hR3
          have hl3 : (p.channels).length = dn3.length + (td3.length + 1) := by rw [harg3]; simp
          have hmem3 : y3 ∈ p.channels := by rw [harg3]; simp
          refine aw_norm (by simp only [amset, amlib, zset, eq_self, ↓reduceIte, reduceCtorEq, Nat.reduceBEq, Nat.reduceEqDiff, Nat.reduceAdd, Nat.reduceMul, Nat.reduceLeDiff, Nat.reduceLT, Nat.reduceSub]; exact rfl) ?_
          have hget3 : (encHs (p.channels)).getD dn3.length [] = encH y3 := by rw [harg3]; exact encHs_mid dn3 td3 y3
          refine aw_ops zT fun K19 hK19 => ?_
          simp only [amset, amlib, zset, eq_self, ↓reduceIte, reduceCtorEq, Nat.reduceBEq, Nat.reduceEqDiff, Nat.reduceAdd, Nat.reduceMul, Nat.reduceLeDiff, Nat.reduceLT, Nat.reduceSub]
          refine hK19 _ ?_
          clear hK19
          refine aw_seq fun K20 hK20 => ?_
          refine aw_cond (t := true) (by simp [evalO, S.get, amLook]; omega) (fun _ => ?_) (fun h => nomatch h)
          refine aw_skip ?_
          simp only [thenQ, blkQ, if_true, reduceIte, Nat.reduceEqDiff, eq_self]
          refine hK20 _ ?_
          clear hK20
          refine aw_seq fun K21 hK21 => ?_
          refine aw_block ?_
          refine aw_ops zT fun K22 hK22 => ?_
          simp only [amset, amlib, zset, hget3, eq_self, ↓reduceIte, reduceCtorEq, Nat.reduceBEq, Nat.reduceEqDiff, Nat.reduceAdd, Nat.reduceMul, Nat.reduceLeDiff, Nat.reduceLT, Nat.reduceSub]
          refine ⟨⟨by omega, by omega⟩, ?_⟩
          refine hK22 _ ?_
          clear hK22
          refine aw_ops zT fun K23 hK23 => ?_
          cases a0 : ident y3.name with
          | true =>
            cases a1 : numA y3.cap with
            | true =>
              simp only [amset, amlib, zset, a0, a1, eq_self, ↓reduceIte, reduceCtorEq, Nat.reduceBEq, Nat.reduceEqDiff, Nat.reduceAdd, Nat.reduceMul, Nat.reduceLeDiff, Nat.reduceLT, Nat.reduceSub]
              refine ⟨_, holds96 _, ?_⟩
              simp only [later]
              simp only [amset, amlib, zset, a0, a1, eq_self, ↓reduceIte, reduceCtorEq, Nat.reduceBEq, Nat.reduceEqDiff, Nat.reduceAdd, Nat.reduceMul, Nat.reduceLeDiff, Nat.reduceLT, Nat.reduceSub]
              refine ⟨_, holds98 _, ?_⟩
              simp only [later]
              simp only [amset, amlib, zset, a0, a1, eq_self, ↓reduceIte, reduceCtorEq, Nat.reduceBEq, Nat.reduceEqDiff, Nat.reduceAdd, Nat.reduceMul, Nat.reduceLeDiff, Nat.reduceLT, Nat.reduceSub]
              refine hK23 _ ?_
              clear hK23
              refine aw_cond (t := false) rfl (fun h => nomatch h) (fun _ => ?_)
              refine aw_skip ?_
              simp only [thenQ, blkQ, if_true, reduceIte, Nat.reduceEqDiff, eq_self]
              refine hK21 _ ?_
              clear hK21
              refine aw_region zT ?_
              simp only [amset, amlib, zset, eq_self, ↓reduceIte, reduceCtorEq, Nat.reduceBEq, Nat.reduceEqDiff, Nat.reduceAdd, Nat.reduceMul, Nat.reduceLeDiff, Nat.reduceLT, Nat.reduceSub]
              refine ⟨⟨by omega, by omega⟩, ?_⟩
              refine hR3 _ (by rw [List.all_append, hI3]; simp only [List.all_cons, List.all_nil, okH, a0, a1, Bool.true_or, Bool.or_true, Bool.false_or, Bool.or_false, Bool.true_and, Bool.and_true, Bool.false_and, Bool.and_false, Bool.not_true, Bool.not_false, if_true, if_false, ↓reduceIte, Bool.false_eq_true]) ?_
              refine Reach.to ?_ ?_
              · simp only [amset, amlib, zset, eq_self, ↓reduceIte, reduceCtorEq, Nat.reduceBEq, Nat.reduceEqDiff, Nat.reduceAdd, Nat.reduceMul, Nat.reduceLeDiff, Nat.reduceLT, Nat.reduceSub] <;> simp [eq_self]
              · simp only [amset, amlib, zset, eq_self, ↓reduceIte, reduceCtorEq, Nat.reduceBEq, Nat.reduceEqDiff, Nat.reduceAdd, Nat.reduceMul, Nat.reduceLeDiff, Nat.reduceLT, Nat.reduceSub] <;> simp [eq_self]
            | false =>
              simp only [amset, amlib, zset, a0, a1, eq_self, ↓reduceIte, reduceCtorEq, Nat.reduceBEq, Nat.reduceEqDiff, Nat.reduceAdd, Nat.reduceMul, Nat.reduceLeDiff, Nat.reduceLT, Nat.reduceSub]
              refine ⟨_, holds96 _, ?_⟩
              simp only [later]
              simp only [amset, amlib, zset, a0, a1, eq_self, ↓reduceIte, reduceCtorEq, Nat.reduceBEq, Nat.reduceEqDiff, Nat.reduceAdd, Nat.reduceMul, Nat.reduceLeDiff, Nat.reduceLT, Nat.reduceSub]
              refine ⟨_, holds98 _, ?_⟩
              simp only [later]
              simp only [amset, amlib, zset, a0, a1, eq_self, ↓reduceIte, reduceCtorEq, Nat.reduceBEq, Nat.reduceEqDiff, Nat.reduceAdd, Nat.reduceMul, Nat.reduceLeDiff, Nat.reduceLT, Nat.reduceSub]
              refine hK23 _ ?_
              clear hK23
              refine aw_cond (t := true) rfl (fun _ => ?_) (fun h => nomatch h)
              refine aw_ops zT fun K24 hK24 => ?_
              simp only [amset, amlib, zset, eq_self, ↓reduceIte, reduceCtorEq, Nat.reduceBEq, Nat.reduceEqDiff, Nat.reduceAdd, Nat.reduceMul, Nat.reduceLeDiff, Nat.reduceLT, Nat.reduceSub]
              refine hK24 _ ?_
              clear hK24
              refine aw_ret ?_
              show resOf zG _ [.tmp 2] = some _
              simp only [amset, amlib, zset, eq_self, ↓reduceIte, reduceCtorEq, Nat.reduceBEq, Nat.reduceEqDiff, Nat.reduceAdd, Nat.reduceMul, Nat.reduceLeDiff, Nat.reduceLT, Nat.reduceSub]
              have hf : p.channels.all okH = false := by
                rw [harg3, List.all_append, List.all_cons]
                have : okH y3 = false := by simp only [okH, a0, a1, Bool.true_or, Bool.or_true, Bool.false_or, Bool.or_false, Bool.true_and, Bool.and_true, Bool.false_and, Bool.and_false, Bool.not_true, Bool.not_false, if_true, if_false, ↓reduceIte, Bool.false_eq_true]
                rw [this]; simp
              simp only [wfP, hf, Bool.true_or, Bool.or_true, Bool.false_or, Bool.or_false, Bool.true_and, Bool.and_true, Bool.false_and, Bool.and_false, Bool.not_true, Bool.not_false, if_true, if_false, ↓reduceIte, Bool.false_eq_true]
          | false =>
            simp only [amset, amlib, zset, a0, eq_self, ↓reduceIte, reduceCtorEq, Nat.reduceBEq, Nat.reduceEqDiff, Nat.reduceAdd, Nat.reduceMul, Nat.reduceLeDiff, Nat.reduceLT, Nat.reduceSub]
            refine ⟨_, holds96 _, ?_⟩
            simp only [later]
            simp only [amset, amlib, zset, a0, eq_self, ↓reduceIte, reduceCtorEq, Nat.reduceBEq, Nat.reduceEqDiff, Nat.reduceAdd, Nat.reduceMul, Nat.reduceLeDiff, Nat.reduceLT, Nat.reduceSub]
            refine hK23 _ ?_
            clear hK23
            refine aw_cond (t := true) rfl (fun _ => ?_) (fun h => nomatch h)
            refine aw_ops zT fun K25 hK25 => ?_
            simp only [amset, amlib, zset, eq_self, ↓reduceIte, reduceCtorEq, Nat.reduceBEq, Nat.reduceEqDiff, Nat.reduceAdd, Nat.reduceMul, Nat.reduceLeDiff, Nat.reduceLT, Nat.reduceSub]
            refine hK25 _ ?_
            clear hK25
            refine aw_ret ?_
            show resOf zG _ [.tmp 2] = some _
            simp only [amset, amlib, zset, eq_self, ↓reduceIte, reduceCtorEq, Nat.reduceBEq, Nat.reduceEqDiff, Nat.reduceAdd, Nat.reduceMul, Nat.reduceLeDiff, Nat.reduceLT, Nat.reduceSub]
            have hf : p.channels.all okH = false := by
              rw [harg3, List.all_append, List.all_cons]
              have : okH y3 = false := by simp only [okH, a0, Bool.true_or, Bool.or_true, Bool.false_or, Bool.or_false, Bool.true_and, Bool.and_true, Bool.false_and, Bool.and_false, Bool.not_true, Bool.not_false, if_true, if_false, ↓reduceIte, Bool.false_eq_true]
              rw [this]; simp
            simp only [wfP, hf, Bool.true_or, Bool.or_true, Bool.false_or, Bool.or_false, Bool.true_and, Bool.and_true, Bool.false_and, Bool.and_false, Bool.not_true, Bool.not_false, if_true, if_false, ↓reduceIte, Bool.false_eq_true]
      · intro dn2 y2 td2 harg2 hI2 R2 hR2
        have hl2 : (([] : List Unit)).length = dn2.length + (td2.length + 1) := by rw [harg2]; simp
        have hmem2 : y2 ∈ ([] : List Unit) := by rw [harg2]; simp
        refine aw_norm (by simp only [amset, amlib, zset, eq_self, ↓reduceIte, reduceCtorEq, Nat.reduceBEq, Nat.reduceEqDiff, Nat.reduceAdd, Nat.reduceMul, Nat.reduceLeDiff, Nat.reduceLT, Nat.reduceSub]; exact rfl) ?_
        exact absurd harg2 (by simp)
    · intro dn1 y1 td1 harg1 hI1 R1 hR1
      have hl1 : (p.globals).length = dn1.length + (td1.length + 1) := by rw [harg1]; simp
      have hmem1 : y1 ∈ p.globals := by rw [harg1]; simp
      refine aw_norm (by simp only [amset, amlib, zset, eq_self, ↓reduceIte, reduceCtorEq, Nat.reduceBEq, Nat.reduceEqDiff, Nat.reduceAdd, Nat.reduceMul, Nat.reduceLeDiff, Nat.reduceLT, Nat.reduceSub]; exact rfl) ?_
      have hget1 : (encGs (p.globals)).getD dn1.length [] = encG y1 := by rw [harg1]; exact encGs_mid dn1 td1 y1
      refine aw_ops zT fun K26 hK26 => ?_
      simp only [amset, amlib, zset, eq_self, ↓reduceIte, reduceCtorEq, Nat.reduceBEq, Nat.reduceEqDiff, Nat.reduceAdd, Nat.reduceMul, Nat.reduceLeDiff, Nat.reduceLT, Nat.reduceSub]
      refine hK26 _ ?_
      clear hK26
      refine aw_seq fun K27 hK27 => ?_
      refine aw_cond (t := true) (by simp [evalO, S.get, amLook]; omega) (fun _ => ?_) (fun h => nomatch h)
      refine aw_skip ?_
      simp only [thenQ, blkQ, if_true, reduceIte, Nat.reduceEqDiff, eq_self]
      refine hK27 _ ?_
      clear hK27
      refine aw_seq fun K28 hK28 => ?_
      refine aw_block ?_
      refine aw_ops zT fun K29 hK29 => ?_
      simp only [amset, amlib, zset, hget1, eq_self, ↓reduceIte, reduceCtorEq, Nat.reduceBEq, Nat.reduceEqDiff, Nat.reduceAdd, Nat.reduceMul, Nat.reduceLeDiff, Nat.reduceLT, Nat.reduceSub]
      refine ⟨⟨by omega, by omega⟩, ?_⟩
      refine hK29 _ ?_
      clear hK29
      refine aw_ops zT fun K30 hK30 => ?_
      cases a0 : ident y1.name with
      | true =>
        cases a1 : numA y1.len with
        | true =>
          cases a2 : signedA y1.init with
          | true =>
            cases a3 : decide (y1.len > 0) with
            | true =>
              cases a4 : (y1.init != 0) with
              | true =>
                simp only [amset, amlib, zset, a0, a1, a2, a3, a4, eq_self, ↓reduceIte, reduceCtorEq, Nat.reduceBEq, Nat.reduceEqDiff, Nat.reduceAdd, Nat.reduceMul, Nat.reduceLeDiff, Nat.reduceLT, Nat.reduceSub]
                refine ⟨_, holds96 _, ?_⟩
                simp only [later]
                simp only [amset, amlib, zset, a0, a1, a2, a3, a4, eq_self, ↓reduceIte, reduceCtorEq, Nat.reduceBEq, Nat.reduceEqDiff, Nat.reduceAdd, Nat.reduceMul, Nat.reduceLeDiff, Nat.reduceLT, Nat.reduceSub]
                refine ⟨_, holds98 _, ?_⟩
                simp only [later]
                simp only [amset, amlib, zset, a0, a1, a2, a3, a4, eq_self, ↓reduceIte, reduceCtorEq, Nat.reduceBEq, Nat.reduceEqDiff, Nat.reduceAdd, Nat.reduceMul, Nat.reduceLeDiff, Nat.reduceLT, Nat.reduceSub]
                refine ⟨_, holds97 _, ?_⟩
                simp only [later]
                simp only [amset, amlib, zset, a0, a1, a2, a3, a4, eq_self, ↓reduceIte, reduceCtorEq, Nat.reduceBEq, Nat.reduceEqDiff, Nat.reduceAdd, Nat.reduceMul, Nat.reduceLeDiff, Nat.reduceLT, Nat.reduceSub]
                refine hK30 _ ?_
                clear hK30
                refine aw_cond (t := true) rfl (fun _ => ?_) (fun h => nomatch h)
                refine aw_ops zT fun K31 hK31 => ?_
                simp only [amset, amlib, zset, eq_self, ↓reduceIte, reduceCtorEq, Nat.reduceBEq, Nat.reduceEqDiff, Nat.reduceAdd, Nat.reduceMul, Nat.reduceLeDiff, Nat.reduceLT, Nat.reduceSub]
                refine hK31 _ ?_
                clear hK31
                refine aw_ret ?_
                show resOf zG _ [.tmp 2] = some _
                simp only [amset, amlib, zset, eq_self, ↓reduceIte, reduceCtorEq, Nat.reduceBEq, Nat.reduceEqDiff, Nat.reduceAdd, Nat.reduceMul, Nat.reduceLeDiff, Nat.reduceLT, Nat.reduceSub]
                have hf : p.globals.all okG = false := by
                  rw [harg1, List.all_append, List.all_cons]
                  have : okG y1 = false := by simp only [okG, a0, a1, a2, a3, a4, Bool.true_or, Bool.or_true, Bool.false_or, Bool.or_false, Bool.true_and, Bool.and_true, Bool.false_and, Bool.and_false, Bool.not_true, Bool.not_false, if_true, if_false, ↓reduceIte, Bool.false_eq_true]
                  rw [this]; simp
                simp only [wfP, hf, Bool.true_or, Bool.or_true, Bool.false_or, Bool.or_false, Bool.true_and, Bool.and_true, Bool.false_and, Bool.and_false, Bool.not_true, Bool.not_false, if_true, if_false, ↓reduceIte, Bool.false_eq_true]
              | false =>
                simp only [amset, amlib, zset, a0, a1, a2, a3, a4, eq_self, ↓reduceIte, reduceCtorEq, Nat.reduceBEq, Nat.reduceEqDiff, Nat.reduceAdd, Nat.reduceMul, Nat.reduceLeDiff, Nat.reduceLT, Nat.reduceSub]
                refine ⟨_, holds96 _, ?_⟩
                simp only [later]
                simp only [amset, amlib, zset, a0, a1, a2, a3, a4, eq_self, ↓reduceIte, reduceCtorEq, Nat.reduceBEq, Nat.reduceEqDiff, Nat.reduceAdd, Nat.reduceMul, Nat.reduceLeDiff, Nat.reduceLT, Nat.reduceSub]
                refine ⟨_, holds98 _, ?_⟩
                simp only [later]
                simp only [amset, amlib, zset, a0, a1, a2, a3, a4, eq_self, ↓reduceIte, reduceCtorEq, Nat.reduceBEq, Nat.reduceEqDiff, Nat.reduceAdd, Nat.reduceMul, Nat.reduceLeDiff, Nat.reduceLT, Nat.reduceSub]
                refine ⟨_, holds97 _, ?_⟩
                simp only [later]
                simp only [amset, amlib, zset, a0, a1, a2, a3, a4, eq_self, ↓reduceIte, reduceCtorEq, Nat.reduceBEq, Nat.reduceEqDiff, Nat.reduceAdd, Nat.reduceMul, Nat.reduceLeDiff, Nat.reduceLT, Nat.reduceSub]
                refine hK30 _ ?_
                clear hK30
                refine aw_cond (t := false) rfl (fun h => nomatch h) (fun _ => ?_)
                refine aw_skip ?_
                simp only [thenQ, blkQ, if_true, reduceIte, Nat.reduceEqDiff, eq_self]
                refine hK28 _ ?_
                clear hK28
                refine aw_region zT ?_
                simp only [amset, amlib, zset, eq_self, ↓reduceIte, reduceCtorEq, Nat.reduceBEq, Nat.reduceEqDiff, Nat.reduceAdd, Nat.reduceMul, Nat.reduceLeDiff, Nat.reduceLT, Nat.reduceSub]
                refine ⟨⟨by omega, by omega⟩, ?_⟩
                refine hR1 _ (by rw [List.all_append, hI1]; simp only [List.all_cons, List.all_nil, okG, a0, a1, a2, a3, a4, Bool.true_or, Bool.or_true, Bool.false_or, Bool.or_false, Bool.true_and, Bool.and_true, Bool.false_and, Bool.and_false, Bool.not_true, Bool.not_false, if_true, if_false, ↓reduceIte, Bool.false_eq_true]) ?_
                refine Reach.to ?_ ?_
                · simp only [amset, amlib, zset, eq_self, ↓reduceIte, reduceCtorEq, Nat.reduceBEq, Nat.reduceEqDiff, Nat.reduceAdd, Nat.reduceMul, Nat.reduceLeDiff, Nat.reduceLT, Nat.reduceSub] <;> simp [eq_self]
                · simp only [amset, amlib, zset, eq_self, ↓reduceIte, reduceCtorEq, Nat.reduceBEq, Nat.reduceEqDiff, Nat.reduceAdd, Nat.reduceMul, Nat.reduceLeDiff, Nat.reduceLT, Nat.reduceSub] <;> simp [eq_self]
            | false =>
              simp only [amset, amlib, zset, a0, a1, a2, a3, eq_self, ↓reduceIte, reduceCtorEq, Nat.reduceBEq, Nat.reduceEqDiff, Nat.reduceAdd, Nat.reduceMul, Nat.reduceLeDiff, Nat.reduceLT, Nat.reduceSub]
              refine ⟨_, holds96 _, ?_⟩
              simp only [later]
              simp only [amset, amlib, zset, a0, a1, a2, a3, eq_self, ↓reduceIte, reduceCtorEq, Nat.reduceBEq, Nat.reduceEqDiff, Nat.reduceAdd, Nat.reduceMul, Nat.reduceLeDiff, Nat.reduceLT, Nat.reduceSub]
              refine ⟨_, holds98 _, ?_⟩
              simp only [later]
              simp only [amset, amlib, zset, a0, a1, a2, a3, eq_self, ↓reduceIte, reduceCtorEq, Nat.reduceBEq, Nat.reduceEqDiff, Nat.reduceAdd, Nat.reduceMul, Nat.reduceLeDiff, Nat.reduceLT, Nat.reduceSub]
              refine ⟨_, holds97 _, ?_⟩
              simp only [later]
              simp only [amset, amlib, zset, a0, a1, a2, a3, eq_self, ↓reduceIte, reduceCtorEq, Nat.reduceBEq, Nat.reduceEqDiff, Nat.reduceAdd, Nat.reduceMul, Nat.reduceLeDiff, Nat.reduceLT, Nat.reduceSub]
              refine hK30 _ ?_
              clear hK30
              refine aw_cond (t := false) rfl (fun h => nomatch h) (fun _ => ?_)
              refine aw_skip ?_
              simp only [thenQ, blkQ, if_true, reduceIte, Nat.reduceEqDiff, eq_self]
              refine hK28 _ ?_
              clear hK28
              refine aw_region zT ?_
              simp only [amset, amlib, zset, eq_self, ↓reduceIte, reduceCtorEq, Nat.reduceBEq, Nat.reduceEqDiff, Nat.reduceAdd, Nat.reduceMul, Nat.reduceLeDiff, Nat.reduceLT, Nat.reduceSub]
              refine ⟨⟨by omega, by omega⟩, ?_⟩
              refine hR1 _ (by rw [List.all_append, hI1]; simp only [List.all_cons, List.all_nil, okG, a0, a1, a2, a3, Bool.true_or, Bool.or_true, Bool.false_or, Bool.or_false, Bool.true_and, Bool.and_true, Bool.false_and, Bool.and_false, Bool.not_true, Bool.not_false, if_true, if_false, ↓reduceIte, Bool.false_eq_true]) ?_
              refine Reach.to ?_ ?_
              · simp only [amset, amlib, zset, eq_self, ↓reduceIte, reduceCtorEq, Nat.reduceBEq, Nat.reduceEqDiff, Nat.reduceAdd, Nat.reduceMul, Nat.reduceLeDiff, Nat.reduceLT, Nat.reduceSub] <;> simp [eq_self]
              · simp only [amset, amlib, zset, eq_self, ↓reduceIte, reduceCtorEq, Nat.reduceBEq, Nat.reduceEqDiff, Nat.reduceAdd, Nat.reduceMul, Nat.reduceLeDiff, Nat.reduceLT, Nat.reduceSub] <;> simp [eq_self]
          | false =>
            simp only [amset, amlib, zset, a0, a1, a2, eq_self, ↓reduceIte, reduceCtorEq, Nat.reduceBEq, Nat.reduceEqDiff, Nat.reduceAdd, Nat.reduceMul, Nat.reduceLeDiff, Nat.reduceLT, Nat.reduceSub]
            refine ⟨_, holds96 _, ?_⟩
            simp only [later]
            simp only [amset, amlib, zset, a0, a1, a2, eq_self, ↓reduceIte, reduceCtorEq, Nat.reduceBEq, Nat.reduceEqDiff, Nat.reduceAdd, Nat.reduceMul, Nat.reduceLeDiff, Nat.reduceLT, Nat.reduceSub]
            refine ⟨_, holds98 _, ?_⟩
            simp only [later]
            simp only [amset, amlib, zset, a0, a1, a2, eq_self, ↓reduceIte, reduceCtorEq, Nat.reduceBEq, Nat.reduceEqDiff, Nat.reduceAdd, Nat.reduceMul, Nat.reduceLeDiff, Nat.reduceLT, Nat.reduceSub]
            refine ⟨_, holds97 _, ?_⟩
            simp only [later]
            simp only [amset, amlib, zset, a0, a1, a2, eq_self, ↓reduceIte, reduceCtorEq, Nat.reduceBEq, Nat.reduceEqDiff, Nat.reduceAdd, Nat.reduceMul, Nat.reduceLeDiff, Nat.reduceLT, Nat.reduceSub]
            refine hK30 _ ?_
            clear hK30
            refine aw_cond (t := true) rfl (fun _ => ?_) (fun h => nomatch h)
            refine aw_ops zT fun K32 hK32 => ?_
            simp only [amset, amlib, zset, eq_self, ↓reduceIte, reduceCtorEq, Nat.reduceBEq, Nat.reduceEqDiff, Nat.reduceAdd, Nat.reduceMul, Nat.reduceLeDiff, Nat.reduceLT, Nat.reduceSub]
            refine hK32 _ ?_
            clear hK32
            refine aw_ret ?_
            show resOf zG _ [.tmp 2] = some _
            simp only [amset, amlib, zset, eq_self, ↓reduceIte, reduceCtorEq, Nat.reduceBEq, Nat.reduceEqDiff, Nat.reduceAdd, Nat.reduceMul, Nat.reduceLeDiff, Nat.reduceLT, Nat.reduceSub]
            have hf : p.globals.all okG = false := by
              rw [harg1, List.all_append, List.all_cons]
              have : okG y1 = false := by simp only [okG, a0, a1, a2, Bool.true_or, Bool.or_true, Bool.false_or, Bool.or_false, Bool.true_and, Bool.and_true, Bool.false_and, Bool.and_false, Bool.not_true, Bool.not_false, if_true, if_false, ↓reduceIte, Bool.false_eq_true]
              rw [this]; simp
            simp only [wfP, hf, Bool.true_or, Bool.or_true, Bool.false_or, Bool.or_false, Bool.true_and, Bool.and_true, Bool.false_and, Bool.and_false, Bool.not_true, Bool.not_false, if_true, if_false, ↓reduceIte, Bool.false_eq_true]
        | false =>
          simp only [amset, amlib, zset, a0, a1, eq_self, ↓reduceIte, reduceCtorEq, Nat.reduceBEq, Nat.reduceEqDiff, Nat.reduceAdd, Nat.reduceMul, Nat.reduceLeDiff, Nat.reduceLT, Nat.reduceSub]
          refine ⟨_, holds96 _, ?_⟩
          simp only [later]
          simp only [amset, amlib, zset, a0, a1, eq_self, ↓reduceIte, reduceCtorEq, Nat.reduceBEq, Nat.reduceEqDiff, Nat.reduceAdd, Nat.reduceMul, Nat.reduceLeDiff, Nat.reduceLT, Nat.reduceSub]
          refine ⟨_, holds98 _, ?_⟩
          simp only [later]
          simp only [amset, amlib, zset, a0, a1, eq_self, ↓reduceIte, reduceCtorEq, Nat.reduceBEq, Nat.reduceEqDiff, Nat.reduceAdd, Nat.reduceMul, Nat.reduceLeDiff, Nat.reduceLT, Nat.reduceSub]
          refine hK30 _ ?_
          clear hK30
          refine aw_cond (t := true) rfl (fun _ => ?_) (fun h => nomatch h)
          refine aw_ops zT fun K33 hK33 => ?_
          simp only [amset, amlib, zset, eq_self, ↓reduceIte, reduceCtorEq, Nat.reduceBEq, Nat.reduceEqDiff, Nat.reduceAdd, Nat.reduceMul, Nat.reduceLeDiff, Nat.reduceLT, Nat.reduceSub]
          refine hK33 _ ?_
          clear hK33
          refine aw_ret ?_
          show resOf zG _ [.tmp 2] = some _
          simp only [amset, amlib, zset, eq_self, ↓reduceIte, reduceCtorEq, Nat.reduceBEq, Nat.reduceEqDiff, Nat.reduceAdd, Nat.reduceMul, Nat.reduceLeDiff, Nat.reduceLT, Nat.reduceSub]
          have hf : p.globals.all okG = false := by
            rw [harg1, List.all_append, List.all_cons]
            have : okG y1 = false := by simp only [okG, a0, a1, Bool.true_or, Bool.or_true, Bool.false_or, Bool.or_false, Bool.true_and, Bool.and_true, Bool.false_and, Bool.and_false, Bool.not_true, Bool.not_false, if_true, if_false, ↓reduceIte, Bool.false_eq_true]
            rw [this]; simp
          simp only [wfP, hf, Bool.true_or, Bool.or_true, Bool.false_or, Bool.or_false, Bool.true_and, Bool.and_true, Bool.false_and, Bool.and_false, Bool.not_true, Bool.not_false, if_true, if_false, ↓reduceIte, Bool.false_eq_true]
      | false =>
        simp only [amset, amlib, zset, a0, eq_self, ↓reduceIte, reduceCtorEq, Nat.reduceBEq, Nat.reduceEqDiff, Nat.reduceAdd, Nat.reduceMul, Nat.reduceLeDiff, Nat.reduceLT, Nat.reduceSub]
        refine ⟨_, holds96 _, ?_⟩
        simp only [later]
        simp only [amset, amlib, zset, a0, eq_self, ↓reduceIte, reduceCtorEq, Nat.reduceBEq, Nat.reduceEqDiff, Nat.reduceAdd, Nat.reduceMul, Nat.reduceLeDiff, Nat.reduceLT, Nat.reduceSub]
        refine hK30 _ ?_
        clear hK30
        refine aw_cond (t := true) rfl (fun _ => ?_) (fun h => nomatch h)
        refine aw_ops zT fun K34 hK34 => ?_
        simp only [amset, amlib, zset, eq_self, ↓reduceIte, reduceCtorEq, Nat.reduceBEq, Nat.reduceEqDiff, Nat.reduceAdd, Nat.reduceMul, Nat.reduceLeDiff, Nat.reduceLT, Nat.reduceSub]
        refine hK34 _ ?_
        clear hK34
        refine aw_ret ?_
        show resOf zG _ [.tmp 2] = some _
        simp only [amset, amlib, zset, eq_self, ↓reduceIte, reduceCtorEq, Nat.reduceBEq, Nat.reduceEqDiff, Nat.reduceAdd, Nat.reduceMul, Nat.reduceLeDiff, Nat.reduceLT, Nat.reduceSub]
        have hf : p.globals.all okG = false := by
          rw [harg1, List.all_append, List.all_cons]
          have : okG y1 = false := by simp only [okG, a0, Bool.true_or, Bool.or_true, Bool.false_or, Bool.or_false, Bool.true_and, Bool.and_true, Bool.false_and, Bool.and_false, Bool.not_true, Bool.not_false, if_true, if_false, ↓reduceIte, Bool.false_eq_true]
          rw [this]; simp
        simp only [wfP, hf, Bool.true_or, Bool.or_true, Bool.false_or, Bool.or_false, Bool.true_and, Bool.and_true, Bool.false_and, Bool.and_false, Bool.not_true, Bool.not_false, if_true, if_false, ↓reduceIte, Bool.false_eq_true]
  · intro dn y td harg hI R hR
    have hl : (p.consts).length = dn.length + (td.length + 1) := by rw [harg]; simp
    have hmem : y ∈ p.consts := by rw [harg]; simp
    refine aw_norm (by simp only [amset, amlib, zset, eq_self, ↓reduceIte, reduceCtorEq, Nat.reduceBEq, Nat.reduceEqDiff, Nat.reduceAdd, Nat.reduceMul, Nat.reduceLeDiff, Nat.reduceLT, Nat.reduceSub]; exact rfl) ?_
    have hget : (encCs (p.consts)).getD dn.length [] = encC y := by rw [harg]; exact encCs_mid dn td y
    refine aw_ops zT fun K35 hK35 => ?_
    simp only [amset, amlib, zset, eq_self, ↓reduceIte, reduceCtorEq, Nat.reduceBEq, Nat.reduceEqDiff, Nat.reduceAdd, Nat.reduceMul, Nat.reduceLeDiff, Nat.reduceLT, Nat.reduceSub]
    refine hK35 _ ?_
    clear hK35
    refine aw_seq fun K36 hK36 => ?_
    refine aw_cond (t := true) (by simp [evalO, S.get, amLook]; omega) (fun _ => ?_) (fun h => nomatch h)
    refine aw_skip ?_
    simp only [thenQ, blkQ, if_true, reduceIte, Nat.reduceEqDiff, eq_self]
    refine hK36 _ ?_
    clear hK36
    refine aw_seq fun K37 hK37 => ?_
    refine aw_block ?_
    refine aw_ops zT fun K38 hK38 => ?_
    simp only [amset, amlib, zset, hget, eq_self, ↓reduceIte, reduceCtorEq, Nat.reduceBEq, Nat.reduceEqDiff, Nat.reduceAdd, Nat.reduceMul, Nat.reduceLeDiff, Nat.reduceLT, Nat.reduceSub]
    refine ⟨⟨by omega, by omega⟩, ?_⟩
    refine hK38 _ ?_
    clear hK38
    refine aw_ops zT fun K39 hK39 => ?_
    cases a0 : ident y.name with
    | true =>
      cases a1 : signedA y.value with
      | true =>
        simp only [amset, amlib, zset, a0, a1, eq_self, ↓reduceIte, reduceCtorEq, Nat.reduceBEq, Nat.reduceEqDiff, Nat.reduceAdd, Nat.reduceMul, Nat.reduceLeDiff, Nat.reduceLT, Nat.reduceSub]
        refine ⟨_, holds96 _, ?_⟩
        simp only [later]
        simp only [amset, amlib, zset, a0, a1, eq_self, ↓reduceIte, reduceCtorEq, Nat.reduceBEq, Nat.reduceEqDiff, Nat.reduceAdd, Nat.reduceMul, Nat.reduceLeDiff, Nat.reduceLT, Nat.reduceSub]
        refine ⟨_, holds97 _, ?_⟩
        simp only [later]
        simp only [amset, amlib, zset, a0, a1, eq_self, ↓reduceIte, reduceCtorEq, Nat.reduceBEq, Nat.reduceEqDiff, Nat.reduceAdd, Nat.reduceMul, Nat.reduceLeDiff, Nat.reduceLT, Nat.reduceSub]
        refine hK39 _ ?_
        clear hK39
        refine aw_cond (t := false) rfl (fun h => nomatch h) (fun _ => ?_)
        refine aw_skip ?_
        simp only [thenQ, blkQ, if_true, reduceIte, Nat.reduceEqDiff, eq_self]
        refine hK37 _ ?_
        clear hK37
        refine aw_region zT ?_
        simp only [amset, amlib, zset, eq_self, ↓reduceIte, reduceCtorEq, Nat.reduceBEq, Nat.reduceEqDiff, Nat.reduceAdd, Nat.reduceMul, Nat.reduceLeDiff, Nat.reduceLT, Nat.reduceSub]
        refine ⟨⟨by omega, by omega⟩, ?_⟩
        refine hR _ (by rw [List.all_append, hI]; simp only [List.all_cons, List.all_nil, okC, a0, a1, Bool.true_or, Bool.or_true, Bool.false_or, Bool.or_false, Bool.true_and, Bool.and_true, Bool.false_and, Bool.and_false, Bool.not_true, Bool.not_false, if_true, if_false, ↓reduceIte, Bool.false_eq_true]) ?_
        refine Reach.to ?_ ?_
        · simp only [amset, amlib, zset, eq_self, ↓reduceIte, reduceCtorEq, Nat.reduceBEq, Nat.reduceEqDiff, Nat.reduceAdd, Nat.reduceMul, Nat.reduceLeDiff, Nat.reduceLT, Nat.reduceSub] <;> simp [eq_self]
        · simp only [amset, amlib, zset, eq_self, ↓reduceIte, reduceCtorEq, Nat.reduceBEq, Nat.reduceEqDiff, Nat.reduceAdd, Nat.reduceMul, Nat.reduceLeDiff, Nat.reduceLT, Nat.reduceSub] <;> simp [eq_self]
      | false =>
        simp only [amset, amlib, zset, a0, a1, eq_self, ↓reduceIte, reduceCtorEq, Nat.reduceBEq, Nat.reduceEqDiff, Nat.reduceAdd, Nat.reduceMul, Nat.reduceLeDiff, Nat.reduceLT, Nat.reduceSub]
        refine ⟨_, holds96 _, ?_⟩
        simp only [later]
        simp only [amset, amlib, zset, a0, a1, eq_self, ↓reduceIte, reduceCtorEq, Nat.reduceBEq, Nat.reduceEqDiff, Nat.reduceAdd, Nat.reduceMul, Nat.reduceLeDiff, Nat.reduceLT, Nat.reduceSub]
        refine ⟨_, holds97 _, ?_⟩
        simp only [later]
        simp only [amset, amlib, zset, a0, a1, eq_self, ↓reduceIte, reduceCtorEq, Nat.reduceBEq, Nat.reduceEqDiff, Nat.reduceAdd, Nat.reduceMul, Nat.reduceLeDiff, Nat.reduceLT, Nat.reduceSub]
        refine hK39 _ ?_
        clear hK39
        refine aw_cond (t := true) rfl (fun _ => ?_) (fun h => nomatch h)
        refine aw_ops zT fun K40 hK40 => ?_
        simp only [amset, amlib, zset, eq_self, ↓reduceIte, reduceCtorEq, Nat.reduceBEq, Nat.reduceEqDiff, Nat.reduceAdd, Nat.reduceMul, Nat.reduceLeDiff, Nat.reduceLT, Nat.reduceSub]
        refine hK40 _ ?_
        clear hK40
        refine aw_ret ?_
        show resOf zG _ [.tmp 2] = some _
        simp only [amset, amlib, zset, eq_self, ↓reduceIte, reduceCtorEq, Nat.reduceBEq, Nat.reduceEqDiff, Nat.reduceAdd, Nat.reduceMul, Nat.reduceLeDiff, Nat.reduceLT, Nat.reduceSub]
        have hf : p.consts.all okC = false := by
          rw [harg, List.all_append, List.all_cons]
          have : okC y = false := by simp only [okC, a0, a1, Bool.true_or, Bool.or_true, Bool.false_or, Bool.or_false, Bool.true_and, Bool.and_true, Bool.false_and, Bool.and_false, Bool.not_true, Bool.not_false, if_true, if_false, ↓reduceIte, Bool.false_eq_true]
          rw [this]; simp
        simp only [wfP, hf, Bool.true_or, Bool.or_true, Bool.false_or, Bool.or_false, Bool.true_and, Bool.and_true, Bool.false_and, Bool.and_false, Bool.not_true, Bool.not_false, if_true, if_false, ↓reduceIte, Bool.false_eq_true]
    | false =>
      simp only [amset, amlib, zset, a0, eq_self, ↓reduceIte, reduceCtorEq, Nat.reduceBEq, Nat.reduceEqDiff, Nat.reduceAdd, Nat.reduceMul, Nat.reduceLeDiff, Nat.reduceLT, Nat.reduceSub]
      refine ⟨_, holds96 _, ?_⟩
      simp only [later]
      simp only [amset, amlib, zset, a0, eq_self, ↓reduceIte, reduceCtorEq, Nat.reduceBEq, Nat.reduceEqDiff, Nat.reduceAdd, Nat.reduceMul, Nat.reduceLeDiff, Nat.reduceLT, Nat.reduceSub]
      refine hK39 _ ?_
      clear hK39
      refine aw_cond (t := true) rfl (fun _ => ?_) (fun h => nomatch h)
      refine aw_ops zT fun K41 hK41 => ?_
      simp only [amset, amlib, zset, eq_self, ↓reduceIte, reduceCtorEq, Nat.reduceBEq, Nat.reduceEqDiff, Nat.reduceAdd, Nat.reduceMul, Nat.reduceLeDiff, Nat.reduceLT, Nat.reduceSub]
      refine hK41 _ ?_
      clear hK41
      refine aw_ret ?_
      show resOf zG _ [.tmp 2] = some _
      simp only [amset, amlib, zset, eq_self, ↓reduceIte, reduceCtorEq, Nat.reduceBEq, Nat.reduceEqDiff, Nat.reduceAdd, Nat.reduceMul, Nat.reduceLeDiff, Nat.reduceLT, Nat.reduceSub]
      have hf : p.consts.all okC = false := by
        rw [harg, List.all_append, List.all_cons]
        have : okC y = false := by simp only [okC, a0, Bool.true_or, Bool.or_true, Bool.false_or, Bool.or_false, Bool.true_and, Bool.and_true, Bool.false_and, Bool.and_false, Bool.not_true, Bool.not_false, if_true, if_false, ↓reduceIte, Bool.false_eq_true]
        rw [this]; simp
      simp only [wfP, hf, Bool.true_or, Bool.or_true, Bool.false_or, Bool.or_false, Bool.true_and, Bool.and_true, Bool.false_and, Bool.and_false, Bool.not_true, Bool.not_false, if_true, if_false, ↓reduceIte, Bool.false_eq_true]
end Go.Proofs.Am
set_option maxRecDepth 100000
set_option maxHeartbeats 4000000
namespace Go.Proofs.Am
def zE : Ex := .mk 0 [] 0 0 [] 0
theorem lk_eq (p : Pg) : (fun q => amFind q (cmap p.consts)) = look p.consts := funext fun q => amFind_cmap q p.consts
theorem wfA_exOK (x : Ex) : wfA x = exOK x := by
  have hl : (!(x.args.any fun y => !wfA y)) = exOKs x.args := by
    have key : ∀ l : List Ex, (∀ y ∈ l, y ∈ x.args) → (!(l.any fun y => !wfA y)) = exOKs l := by
      intro l
      induction l with
      | nil => intro _; rfl
      | cons y r ih =>
        intro hm
        rw [List.any_cons, Bool.not_or, Bool.not_not, ih (fun z hz => hm z (by simp [hz])), exOKs, wfA_exOK y]
    exact key x.args fun _ h => h
  rw [wfA_eq, exOK_eq, hl]
  generalize exOKs x.args = w
  clear hl
  obtain ⟨k, n, v, o, a, p⟩ := x
  simp only [plainP, sameE, headOK, exTail, arityK, bareE, Ex.kind, Ex.name, Ex.value, Ex.op, Ex.args]
  by_cases k1 : k = 1
  · simp [k1]; cases w <;> simp <;> grind
  · by_cases k2 : k = 2
    · simp [k2]; cases w <;> simp <;> grind
    · by_cases k4 : k = 4
      · simp [k4]; cases w <;> simp <;> grind
      · by_cases k3 : k = 3
        · simp [k3]; cases w <;> simp <;> grind
        · by_cases k5 : k = 5
          · simp [k5]; cases w <;> simp <;> grind
          · by_cases k6 : k = 6
            · simp [k6]; cases w <;> simp <;> grind
            · simp [k1, k2, k3, k4, k5, k6]
  termination_by SizeOf.sizeOf x
  decreasing_by exact Ex.args_lt (hm y (by simp))
theorem okE_of_wf (x : Ex) (h : wfA x = true) : okE x := by
  obtain ⟨hk, ha⟩ := wf_facts h
  rw [okE_eq]
  refine ⟨⟨by omega, by omega, by omega⟩, ?_⟩
  have key : ∀ l : List Ex, (∀ y ∈ l, y ∈ x.args) → okL l := by
    intro l
    induction l with
    | nil => intro _; rw [okL]; trivial
    | cons y r ih =>
      intro hm
      rw [okL]
      exact ⟨okE_of_wf y (ha y (hm y (by simp))), ih fun z hz => hm z (by simp [hz])⟩
  exact key x.args fun _ h => h
  termination_by SizeOf.sizeOf x
  decreasing_by exact Ex.args_lt (hm y (by simp))
mutual
theorem okE_str : ∀ x : Ex, okE x → okE (strE x)
  | .mk k n v o a p, h => by
    rw [okE] at h
    rw [strE, okE, strL_length]
    exact ⟨h.1, okL_str a h.2⟩
theorem okL_str : ∀ l : List Ex, okL l → okL (strL l)
  | [], h => h
  | x :: r, h => by rw [okL] at h; rw [strL, okL]; exact ⟨okE_str x h.1, okL_str r h.2⟩
end
mutual
theorem wdE_str : ∀ x : Ex, wdE x → wdE (strE x)
  | .mk k n v o a p, h => by
    rw [wdE] at h
    rw [strE, wdE]
    exact ⟨h.1, wdL_str a h.2⟩
theorem wdL_str : ∀ l : List Ex, wdL l → wdL (strL l)
  | [], h => h
  | x :: r, h => by rw [wdL] at h; rw [strL, wdL]; exact ⟨wdE_str x h.1, wdL_str r h.2⟩
end
mutual
theorem subE_str : ∀ x : Ex, (subE (strE x)).length = (subE x).length
  | .mk k n v o a p => by rw [strE, subE, subE, List.length_cons, List.length_cons, subL_str a]
theorem subL_str : ∀ l : List Ex, (subL (strL l)).length = (subL l).length
  | [] => rfl
  | x :: r => by rw [strL, subL, subL, List.length_append, List.length_append, subE_str x, subL_str r]
end
mutual
theorem cnE_str (lk : List UInt8 → Option Int) : ∀ x : Ex, cnE lk (strE x) = cnE lk x
  | .mk k n v o a p => by rw [strE, cnE, cnE, cnL_str lk a]
theorem cnL_str (lk : List UInt8 → Option Int) : ∀ l : List Ex, cnL lk (strL l) = cnL lk l
  | [] => rfl
  | x :: r => by rw [strL, cnL, cnL, cnE_str lk x, cnL_str lk r]
end
mutual
theorem rxE_str (lk : List UInt8 → Option Int) : ∀ x : Ex, rxE lk (strE x) = sxE lk x
  | .mk k n v o a p => by
    have h := cnE_str lk (.mk k n v o a p)
    rw [strE] at h
    rw [strE, rxE, sxE, h, cnL_str lk a, rxL_str lk a]
    rfl
theorem rxL_str (lk : List UInt8 → Option Int) : ∀ l : List Ex, rxL lk (strL l) = sxL lk l
  | [] => rfl
  | x :: r => by rw [strL, rxL, sxL, rxE_str lk x, rxL_str lk r]
end
theorem prog20 : Tryz.prog.funcs[20]? = some Tryz.f20 := by kernel_rfl
theorem holds20 (p : Pg) (hp : ∀ c ∈ p.consts, i16r c.value) (x : Ex) (hw : wdE x) (hs : (subE x).length ≤ 1000000000000) : Holds Tryz.prog zG 20 [.agg [.sl 3 (encCs p.consts), .sl 4 (encGs p.globals), .sl 1 (encStrs p.sensors), .sl 1 (encStrs p.outputs), .sl 3 (encHs p.channels), .sl 8 (encTs p.tasks)], .agg [.int .i64 x.kind, .str x.name, .int .i16 x.value, .int .i64 x.op, .sl 6 (encEs x.args), .int .i64 x.pos]] [.agg [.int .i64 (if wfA x then sxE (look p.consts) x else zE).kind, .str (if wfA x then sxE (look p.consts) x else zE).name, .int .i16 (if wfA x then sxE (look p.consts) x else zE).value, .int .i64 (if wfA x then sxE (look p.consts) x else zE).op, .sl 6 (encEs (if wfA x then sxE (look p.consts) x else zE).args), .int .i64 (if wfA x then sxE (look p.consts) x else zE).pos]] := by
  refine holds_of_body zT prog20 rfl rfl rfl (by simp [Tryz.f20]) ?_
  refine aw_ops zT fun K1 hK1 => ?_
  simp only [amset, amlib, zset, eq_self, ↓reduceIte, reduceCtorEq, Nat.reduceBEq, Nat.reduceEqDiff, Nat.reduceAdd, Nat.reduceMul, Nat.reduceLeDiff, Nat.reduceLT, Nat.reduceSub]
  refine hK1 _ ?_
  clear hK1
  refine aw_seq fun K2 hK2 => ?_
  refine aw_ops zT fun K3 hK3 => ?_
  simp only [amset, amlib, zset, eq_self, ↓reduceIte, reduceCtorEq, Nat.reduceBEq, Nat.reduceEqDiff, Nat.reduceAdd, Nat.reduceMul, Nat.reduceLeDiff, Nat.reduceLT, Nat.reduceSub]
  refine ⟨_, holds34 x (wdE_eq x ▸ hw).1 (wdE_eq x ▸ hw).2 hs, ?_⟩
  simp only [later]
  simp only [amset, amlib, zset, eq_self, ↓reduceIte, reduceCtorEq, Nat.reduceBEq, Nat.reduceEqDiff, Nat.reduceAdd, Nat.reduceMul, Nat.reduceLeDiff, Nat.reduceLT, Nat.reduceSub]
  refine hK3 _ ?_
  clear hK3
  refine aw_cond rfl (fun h0 => ?_) (fun h0 => ?_)
  · skip
    refine aw_ops zT fun K4 hK4 => ?_
    simp only [amset, amlib, zset, eq_self, ↓reduceIte, reduceCtorEq, Nat.reduceBEq, Nat.reduceEqDiff, Nat.reduceAdd, Nat.reduceMul, Nat.reduceLeDiff, Nat.reduceLT, Nat.reduceSub]
    refine hK4 _ ?_
    clear hK4
    refine aw_ret ?_
    show resOf zG _ [.cell 4 32] = some _
    simp only [amset, amlib, zset, eq_self, ↓reduceIte, reduceCtorEq, Nat.reduceBEq, Nat.reduceEqDiff, Nat.reduceAdd, Nat.reduceMul, Nat.reduceLeDiff, Nat.reduceLT, Nat.reduceSub]
    have hwf : wfA x = false := by
      cases h : wfA x with
      | false => rfl
      | true => rw [h] at h0; simp only [↓reduceIte] at h0; rw [txA_ne x h] at h0; cases h0
    rw [hwf]
    rfl
  · skip
    refine aw_skip ?_
    simp only [thenQ, blkQ, if_true, reduceIte, Nat.reduceEqDiff, eq_self]
    refine hK2 _ ?_
    clear hK2
    have hwf : wfA x = true := by
      cases h : wfA x with
      | true => rfl
      | false => rw [h] at h0; simp at h0
    refine aw_draw zT prog_mixed fun K5 hK5 => ?_
    simp only [amset, amlib, zset, eq_self, ↓reduceIte, reduceCtorEq, Nat.reduceBEq, Nat.reduceEqDiff, Nat.reduceAdd, Nat.reduceMul, Nat.reduceLeDiff, Nat.reduceLT, Nat.reduceSub]
    refine ⟨_, holds63 p, ?_⟩
    simp only [later]
    simp only [amset, amlib, zset, eq_self, ↓reduceIte, reduceCtorEq, Nat.reduceBEq, Nat.reduceEqDiff, Nat.reduceAdd, Nat.reduceMul, Nat.reduceLeDiff, Nat.reduceLT, Nat.reduceSub]
    refine ⟨_, (by have := holds64 (cmap p.consts) (lk_eq p ▸ look_ok hp) x (okE_of_wf x hwf) hw hs; rw [lk_eq p] at this; exact this), ?_⟩
    simp only [later]
    simp only [amset, amlib, zset, eq_self, ↓reduceIte, reduceCtorEq, Nat.reduceBEq, Nat.reduceEqDiff, Nat.reduceAdd, Nat.reduceMul, Nat.reduceLeDiff, Nat.reduceLT, Nat.reduceSub]
    refine ⟨by kernel_rfl, ?_⟩
    refine hK5 _ ?_
    clear hK5
    refine aw_ret ?_
    show resOf zG _ [.cell 4 32] = some _
    simp only [amset, amlib, zset, eq_self, ↓reduceIte, reduceCtorEq, Nat.reduceBEq, Nat.reduceEqDiff, Nat.reduceAdd, Nat.reduceMul, Nat.reduceLeDiff, Nat.reduceLT, Nat.reduceSub]
    rw [hwf]
    rfl
theorem prog22 : Tryz.prog.funcs[22]? = some Tryz.f22 := by kernel_rfl
theorem holds22 (p : Pg) (hp : ∀ c ∈ p.consts, i16r c.value) (x : Ex) (hw : wdE x) (hs : (subE x).length ≤ 1000000000000) : Holds Tryz.prog zG 22 [.agg [.sl 3 (encCs p.consts), .sl 4 (encGs p.globals), .sl 1 (encStrs p.sensors), .sl 1 (encStrs p.outputs), .sl 3 (encHs p.channels), .sl 8 (encTs p.tasks)], .agg [.int .i64 x.kind, .str x.name, .int .i16 x.value, .int .i64 x.op, .sl 6 (encEs x.args), .int .i64 x.pos]] [.agg [.int .i64 (if wfA x then sxE (look p.consts) x else zE).kind, .str (if wfA x then sxE (look p.consts) x else zE).name, .int .i16 (if wfA x then sxE (look p.consts) x else zE).value, .int .i64 (if wfA x then sxE (look p.consts) x else zE).op, .sl 6 (encEs (if wfA x then sxE (look p.consts) x else zE).args), .int .i64 (if wfA x then sxE (look p.consts) x else zE).pos]] := by
  refine holds_of_body zT prog22 rfl rfl rfl (by simp [Tryz.f22]) ?_
  refine aw_ops zT fun K1 hK1 => ?_
  simp only [amset, amlib, zset, eq_self, ↓reduceIte, reduceCtorEq, Nat.reduceBEq, Nat.reduceEqDiff, Nat.reduceAdd, Nat.reduceMul, Nat.reduceLeDiff, Nat.reduceLT, Nat.reduceSub]
  refine hK1 _ ?_
  clear hK1
  refine aw_seq fun K2 hK2 => ?_
  refine aw_ops zT fun K3 hK3 => ?_
  simp only [amset, amlib, zset, eq_self, ↓reduceIte, reduceCtorEq, Nat.reduceBEq, Nat.reduceEqDiff, Nat.reduceAdd, Nat.reduceMul, Nat.reduceLeDiff, Nat.reduceLT, Nat.reduceSub]
  refine ⟨_, holds26 x, ?_⟩
  simp only [later]
  simp only [amset, amlib, zset, eq_self, ↓reduceIte, reduceCtorEq, Nat.reduceBEq, Nat.reduceEqDiff, Nat.reduceAdd, Nat.reduceMul, Nat.reduceLeDiff, Nat.reduceLT, Nat.reduceSub]
  refine hK3 _ ?_
  clear hK3
  refine aw_cond rfl (fun h0 => ?_) (fun h0 => ?_)
  · skip
    refine aw_ops zT fun K4 hK4 => ?_
    simp only [amset, amlib, zset, eq_self, ↓reduceIte, reduceCtorEq, Nat.reduceBEq, Nat.reduceEqDiff, Nat.reduceAdd, Nat.reduceMul, Nat.reduceLeDiff, Nat.reduceLT, Nat.reduceSub]
    refine hK4 _ ?_
    clear hK4
    refine aw_ret ?_
    show resOf zG _ [.cell 4 32] = some _
    simp only [amset, amlib, zset, eq_self, ↓reduceIte, reduceCtorEq, Nat.reduceBEq, Nat.reduceEqDiff, Nat.reduceAdd, Nat.reduceMul, Nat.reduceLeDiff, Nat.reduceLT, Nat.reduceSub]
    have hwf : wfA x = false := by rw [wfA_exOK]; simpa using h0
    rw [hwf]
    rfl
  · skip
    refine aw_skip ?_
    simp only [thenQ, blkQ, if_true, reduceIte, Nat.reduceEqDiff, eq_self]
    refine hK2 _ ?_
    clear hK2
    have hwf : wfA x = true := by rw [wfA_exOK]; simpa using h0
    refine aw_draw zT prog_mixed fun K5 hK5 => ?_
    simp only [amset, amlib, zset, eq_self, ↓reduceIte, reduceCtorEq, Nat.reduceBEq, Nat.reduceEqDiff, Nat.reduceAdd, Nat.reduceMul, Nat.reduceLeDiff, Nat.reduceLT, Nat.reduceSub]
    refine ⟨_, holds66 x hs, ?_⟩
    simp only [later]
    simp only [amset, amlib, zset, eq_self, ↓reduceIte, reduceCtorEq, Nat.reduceBEq, Nat.reduceEqDiff, Nat.reduceAdd, Nat.reduceMul, Nat.reduceLeDiff, Nat.reduceLT, Nat.reduceSub]
    refine ⟨_, holds65 p hp (strE x) (okE_str x (okE_of_wf x hwf)) (wdE_str x hw) (by rw [subE_str]; exact hs), ?_⟩
    simp only [later]
    simp only [amset, amlib, zset, eq_self, ↓reduceIte, reduceCtorEq, Nat.reduceBEq, Nat.reduceEqDiff, Nat.reduceAdd, Nat.reduceMul, Nat.reduceLeDiff, Nat.reduceLT, Nat.reduceSub]
    refine ⟨by kernel_rfl, ?_⟩
    refine hK5 _ ?_
    clear hK5
    refine aw_ret ?_
    show resOf zG _ [.cell 4 32] = some _
    simp only [amset, amlib, zset, eq_self, ↓reduceIte, reduceCtorEq, Nat.reduceBEq, Nat.reduceEqDiff, Nat.reduceAdd, Nat.reduceMul, Nat.reduceLeDiff, Nat.reduceLT, Nat.reduceSub]
    rw [rxE_str, hwf]
    rfl
end Go.Proofs.Am
set_option maxRecDepth 100000
set_option maxHeartbeats 4000000
namespace Go.Proofs.Am
mutual
/-- Words and sizes. -/
def bdS : St → Prop
  | .mk _ _ _ a b e _ => (wdL a ∧ (subL a).length ≤ 1000000000000 ∧ b.length ≤ 1000000000000 ∧ e.length ≤ 1000000000000) ∧ bdM b ∧ bdM e
def bdM : List St → Prop
  | [] => True
  | x :: r => bdS x ∧ bdM r
end
theorem okL_wf : ∀ l : List Ex, (l.any fun y => !wfA y) = false → okL l
  | [], _ => by rw [okL]; trivial
  | x :: r, h => by
    rw [List.any_cons, Bool.or_eq_false_iff] at h
    rw [okL]
    exact ⟨okE_of_wf x (by simpa using h.1), okL_wf r h.2⟩
mutual
theorem okS_of : ∀ x : St, wfS x = true → bdS x → okS x
  | .mk k n v a b e p, h, hb => by
    rw [wfS, Bool.and_eq_true, Bool.and_eq_true] at h
    rw [bdS] at hb
    obtain ⟨⟨h1, h2⟩, h3⟩ := h
    have h1 : bdA (.mk k n v a b e p) = false := by simpa using h1
    simp only [bdA, Bool.or_eq_false_iff, St.kind, St.args] at h1
    rw [okS]
    refine ⟨⟨fun hk => ?_, okL_wf a h1.2, hb.1.1, hb.1.2.1, hb.1.2.2.1, hb.1.2.2.2⟩, okM_of b h2 hb.2.1, okM_of e h3 hb.2.2⟩
    have hl : (a.length : Int) = sC k := by simpa using h1.1.2
    rcases hk with rfl | rfl
    · have : sC 4 = 1 := rfl
      omega
    · have : sC 6 = 1 := rfl
      omega
theorem okM_of : ∀ l : List St, wfSs l = true → bdM l → okM l
  | [], _, _ => by rw [okM]; trivial
  | x :: r, h, hb => by
    rw [wfSs, Bool.and_eq_true] at h
    rw [bdM] at hb
    rw [okM]
    exact ⟨okS_of x h.1 hb.1, okM_of r h.2 hb.2⟩
end
theorem wfP_task (l : List St) : wfP (inTaskP l) = wfSs l := by
  have h1 : ident [116] = true := by kernel_rfl
  have h2 : wfT ⟨[116], 1, 0, [], [], 0, l, 0⟩ = wfSs l := by
    simp only [wfT, h1]
    cases wfSs l <;> rfl
  simp only [wfP, inTaskP, List.all_cons, List.all_nil, List.append_nil, h2, Bool.true_and, Bool.and_true]
theorem prog24 : Tryz.prog.funcs[24]? = some Tryz.f24 := by kernel_rfl
theorem holds24 (p : Pg) (hp : ∀ c ∈ p.consts, i16r c.value) (l : List St) (hb : bdM l) (hl : l.length ≤ 1000000000000) : Holds Tryz.prog zG 24 [.agg [.sl 3 (encCs p.consts), .sl 4 (encGs p.globals), .sl 1 (encStrs p.sensors), .sl 1 (encStrs p.outputs), .sl 3 (encHs p.channels), .sl 8 (encTs p.tasks)], .c (.sl 7 (encSs l))] [.c (.sl 7 (encSs (if wfSs l then ssL (look p.consts) l else [])))] := by
  refine holds_of_body zT prog24 rfl rfl rfl (by simp [Tryz.f24]) ?_
  refine aw_ops zT fun K1 hK1 => ?_
  simp only [amset, amlib, zset, eq_self, ↓reduceIte, reduceCtorEq, Nat.reduceBEq, Nat.reduceEqDiff, Nat.reduceAdd, Nat.reduceMul, Nat.reduceLeDiff, Nat.reduceLT, Nat.reduceSub]
  refine hK1 _ ?_
  clear hK1
  refine aw_seq fun K2 hK2 => ?_
  refine aw_ops zT fun K3 hK3 => ?_
  simp only [amset, amlib, zset, eq_self, ↓reduceIte, reduceCtorEq, Nat.reduceBEq, Nat.reduceEqDiff, Nat.reduceAdd, Nat.reduceMul, Nat.reduceLeDiff, Nat.reduceLT, Nat.reduceSub]
  refine ⟨_, holds67 l, ?_⟩
  simp only [later]
  simp only [amset, amlib, zset, eq_self, ↓reduceIte, reduceCtorEq, Nat.reduceBEq, Nat.reduceEqDiff, Nat.reduceAdd, Nat.reduceMul, Nat.reduceLeDiff, Nat.reduceLT, Nat.reduceSub]
  refine ⟨_, holds36 (inTaskP l) rfl rfl, ?_⟩
  simp only [later]
  simp only [amset, amlib, zset, eq_self, ↓reduceIte, reduceCtorEq, Nat.reduceBEq, Nat.reduceEqDiff, Nat.reduceAdd, Nat.reduceMul, Nat.reduceLeDiff, Nat.reduceLT, Nat.reduceSub]
  refine hK3 _ ?_
  clear hK3
  refine aw_cond rfl (fun h0 => ?_) (fun h0 => ?_)
  · skip
    refine aw_ops zT fun K4 hK4 => ?_
    simp only [amset, amlib, zset, eq_self, ↓reduceIte, reduceCtorEq, Nat.reduceBEq, Nat.reduceEqDiff, Nat.reduceAdd, Nat.reduceMul, Nat.reduceLeDiff, Nat.reduceLT, Nat.reduceSub]
    refine hK4 _ ?_
    clear hK4
    refine aw_ret ?_
    show resOf zG _ [.tmp 4] = some _
    simp only [amset, amlib, zset, eq_self, ↓reduceIte, reduceCtorEq, Nat.reduceBEq, Nat.reduceEqDiff, Nat.reduceAdd, Nat.reduceMul, Nat.reduceLeDiff, Nat.reduceLT, Nat.reduceSub]
    have hwf : wfSs l = false := by rw [← wfP_task]; simpa using h0
    rw [hwf]
    rfl
  · skip
    refine aw_skip ?_
    simp only [thenQ, blkQ, if_true, reduceIte, Nat.reduceEqDiff, eq_self]
    refine hK2 _ ?_
    clear hK2
    have hwf : wfSs l = true := by rw [← wfP_task]; simpa using h0
    refine aw_ops zT fun K5 hK5 => ?_
    simp only [amset, amlib, zset, eq_self, ↓reduceIte, reduceCtorEq, Nat.reduceBEq, Nat.reduceEqDiff, Nat.reduceAdd, Nat.reduceMul, Nat.reduceLeDiff, Nat.reduceLT, Nat.reduceSub]
    refine ⟨_, holds63 p, ?_⟩
    simp only [later]
    simp only [amset, amlib, zset, eq_self, ↓reduceIte, reduceCtorEq, Nat.reduceBEq, Nat.reduceEqDiff, Nat.reduceAdd, Nat.reduceMul, Nat.reduceLeDiff, Nat.reduceLT, Nat.reduceSub]
    refine ⟨_, (by have := holds68 (cmap p.consts) (lk_eq p ▸ look_ok hp) l hl (okM_of l hwf hb); rw [lk_eq p] at this; exact this), ?_⟩
    simp only [later]
    simp only [amset, amlib, zset, eq_self, ↓reduceIte, reduceCtorEq, Nat.reduceBEq, Nat.reduceEqDiff, Nat.reduceAdd, Nat.reduceMul, Nat.reduceLeDiff, Nat.reduceLT, Nat.reduceSub]
    refine hK5 _ ?_
    clear hK5
    refine aw_ret ?_
    show resOf zG _ [.tmp 4] = some _
    simp only [amset, amlib, zset, eq_self, ↓reduceIte, reduceCtorEq, Nat.reduceBEq, Nat.reduceEqDiff, Nat.reduceAdd, Nat.reduceMul, Nat.reduceLeDiff, Nat.reduceLT, Nat.reduceSub]
    rw [hwf]
    rfl
end Go.Proofs.Am
