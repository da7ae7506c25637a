/- Part 6 of a proof that the law holds of every input of the given bulk. -/
import Derived.Test.YtfflfbhnedkppaaGreatDoorPart05
import Derived.Test.YtfflfbhnedkppaaGreatDoorPart04
set_option autoImplicit false
set_option linter.unusedSimpArgs false
set_option linter.unusedVariables false
set_option linter.unusedSectionVars false
set_option maxRecDepth 100000
set_option maxHeartbeats 4000000
namespace Go.Proofs.Am
def litM (v : Int) : Nat := if v ≥ 0 then 0 else if v = -32768 then 2 else 1
theorem lit_pos {v : Int} (h : 0 ≤ v) : litE v = numE v := by simp [litE, h]
theorem lit_neg {v : Int} (h : -32768 < v) (h0 : v < 0) : litE v = unE' 1 (numE (0 - v)) := by
  have h1 : ¬ (v ≥ 0) := by omega
  have h2 : (v == -32768) = false := by simp; omega
  simp [litE, h1, h2]
theorem lit_min : litE (-32768) = binE' 4 (unE' 1 (numE 32767)) (numE 1) := rfl
theorem prog140 : Tryz.prog.funcs[140]? = some Tryz.f140 := by kernel_rfl
theorem step140 (v : Int) (hv : i16r v) (ih : ∀ u : Int, litM u < litM v → i16r u → Holds Tryz.prog zG 140 [.c (.int .i16 u)] [.agg [.int .i64 (litE u).kind, .str (litE u).name, .int .i16 (litE u).value, .int .i64 (litE u).op, .sl 6 (encEs (litE u).args), .int .i64 (litE u).pos]]) : Holds Tryz.prog zG 140 [.c (.int .i16 v)] [.agg [.int .i64 (litE v).kind, .str (litE v).name, .int .i16 (litE v).value, .int .i64 (litE v).op, .sl 6 (encEs (litE v).args), .int .i64 (litE v).pos]] := by
  refine holds_of_body zT prog140 rfl rfl rfl (by simp [Tryz.f140]) ?_
  refine aw_ops zT fun K1 hK1 => ?_
  simp only [amset, amlib, zset, eq_self, ↓reduceIte, reduceCtorEq, Nat.reduceBEq, Nat.reduceEqDiff, Nat.reduceAdd, Nat.reduceMul, Nat.reduceLeDiff, Nat.reduceLT, Nat.reduceSub]
  refine hK1 _ ?_
  clear hK1
  refine aw_seq fun K2 hK2 => ?_
  refine aw_block ?_
  refine aw_ops zT fun K3 hK3 => ?_
  simp only [amset, amlib, zset, eq_self, ↓reduceIte, reduceCtorEq, Nat.reduceBEq, Nat.reduceEqDiff, Nat.reduceAdd, Nat.reduceMul, Nat.reduceLeDiff, Nat.reduceLT, Nat.reduceSub]
  refine hK3 _ ?_
  clear hK3
  refine aw_cond rfl (fun h0 => ?_) (fun h0 => ?_)
  · skip
    refine aw_ops zT fun K4 hK4 => ?_
    simp only [amset, amlib, zset, eq_self, ↓reduceIte, reduceCtorEq, Nat.reduceBEq, Nat.reduceEqDiff, Nat.reduceAdd, Nat.reduceMul, Nat.reduceLeDiff, Nat.reduceLT, Nat.reduceSub]
    refine hK4 _ ?_
    clear hK4
    refine aw_ret ?_
    show resOf zG _ [.cell 2 32] = some _
    simp only [amset, amlib, zset, eq_self, ↓reduceIte, reduceCtorEq, Nat.reduceBEq, Nat.reduceEqDiff, Nat.reduceAdd, Nat.reduceMul, Nat.reduceLeDiff, Nat.reduceLT, Nat.reduceSub]
    rw [lit_pos (by simpa using h0)]
    simp only [numE, binE', unE', nameE, Ex.kind, Ex.name, Ex.value, Ex.op, Ex.args, Ex.pos, encEs, encE_eq]
  · skip
    refine aw_ops zT fun K5 hK5 => ?_
    simp only [amset, amlib, zset, eq_self, ↓reduceIte, reduceCtorEq, Nat.reduceBEq, Nat.reduceEqDiff, Nat.reduceAdd, Nat.reduceMul, Nat.reduceLeDiff, Nat.reduceLT, Nat.reduceSub]
    refine hK5 _ ?_
    clear hK5
    refine aw_cond rfl (fun h1 => ?_) (fun h1 => ?_)
    · skip
      have hm : v = -32768 := by simpa using h1
      refine aw_ops zT fun K6 hK6 => ?_
      simp only [amset, amlib, zset, eq_self, ↓reduceIte, reduceCtorEq, Nat.reduceBEq, Nat.reduceEqDiff, Nat.reduceAdd, Nat.reduceMul, Nat.reduceLeDiff, Nat.reduceLT, Nat.reduceSub]
      refine ⟨_, ih (-32767) (by rw [hm]; simp [litM]) (by simp [i16r]), ?_⟩
      simp only [later]
      simp only [amset, amlib, zset, eq_self, ↓reduceIte, reduceCtorEq, Nat.reduceBEq, Nat.reduceEqDiff, Nat.reduceAdd, Nat.reduceMul, Nat.reduceLeDiff, Nat.reduceLT, Nat.reduceSub]
      refine ⟨_, ih 1 (by rw [hm]; simp [litM]) (by simp [i16r]), ?_⟩
      simp only [later]
      simp only [amset, amlib, zset, eq_self, ↓reduceIte, reduceCtorEq, Nat.reduceBEq, Nat.reduceEqDiff, Nat.reduceAdd, Nat.reduceMul, Nat.reduceLeDiff, Nat.reduceLT, Nat.reduceSub]
      refine hK6 _ ?_
      clear hK6
      refine aw_ret ?_
      show resOf zG _ [.cell 2 32] = some _
      simp only [amset, amlib, zset, eq_self, ↓reduceIte, reduceCtorEq, Nat.reduceBEq, Nat.reduceEqDiff, Nat.reduceAdd, Nat.reduceMul, Nat.reduceLeDiff, Nat.reduceLT, Nat.reduceSub]
      rw [hm]
      rfl
    · skip
      refine aw_skip ?_
      simp only [thenQ, blkQ, if_true, reduceIte, Nat.reduceEqDiff, eq_self]
      refine hK2 _ ?_
      clear hK2
      have h2 : ¬ (v ≥ 0) := by simpa using h0
      have h3 : v ≠ -32768 := by simpa using h1
      have e1 : IntKind.i16.wrap (0 - v) = 0 - v := w16_small (by unfold i16r at hv; omega)
      have e2 := lit_neg (v := v) (by unfold i16r at hv; omega) (by omega)
      refine aw_ops zT fun K7 hK7 => ?_
      simp only [amset, amlib, zset, e1, eq_self, ↓reduceIte, reduceCtorEq, Nat.reduceBEq, Nat.reduceEqDiff, Nat.reduceAdd, Nat.reduceMul, Nat.reduceLeDiff, Nat.reduceLT, Nat.reduceSub]
      refine ⟨_, ih (0 - v) (by simp only [litM]; rw [if_neg h2, if_neg h3, if_pos (by omega)]; omega) (by unfold i16r at *; omega), ?_⟩
      simp only [later]
      simp only [amset, amlib, zset, eq_self, ↓reduceIte, reduceCtorEq, Nat.reduceBEq, Nat.reduceEqDiff, Nat.reduceAdd, Nat.reduceMul, Nat.reduceLeDiff, Nat.reduceLT, Nat.reduceSub]
      refine hK7 _ ?_
      clear hK7
      refine aw_ret ?_
      show resOf zG _ [.cell 2 32] = some _
      simp only [amset, amlib, zset, eq_self, ↓reduceIte, reduceCtorEq, Nat.reduceBEq, Nat.reduceEqDiff, Nat.reduceAdd, Nat.reduceMul, Nat.reduceLeDiff, Nat.reduceLT, Nat.reduceSub]
      rw [e2, lit_pos (v := 0 - v) (by omega)]
      simp only [numE, binE', unE', nameE, Ex.kind, Ex.name, Ex.value, Ex.op, Ex.args, Ex.pos, encEs, encE_eq]
theorem holds140 (v : Int) (hv : i16r v) : Holds Tryz.prog zG 140 [.c (.int .i16 v)] [.agg [.int .i64 (litE v).kind, .str (litE v).name, .int .i16 (litE v).value, .int .i64 (litE v).op, .sl 6 (encEs (litE v).args), .int .i64 (litE v).pos]] := step140 v hv fun u _ hu => holds140 u hu
  termination_by litM v
theorem prog142 : Tryz.prog.funcs[142]? = some Tryz.f142 := by kernel_rfl
theorem step142 (v : Int) (hv : i16r v) (ih : ∀ u : Int, litM u < litM v → i16r u → Holds Tryz.prog zG 142 [.c (.int .i16 u)] [.agg [.int .i64 (litE u).kind, .str (litE u).name, .int .i16 (litE u).value, .int .i64 (litE u).op, .sl 6 (encEs (litE u).args), .int .i64 (litE u).pos]]) : Holds Tryz.prog zG 142 [.c (.int .i16 v)] [.agg [.int .i64 (litE v).kind, .str (litE v).name, .int .i16 (litE v).value, .int .i64 (litE v).op, .sl 6 (encEs (litE v).args), .int .i64 (litE v).pos]] := by
  refine holds_of_body zT prog142 rfl rfl rfl (by simp [Tryz.f142]) ?_
  refine aw_ops zT fun K1 hK1 => ?_
  simp only [amset, amlib, zset, eq_self, ↓reduceIte, reduceCtorEq, Nat.reduceBEq, Nat.reduceEqDiff, Nat.reduceAdd, Nat.reduceMul, Nat.reduceLeDiff, Nat.reduceLT, Nat.reduceSub]
  refine hK1 _ ?_
  clear hK1
  refine aw_seq fun K2 hK2 => ?_
  refine aw_ops zT fun K3 hK3 => ?_
  simp only [amset, amlib, zset, eq_self, ↓reduceIte, reduceCtorEq, Nat.reduceBEq, Nat.reduceEqDiff, Nat.reduceAdd, Nat.reduceMul, Nat.reduceLeDiff, Nat.reduceLT, Nat.reduceSub]
  refine hK3 _ ?_
  clear hK3
  refine aw_cond rfl (fun h0 => ?_) (fun h0 => ?_)
  · skip
    refine aw_ops zT fun K4 hK4 => ?_
    simp only [amset, amlib, zset, eq_self, ↓reduceIte, reduceCtorEq, Nat.reduceBEq, Nat.reduceEqDiff, Nat.reduceAdd, Nat.reduceMul, Nat.reduceLeDiff, Nat.reduceLT, Nat.reduceSub]
    refine ⟨_, holds144 _, ?_⟩
    simp only [later]
    simp only [amset, amlib, zset, eq_self, ↓reduceIte, reduceCtorEq, Nat.reduceBEq, Nat.reduceEqDiff, Nat.reduceAdd, Nat.reduceMul, Nat.reduceLeDiff, Nat.reduceLT, Nat.reduceSub]
    refine hK4 _ ?_
    clear hK4
    refine aw_ret ?_
    show resOf zG _ [.cell 2 32] = some _
    simp only [amset, amlib, zset, eq_self, ↓reduceIte, reduceCtorEq, Nat.reduceBEq, Nat.reduceEqDiff, Nat.reduceAdd, Nat.reduceMul, Nat.reduceLeDiff, Nat.reduceLT, Nat.reduceSub]
    rw [lit_pos (by simpa using h0)]
  · skip
    refine aw_skip ?_
    simp only [thenQ, blkQ, if_true, reduceIte, Nat.reduceEqDiff, eq_self]
    refine hK2 _ ?_
    clear hK2
    refine aw_seq fun K5 hK5 => ?_
    refine aw_ops zT fun K6 hK6 => ?_
    simp only [amset, amlib, zset, eq_self, ↓reduceIte, reduceCtorEq, Nat.reduceBEq, Nat.reduceEqDiff, Nat.reduceAdd, Nat.reduceMul, Nat.reduceLeDiff, Nat.reduceLT, Nat.reduceSub]
    refine hK6 _ ?_
    clear hK6
    refine aw_cond rfl (fun h1 => ?_) (fun h1 => ?_)
    · skip
      have hm : v = -32768 := by simpa using h1
      refine aw_ops zT fun K7 hK7 => ?_
      simp only [amset, amlib, zset, eq_self, ↓reduceIte, reduceCtorEq, Nat.reduceBEq, Nat.reduceEqDiff, Nat.reduceAdd, Nat.reduceMul, Nat.reduceLeDiff, Nat.reduceLT, Nat.reduceSub]
      refine ⟨_, ih (-32767) (by rw [hm]; simp [litM]) (by simp [i16r]), ?_⟩
      simp only [later]
      simp only [amset, amlib, zset, eq_self, ↓reduceIte, reduceCtorEq, Nat.reduceBEq, Nat.reduceEqDiff, Nat.reduceAdd, Nat.reduceMul, Nat.reduceLeDiff, Nat.reduceLT, Nat.reduceSub]
      refine ⟨_, holds144 _, ?_⟩
      simp only [later]
      simp only [amset, amlib, zset, eq_self, ↓reduceIte, reduceCtorEq, Nat.reduceBEq, Nat.reduceEqDiff, Nat.reduceAdd, Nat.reduceMul, Nat.reduceLeDiff, Nat.reduceLT, Nat.reduceSub]
      refine ⟨_, holds143 4 (litE (-32767)) (numE 1), ?_⟩
      simp only [later]
      simp only [amset, amlib, zset, eq_self, ↓reduceIte, reduceCtorEq, Nat.reduceBEq, Nat.reduceEqDiff, Nat.reduceAdd, Nat.reduceMul, Nat.reduceLeDiff, Nat.reduceLT, Nat.reduceSub]
      refine hK7 _ ?_
      clear hK7
      refine aw_ret ?_
      show resOf zG _ [.cell 2 32] = some _
      simp only [amset, amlib, zset, eq_self, ↓reduceIte, reduceCtorEq, Nat.reduceBEq, Nat.reduceEqDiff, Nat.reduceAdd, Nat.reduceMul, Nat.reduceLeDiff, Nat.reduceLT, Nat.reduceSub]
      rw [hm]
      rfl
    · skip
      refine aw_skip ?_
      simp only [thenQ, blkQ, if_true, reduceIte, Nat.reduceEqDiff, eq_self]
      refine hK5 _ ?_
      clear hK5
      have h2 : ¬ (v ≥ 0) := by simpa using h0
      have h3 : v ≠ -32768 := by simpa using h1
      have e1 : IntKind.i16.wrap (0 - v) = 0 - v := w16_small (by unfold i16r at hv; omega)
      have e2 := lit_neg (v := v) (by unfold i16r at hv; omega) (by omega)
      refine aw_ops zT fun K8 hK8 => ?_
      simp only [amset, amlib, zset, e1, eq_self, ↓reduceIte, reduceCtorEq, Nat.reduceBEq, Nat.reduceEqDiff, Nat.reduceAdd, Nat.reduceMul, Nat.reduceLeDiff, Nat.reduceLT, Nat.reduceSub]
      refine ⟨_, holds144 _, ?_⟩
      simp only [later]
      simp only [amset, amlib, zset, eq_self, ↓reduceIte, reduceCtorEq, Nat.reduceBEq, Nat.reduceEqDiff, Nat.reduceAdd, Nat.reduceMul, Nat.reduceLeDiff, Nat.reduceLT, Nat.reduceSub]
      refine hK8 _ ?_
      clear hK8
      refine aw_ret ?_
      show resOf zG _ [.cell 2 32] = some _
      simp only [amset, amlib, zset, eq_self, ↓reduceIte, reduceCtorEq, Nat.reduceBEq, Nat.reduceEqDiff, Nat.reduceAdd, Nat.reduceMul, Nat.reduceLeDiff, Nat.reduceLT, Nat.reduceSub]
      rw [e2]
      simp only [numE, binE', unE', nameE, Ex.kind, Ex.name, Ex.value, Ex.op, Ex.args, Ex.pos, encEs, encE_eq]
theorem holds142 (v : Int) (hv : i16r v) : Holds Tryz.prog zG 142 [.c (.int .i16 v)] [.agg [.int .i64 (litE v).kind, .str (litE v).name, .int .i16 (litE v).value, .int .i64 (litE v).op, .sl 6 (encEs (litE v).args), .int .i64 (litE v).pos]] := step142 v hv fun u _ hu => holds142 u hu
  termination_by litM v
end Go.Proofs.Am
set_option maxRecDepth 100000
set_option maxHeartbeats 4000000
namespace Go.Proofs.Am
def look : List Cn → List UInt8 → Option Int
  | [], _ => none
  | c :: r, q => if c.name = q then some c.value else look r q
def cmap (l : List Cn) : List (List UInt8 × Int) := l.foldl (fun es c => if (amFind c.name es).isSome then es else es ++ [(c.name, c.value)]) []
theorem cmap_snoc (l : List Cn) (c : Cn) : cmap (l ++ [c]) = if (amFind c.name (cmap l)).isSome then cmap l else cmap l ++ [(c.name, c.value)] := by unfold cmap; rw [List.foldl_append]; rfl
theorem cmap_nil : cmap [] = [] := rfl
theorem amFind_snoc (q : List UInt8) (es : List (List UInt8 × Int)) (p : List UInt8 × Int) : amFind q (es ++ [p]) = match amFind q es with | some x => some x | none => if p.1 = q then some p.2 else none := by
  induction es with
  | nil => simp [amFind]
  | cons e r ih => simp only [List.cons_append, amFind]; split; rfl; exact ih
theorem look_snoc (q : List UInt8) (l : List Cn) (c : Cn) : look (l ++ [c]) q = match look l q with | some x => some x | none => if c.name = q then some c.value else none := by
  induction l with
  | nil => simp [look]
  | cons e r ih => simp only [List.cons_append, look]; split; rfl; exact ih
theorem amFind_cmap (q : List UInt8) (l : List Cn) : amFind q (cmap l) = look l q := by
  have key : ∀ (n : Nat) (l : List Cn), l.length = n → ∀ q, amFind q (cmap l) = look l q := by
    intro n
    induction n with
    | zero => intro l hl q; simp at hl; subst hl; rfl
    | succ n ih =>
      intro l hl q
      have hne : l ≠ [] := by intro e; subst e; simp at hl
      obtain ⟨l', c, rfl⟩ : ∃ l' c, l = l' ++ [c] := ⟨l.dropLast, l.getLast hne, (List.dropLast_concat_getLast hne).symm⟩
      have hl' : l'.length = n := by simpa using hl
      rw [cmap_snoc, look_snoc, ← ih l' hl' q]
      split
      · rename_i h
        cases hq : amFind q (cmap l') with
        | some x => rfl
        | none =>
          simp only
          rw [if_neg]
          intro e
          rw [e, hq] at h
          cases h
      · exact amFind_snoc q (cmap l') (c.name, c.value)
  exact key _ l rfl q
/-- What a constant expression's value is. -/
def bnS (op : Int) (a b : Option Int) : Option Int := match a with
  | none => none
  | some a => if op == 14 && a == 0 then some 0 else if op == 15 && a != 0 then some 1 else match b with
    | none => none
    | some b => if op == 14 || op == 15 then some (tr (b != 0)) else some (binW op a b)
def unS (op : Int) (a : Option Int) : Option Int := match a with
  | none => none
  | some a => some (unW op a)
mutual
def cnE (lk : List UInt8 → Option Int) : Ex → Option Int
  | .mk k n v o a _ => if k == 1 then some v else if k == 2 then lk n else if k == 5 then unS o ((cnL lk a).getD 0 none) else if k == 6 then bnS o ((cnL lk a).getD 0 none) ((cnL lk a).getD 1 none) else none
def cnL (lk : List UInt8 → Option Int) : List Ex → List (Option Int)
  | [] => []
  | x :: r => cnE lk x :: cnL lk r
end
theorem cnE_eq (lk : List UInt8 → Option Int) (x : Ex) : cnE lk x = if x.kind == 1 then some x.value else if x.kind == 2 then lk x.name else if x.kind == 5 then unS x.op ((cnL lk x.args).getD 0 none) else if x.kind == 6 then bnS x.op ((cnL lk x.args).getD 0 none) ((cnL lk x.args).getD 1 none) else none := by
  cases x; rw [cnE]; rfl
theorem cnL_map (lk : List UInt8 → Option Int) (l : List Ex) : cnL lk l = l.map (cnE lk) := by
  induction l with
  | nil => rfl
  | cons x r ih => simp [cnL, ih]
/-- Values are words. -/
def vwE (x : Ex) : Prop := i16r x.value
mutual
def wdE : Ex → Prop
  | .mk _ _ v _ a _ => i16r v ∧ wdL a
def wdL : List Ex → Prop
  | [] => True
  | x :: r => wdE x ∧ wdL r
end
theorem wdE_eq (x : Ex) : wdE x = (i16r x.value ∧ wdL x.args) := by cases x; rw [wdE]; rfl
theorem wdL_mem {l : List Ex} (h : wdL l) {y : Ex} (hy : y ∈ l) : wdE y := by
  induction l with
  | nil => cases hy
  | cons x r ih =>
    rw [wdL] at h
    rcases List.mem_cons.1 hy with rfl | hy
    · exact h.1
    · exact ih h.2 hy
def lkOk (lk : List UInt8 → Option Int) : Prop := ∀ q v, lk q = some v → i16r v
theorem look_ok {l : List Cn} (h : ∀ c ∈ l, i16r c.value) : lkOk (look l) := by
  intro q v hv
  induction l with
  | nil => simp [look] at hv
  | cons c r ih =>
    simp only [look] at hv
    split at hv
    · injection hv with hv; subst hv; exact h c (by simp)
    · exact ih (fun d hd => h d (by simp [hd])) hv
theorem prog63 : Tryz.prog.funcs[63]? = some Tryz.f63 := by kernel_rfl
theorem holds63 (p : Pg) : Holds Tryz.prog zG 63 [.agg [.sl 3 (encCs p.consts), .sl 4 (encGs p.globals), .sl 1 (encStrs p.sensors), .sl 1 (encStrs p.outputs), .sl 3 (encHs p.channels), .sl 8 (encTs p.tasks)]] [.c (.map .i16 (cmap p.consts))] := by
  refine holds_of_body zT prog63 rfl rfl rfl (by simp [Tryz.f63]) ?_
  refine aw_ops zT fun K1 hK1 => ?_
  simp only [amset, amlib, zset, eq_self, ↓reduceIte, reduceCtorEq, Nat.reduceBEq, Nat.reduceEqDiff, Nat.reduceAdd, Nat.reduceMul, Nat.reduceLeDiff, Nat.reduceLT, Nat.reduceSub]
  refine hK1 _ ?_
  clear hK1
  refine aw_ops zT fun K2 hK2 => ?_
  simp only [amset, amlib, zset, eq_self, ↓reduceIte, reduceCtorEq, Nat.reduceBEq, Nat.reduceEqDiff, Nat.reduceAdd, Nat.reduceMul, Nat.reduceLeDiff, Nat.reduceLT, Nat.reduceSub]
  refine hK2 _ ?_
  clear hK2
  refine aw_seq fun K3 hK3 => ?_
  refine aw_ops zT fun K4 hK4 => ?_
  simp only [amset, amlib, zset, eq_self, ↓reduceIte, reduceCtorEq, Nat.reduceBEq, Nat.reduceEqDiff, Nat.reduceAdd, Nat.reduceMul, Nat.reduceLeDiff, Nat.reduceLT, Nat.reduceSub]
  intros
  refine hK4 _ ?_
  clear hK4
  refine aw_block ?_
  refine aw_range (α := Cn) (p.consts) (fun dn => True) (fun dn => [(3, .cell (.omap 8 .i16 (cmap dn))), (12, .cell (.c (.int .i64 dn.length)))]) (fun dn => []) [8] [3, 5, 6, 7, 12, 13, 14, 15, 16, 17, 18, 19, 20, 21, 22, 23, 24, 25, 26, 27, 28, 29, 30] [5] trivial ?_ ?_ ?_ ?_
  · simp only [amset, amlib, zset, eq_self, ↓reduceIte, reduceCtorEq, Nat.reduceBEq, Nat.reduceEqDiff, Nat.reduceAdd, Nat.reduceMul, Nat.reduceLeDiff, Nat.reduceLT, Nat.reduceSub] <;> simp [cmap_snoc, cmap_nil, *]
  · simp only [amset, amlib, zset, eq_self, ↓reduceIte, reduceCtorEq, Nat.reduceBEq, Nat.reduceEqDiff, Nat.reduceAdd, Nat.reduceMul, Nat.reduceLeDiff, Nat.reduceLT, Nat.reduceSub] <;> simp [cmap_snoc, cmap_nil, *]
  · intro hI R
    refine aw_norm (by simp only [amset, amlib, zset, eq_self, ↓reduceIte, reduceCtorEq, Nat.reduceBEq, Nat.reduceEqDiff, Nat.reduceAdd, Nat.reduceMul, Nat.reduceLeDiff, Nat.reduceLT, Nat.reduceSub]; exact rfl) ?_
    refine aw_ops zT fun K5 hK5 => ?_
    simp only [amset, amlib, zset, eq_self, ↓reduceIte, reduceCtorEq, Nat.reduceBEq, Nat.reduceEqDiff, Nat.reduceAdd, Nat.reduceMul, Nat.reduceLeDiff, Nat.reduceLT, Nat.reduceSub]
    refine hK5 _ ?_
    clear hK5
    refine aw_seq fun K6 hK6 => ?_
    refine aw_cond (t := false) (by simp [evalO, S.get, amLook]) (fun h => nomatch h) (fun _ => ?_)
    refine aw_exit ?_
    simp only [thenQ, blkQ, if_true, reduceIte, Nat.reduceEqDiff, eq_self]
    refine hK3 _ ?_
    clear hK3
    refine aw_ops zT fun K7 hK7 => ?_
    simp only [amset, amlib, zset, eq_self, ↓reduceIte, reduceCtorEq, Nat.reduceBEq, Nat.reduceEqDiff, Nat.reduceAdd, Nat.reduceMul, Nat.reduceLeDiff, Nat.reduceLT, Nat.reduceSub]
    refine hK7 _ ?_
    clear hK7
    refine aw_ret ?_
    show resOf zG _ [.tmp 2] = some _
    simp only [amset, amlib, zset, eq_self, ↓reduceIte, reduceCtorEq, Nat.reduceBEq, Nat.reduceEqDiff, Nat.reduceAdd, Nat.reduceMul, Nat.reduceLeDiff, Nat.reduceLT, Nat.reduceSub]
  · intro dn y td harg hI R hR
    have hl : (p.consts).length = dn.length + (td.length + 1) := by rw [harg]; simp
    have hmem : y ∈ p.consts := by rw [harg]; simp
    refine aw_norm (by simp only [amset, amlib, zset, eq_self, ↓reduceIte, reduceCtorEq, Nat.reduceBEq, Nat.reduceEqDiff, Nat.reduceAdd, Nat.reduceMul, Nat.reduceLeDiff, Nat.reduceLT, Nat.reduceSub]; exact rfl) ?_
    have hget : (encCs (p.consts)).getD dn.length [] = encC y := by rw [harg]; exact encCs_mid dn td y
    refine aw_ops zT fun K8 hK8 => ?_
    simp only [amset, amlib, zset, eq_self, ↓reduceIte, reduceCtorEq, Nat.reduceBEq, Nat.reduceEqDiff, Nat.reduceAdd, Nat.reduceMul, Nat.reduceLeDiff, Nat.reduceLT, Nat.reduceSub]
    refine hK8 _ ?_
    clear hK8
    refine aw_seq fun K9 hK9 => ?_
    refine aw_cond (t := true) (by simp [evalO, S.get, amLook]; omega) (fun _ => ?_) (fun h => nomatch h)
    refine aw_skip ?_
    simp only [thenQ, blkQ, if_true, reduceIte, Nat.reduceEqDiff, eq_self]
    refine hK9 _ ?_
    clear hK9
    refine aw_seq fun K10 hK10 => ?_
    refine aw_block ?_
    refine aw_ops zT fun K11 hK11 => ?_
    simp only [amset, amlib, zset, hget, eq_self, ↓reduceIte, reduceCtorEq, Nat.reduceBEq, Nat.reduceEqDiff, Nat.reduceAdd, Nat.reduceMul, Nat.reduceLeDiff, Nat.reduceLT, Nat.reduceSub]
    refine ⟨⟨by omega, by omega⟩, ?_⟩
    refine hK11 _ ?_
    clear hK11
    refine aw_ops zT fun K12 hK12 => ?_
    simp only [amset, amlib, zset, eq_self, ↓reduceIte, reduceCtorEq, Nat.reduceBEq, Nat.reduceEqDiff, Nat.reduceAdd, Nat.reduceMul, Nat.reduceLeDiff, Nat.reduceLT, Nat.reduceSub]
    refine hK12 _ ?_
    clear hK12
    refine aw_ops zT fun K13 hK13 => ?_
    simp only [amset, amlib, zset, eq_self, ↓reduceIte, reduceCtorEq, Nat.reduceBEq, Nat.reduceEqDiff, Nat.reduceAdd, Nat.reduceMul, Nat.reduceLeDiff, Nat.reduceLT, Nat.reduceSub]
    refine hK13 _ ?_
    clear hK13
    refine aw_cond rfl (fun h0 => ?_) (fun h0 => ?_)
    · skip
      have hn : amFind y.name (cmap dn) = none := by simpa using h0
      refine aw_region zT ?_
      simp only [amset, amlib, zset, eq_self, ↓reduceIte, reduceCtorEq, Nat.reduceBEq, Nat.reduceEqDiff, Nat.reduceAdd, Nat.reduceMul, Nat.reduceLeDiff, Nat.reduceLT, Nat.reduceSub]
      refine ⟨by simpa using h0, ?_⟩
      refine hK10 _ ?_
      clear hK10
      refine aw_region zT ?_
      simp only [amset, amlib, zset, eq_self, ↓reduceIte, reduceCtorEq, Nat.reduceBEq, Nat.reduceEqDiff, Nat.reduceAdd, Nat.reduceMul, Nat.reduceLeDiff, Nat.reduceLT, Nat.reduceSub]
      refine ⟨⟨by omega, by omega⟩, ?_⟩
      refine hR _ trivial ?_
      refine Reach.to ?_ ?_
      · simp only [amset, amlib, zset, eq_self, ↓reduceIte, reduceCtorEq, Nat.reduceBEq, Nat.reduceEqDiff, Nat.reduceAdd, Nat.reduceMul, Nat.reduceLeDiff, Nat.reduceLT, Nat.reduceSub] <;> simp [cmap_snoc, cmap_nil, *]
      · simp only [amset, amlib, zset, eq_self, ↓reduceIte, reduceCtorEq, Nat.reduceBEq, Nat.reduceEqDiff, Nat.reduceAdd, Nat.reduceMul, Nat.reduceLeDiff, Nat.reduceLT, Nat.reduceSub] <;> simp [cmap_snoc, cmap_nil, *]
    · skip
      have hn : amFind y.name (cmap dn) ≠ none := by intro e; rw [e] at h0; cases h0
      refine aw_skip ?_
      simp only [thenQ, blkQ, if_true, reduceIte, Nat.reduceEqDiff, eq_self]
      refine hK10 _ ?_
      clear hK10
      refine aw_region zT ?_
      simp only [amset, amlib, zset, eq_self, ↓reduceIte, reduceCtorEq, Nat.reduceBEq, Nat.reduceEqDiff, Nat.reduceAdd, Nat.reduceMul, Nat.reduceLeDiff, Nat.reduceLT, Nat.reduceSub]
      refine ⟨⟨by omega, by omega⟩, ?_⟩
      refine hR _ trivial ?_
      refine Reach.to ?_ ?_
      · simp only [amset, amlib, zset, eq_self, ↓reduceIte, reduceCtorEq, Nat.reduceBEq, Nat.reduceEqDiff, Nat.reduceAdd, Nat.reduceMul, Nat.reduceLeDiff, Nat.reduceLT, Nat.reduceSub] <;> simp [cmap_snoc, cmap_nil, *]
      · simp only [amset, amlib, zset, eq_self, ↓reduceIte, reduceCtorEq, Nat.reduceBEq, Nat.reduceEqDiff, Nat.reduceAdd, Nat.reduceMul, Nat.reduceLeDiff, Nat.reduceLT, Nat.reduceSub] <;> simp [cmap_snoc, cmap_nil, *]
end Go.Proofs.Am
set_option maxRecDepth 100000
set_option maxHeartbeats 4000000
namespace Go.Proofs.Am
theorem encEs_getD (l : List Ex) (n : Nat) (h : n < l.length) : (encEs l).getD n [] = encE l[n] := by
  rw [encEs_map, List.getD_eq_getElem?_getD, List.getElem?_map, List.getElem?_eq_getElem h]; rfl
theorem cnL_getD (lk : List UInt8 → Option Int) (l : List Ex) (n : Nat) (h : n < l.length) : (cnL lk l).getD n none = cnE lk l[n] := by
  rw [cnL_map, List.getD_eq_getElem?_getD, List.getElem?_map, List.getElem?_eq_getElem h]; rfl
/-- Enough arguments for the kind. -/
def arE (x : Ex) : Prop := (x.kind = 5 → 1 ≤ x.args.length) ∧ (x.kind = 6 → 2 ≤ x.args.length)
mutual
def okE : Ex → Prop
  | .mk k _ _ _ a _ => ((k = 5 → 1 ≤ a.length) ∧ (k = 6 → 2 ≤ a.length) ∧ (k = 3 → 1 ≤ a.length)) ∧ okL a
def okL : List Ex → Prop
  | [] => True
  | x :: r => okE x ∧ okL r
end
theorem okE_eq (x : Ex) : okE x = (((x.kind = 5 → 1 ≤ x.args.length) ∧ (x.kind = 6 → 2 ≤ x.args.length) ∧ (x.kind = 3 → 1 ≤ x.args.length)) ∧ okL x.args) := by cases x; rw [okE]; rfl
theorem okL_mem {l : List Ex} (h : okL l) {y : Ex} (hy : y ∈ l) : okE y := by
  induction l with
  | nil => cases hy
  | cons x r ih =>
    rw [okL] at h
    rcases List.mem_cons.1 hy with rfl | hy
    · exact h.1
    · exact ih h.2 hy
theorem prog75 : Tryz.prog.funcs[75]? = some Tryz.f75 := by kernel_rfl
theorem step75 (es : List (List UInt8 × Int)) (x : Ex) (hx : okE x) (ih : (∀ y ∈ x.args, Holds Tryz.prog zG 75 [.agg [.map .i16 es], .agg [.int .i64 y.kind, .str y.name, .int .i16 y.value, .int .i64 y.op, .sl 6 (encEs y.args), .int .i64 y.pos]] [.c (.int .i16 ((cnE (fun q => amFind q es) y).getD 0)), .c (.bool (cnE (fun q => amFind q es) y).isSome)])) (ihb : x.kind = 6 → Holds Tryz.prog zG 150 [.agg [.map .i16 es], .agg [.int .i64 x.kind, .str x.name, .int .i16 x.value, .int .i64 x.op, .sl 6 (encEs x.args), .int .i64 x.pos]] [.c (.int .i16 ((bnS x.op ((cnL (fun q => amFind q es) x.args).getD 0 none) ((cnL (fun q => amFind q es) x.args).getD 1 none)).getD 0)), .c (.bool (bnS x.op ((cnL (fun q => amFind q es) x.args).getD 0 none) ((cnL (fun q => amFind q es) x.args).getD 1 none)).isSome)]) : Holds Tryz.prog zG 75 [.agg [.map .i16 es], .agg [.int .i64 x.kind, .str x.name, .int .i16 x.value, .int .i64 x.op, .sl 6 (encEs x.args), .int .i64 x.pos]] [.c (.int .i16 ((cnE (fun q => amFind q es) x).getD 0)), .c (.bool (cnE (fun q => amFind q es) x).isSome)] := by
  refine holds_of_body zT prog75 rfl rfl rfl (by simp [Tryz.f75]) ?_
  refine aw_ops zT fun K1 hK1 => ?_
  simp only [amset, amlib, zset, eq_self, ↓reduceIte, reduceCtorEq, Nat.reduceBEq, Nat.reduceEqDiff, Nat.reduceAdd, Nat.reduceMul, Nat.reduceLeDiff, Nat.reduceLT, Nat.reduceSub]
  refine hK1 _ ?_
  clear hK1
  refine aw_seq fun K2 hK2 => ?_
  refine aw_ops zT fun K3 hK3 => ?_
  simp only [amset, amlib, zset, eq_self, ↓reduceIte, reduceCtorEq, Nat.reduceBEq, Nat.reduceEqDiff, Nat.reduceAdd, Nat.reduceMul, Nat.reduceLeDiff, Nat.reduceLT, Nat.reduceSub]
  refine hK3 _ ?_
  clear hK3
  refine aw_block ?_
  refine aw_ops zT fun K4 hK4 => ?_
  simp only [amset, amlib, zset, eq_self, ↓reduceIte, reduceCtorEq, Nat.reduceBEq, Nat.reduceEqDiff, Nat.reduceAdd, Nat.reduceMul, Nat.reduceLeDiff, Nat.reduceLT, Nat.reduceSub]
  refine hK4 _ ?_
  clear hK4
  refine aw_cond rfl (fun h0 => ?_) (fun h0 => ?_)
  · skip
    refine aw_ops zT fun K5 hK5 => ?_
    simp only [amset, amlib, zset, eq_self, ↓reduceIte, reduceCtorEq, Nat.reduceBEq, Nat.reduceEqDiff, Nat.reduceAdd, Nat.reduceMul, Nat.reduceLeDiff, Nat.reduceLT, Nat.reduceSub]
    refine hK5 _ ?_
    clear hK5
    refine aw_ret ?_
    show resOf zG _ [.tmp 4, .tmp 5] = some _
    simp only [amset, amlib, zset, eq_self, ↓reduceIte, reduceCtorEq, Nat.reduceBEq, Nat.reduceEqDiff, Nat.reduceAdd, Nat.reduceMul, Nat.reduceLeDiff, Nat.reduceLT, Nat.reduceSub]
    rw [cnE_eq _ x]
    simp only [h0, ↓reduceIte, Bool.false_eq_true]
    rfl
  · skip
    refine aw_ops zT fun K6 hK6 => ?_
    simp only [amset, amlib, zset, eq_self, ↓reduceIte, reduceCtorEq, Nat.reduceBEq, Nat.reduceEqDiff, Nat.reduceAdd, Nat.reduceMul, Nat.reduceLeDiff, Nat.reduceLT, Nat.reduceSub]
    refine hK6 _ ?_
    clear hK6
    refine aw_cond rfl (fun h1 => ?_) (fun h1 => ?_)
    · skip
      refine aw_ops zT fun K7 hK7 => ?_
      simp only [amset, amlib, zset, eq_self, ↓reduceIte, reduceCtorEq, Nat.reduceBEq, Nat.reduceEqDiff, Nat.reduceAdd, Nat.reduceMul, Nat.reduceLeDiff, Nat.reduceLT, Nat.reduceSub]
      refine hK7 _ ?_
      clear hK7
      refine aw_ops zT fun K8 hK8 => ?_
      simp only [amset, amlib, zset, eq_self, ↓reduceIte, reduceCtorEq, Nat.reduceBEq, Nat.reduceEqDiff, Nat.reduceAdd, Nat.reduceMul, Nat.reduceLeDiff, Nat.reduceLT, Nat.reduceSub]
      refine hK8 _ ?_
      clear hK8
      refine aw_ret ?_
      show resOf zG _ [.tmp 4, .tmp 5] = some _
      simp only [amset, amlib, zset, eq_self, ↓reduceIte, reduceCtorEq, Nat.reduceBEq, Nat.reduceEqDiff, Nat.reduceAdd, Nat.reduceMul, Nat.reduceLeDiff, Nat.reduceLT, Nat.reduceSub]
      rw [cnE_eq _ x]
      simp only [h0, h1, ↓reduceIte, Bool.false_eq_true]
    · skip
      refine aw_ops zT fun K9 hK9 => ?_
      simp only [amset, amlib, zset, eq_self, ↓reduceIte, reduceCtorEq, Nat.reduceBEq, Nat.reduceEqDiff, Nat.reduceAdd, Nat.reduceMul, Nat.reduceLeDiff, Nat.reduceLT, Nat.reduceSub]
      refine hK9 _ ?_
      clear hK9
      refine aw_cond rfl (fun h2 => ?_) (fun h2 => ?_)
      · skip
        have hk : x.kind = 5 := by simpa using h2
        have hlen : 1 ≤ x.args.length := (okE_eq x ▸ hx).1.1 hk
        have hget : (encEs x.args).getD (Int.toNat 0) [] = encE x.args[0] := encEs_getD _ 0 (by omega)
        have hcn : (cnL (fun q => amFind q es) x.args).getD 0 none = cnE (fun q => amFind q es) x.args[0] := cnL_getD _ _ 0 (by omega)
        refine aw_draw zT prog_mixed fun K10 hK10 => ?_
        simp only [amset, amlib, zset, hget, eq_self, ↓reduceIte, reduceCtorEq, Nat.reduceBEq, Nat.reduceEqDiff, Nat.reduceAdd, Nat.reduceMul, Nat.reduceLeDiff, Nat.reduceLT, Nat.reduceSub]
        refine ⟨⟨by omega, by omega⟩, ?_⟩
        refine ⟨_, ih _ (List.getElem_mem (h := by omega)), ?_⟩
        simp only [later]
        simp only [amset, amlib, zset, eq_self, ↓reduceIte, reduceCtorEq, Nat.reduceBEq, Nat.reduceEqDiff, Nat.reduceAdd, Nat.reduceMul, Nat.reduceLeDiff, Nat.reduceLT, Nat.reduceSub]
        refine ⟨by kernel_rfl, ?_⟩
        refine hK10 _ ?_
        clear hK10
        refine aw_seq fun K11 hK11 => ?_
        refine aw_ops zT fun K12 hK12 => ?_
        simp only [amset, amlib, zset, eq_self, ↓reduceIte, reduceCtorEq, Nat.reduceBEq, Nat.reduceEqDiff, Nat.reduceAdd, Nat.reduceMul, Nat.reduceLeDiff, Nat.reduceLT, Nat.reduceSub]
        refine hK12 _ ?_
        clear hK12
        refine aw_cond rfl (fun h3 => ?_) (fun h3 => ?_)
        · skip
          refine aw_ops zT fun K13 hK13 => ?_
          simp only [amset, amlib, zset, eq_self, ↓reduceIte, reduceCtorEq, Nat.reduceBEq, Nat.reduceEqDiff, Nat.reduceAdd, Nat.reduceMul, Nat.reduceLeDiff, Nat.reduceLT, Nat.reduceSub]
          refine hK13 _ ?_
          clear hK13
          refine aw_ret ?_
          show resOf zG _ [.tmp 4, .tmp 5] = some _
          simp only [amset, amlib, zset, eq_self, ↓reduceIte, reduceCtorEq, Nat.reduceBEq, Nat.reduceEqDiff, Nat.reduceAdd, Nat.reduceMul, Nat.reduceLeDiff, Nat.reduceLT, Nat.reduceSub]
          rw [cnE_eq _ x]
          simp only [h0, h1, h2, hcn, ↓reduceIte, Bool.false_eq_true]
          cases hv : cnE (fun q => amFind q es) x.args[0] with
          | none => rfl
          | some v => rw [hv] at h3; cases h3
        · skip
          refine aw_skip ?_
          simp only [thenQ, blkQ, if_true, reduceIte, Nat.reduceEqDiff, eq_self]
          refine hK11 _ ?_
          clear hK11
          refine aw_ops zT fun K14 hK14 => ?_
          simp only [amset, amlib, zset, eq_self, ↓reduceIte, reduceCtorEq, Nat.reduceBEq, Nat.reduceEqDiff, Nat.reduceAdd, Nat.reduceMul, Nat.reduceLeDiff, Nat.reduceLT, Nat.reduceSub]
          refine ⟨_, holds149 _ _, ?_⟩
          simp only [later]
          simp only [amset, amlib, zset, eq_self, ↓reduceIte, reduceCtorEq, Nat.reduceBEq, Nat.reduceEqDiff, Nat.reduceAdd, Nat.reduceMul, Nat.reduceLeDiff, Nat.reduceLT, Nat.reduceSub]
          refine hK14 _ ?_
          clear hK14
          refine aw_ops zT fun K15 hK15 => ?_
          simp only [amset, amlib, zset, eq_self, ↓reduceIte, reduceCtorEq, Nat.reduceBEq, Nat.reduceEqDiff, Nat.reduceAdd, Nat.reduceMul, Nat.reduceLeDiff, Nat.reduceLT, Nat.reduceSub]
          refine hK15 _ ?_
          clear hK15
          refine aw_ret ?_
          show resOf zG _ [.tmp 4, .tmp 5] = some _
          simp only [amset, amlib, zset, eq_self, ↓reduceIte, reduceCtorEq, Nat.reduceBEq, Nat.reduceEqDiff, Nat.reduceAdd, Nat.reduceMul, Nat.reduceLeDiff, Nat.reduceLT, Nat.reduceSub]
          rw [cnE_eq _ x]
          simp only [h0, h1, h2, hcn, ↓reduceIte, Bool.false_eq_true]
          cases hv : cnE (fun q => amFind q es) x.args[0] with
          | none => rw [hv] at h3; cases h3
          | some v => rfl
      · skip
        refine aw_ops zT fun K16 hK16 => ?_
        simp only [amset, amlib, zset, eq_self, ↓reduceIte, reduceCtorEq, Nat.reduceBEq, Nat.reduceEqDiff, Nat.reduceAdd, Nat.reduceMul, Nat.reduceLeDiff, Nat.reduceLT, Nat.reduceSub]
        refine hK16 _ ?_
        clear hK16
        refine aw_cond rfl (fun h4 => ?_) (fun h4 => ?_)
        · skip
          refine aw_ops zT fun K17 hK17 => ?_
          simp only [amset, amlib, zset, eq_self, ↓reduceIte, reduceCtorEq, Nat.reduceBEq, Nat.reduceEqDiff, Nat.reduceAdd, Nat.reduceMul, Nat.reduceLeDiff, Nat.reduceLT, Nat.reduceSub]
          refine ⟨_, ihb (by simpa using h4), ?_⟩
          simp only [later]
          simp only [amset, amlib, zset, eq_self, ↓reduceIte, reduceCtorEq, Nat.reduceBEq, Nat.reduceEqDiff, Nat.reduceAdd, Nat.reduceMul, Nat.reduceLeDiff, Nat.reduceLT, Nat.reduceSub]
          refine hK17 _ ?_
          clear hK17
          refine aw_ret ?_
          show resOf zG _ [.tmp 4, .tmp 5] = some _
          simp only [amset, amlib, zset, eq_self, ↓reduceIte, reduceCtorEq, Nat.reduceBEq, Nat.reduceEqDiff, Nat.reduceAdd, Nat.reduceMul, Nat.reduceLeDiff, Nat.reduceLT, Nat.reduceSub]
          rw [cnE_eq _ x]
          simp only [h0, h1, h2, h4, ↓reduceIte, Bool.false_eq_true]
        · skip
          refine aw_skip ?_
          simp only [thenQ, blkQ, if_true, reduceIte, Nat.reduceEqDiff, eq_self]
          refine hK2 _ ?_
          clear hK2
          refine aw_ops zT fun K18 hK18 => ?_
          simp only [amset, amlib, zset, eq_self, ↓reduceIte, reduceCtorEq, Nat.reduceBEq, Nat.reduceEqDiff, Nat.reduceAdd, Nat.reduceMul, Nat.reduceLeDiff, Nat.reduceLT, Nat.reduceSub]
          refine hK18 _ ?_
          clear hK18
          refine aw_ret ?_
          show resOf zG _ [.tmp 4, .tmp 5] = some _
          simp only [amset, amlib, zset, eq_self, ↓reduceIte, reduceCtorEq, Nat.reduceBEq, Nat.reduceEqDiff, Nat.reduceAdd, Nat.reduceMul, Nat.reduceLeDiff, Nat.reduceLT, Nat.reduceSub]
          rw [cnE_eq _ x]
          simp only [h0, h1, h2, h4, ↓reduceIte, Bool.false_eq_true]
          rfl
theorem prog150 : Tryz.prog.funcs[150]? = some Tryz.f150 := by kernel_rfl
theorem step150 (es : List (List UInt8 × Int)) (x : Ex) (hlen : 2 ≤ x.args.length) (ih : (∀ y ∈ x.args, Holds Tryz.prog zG 75 [.agg [.map .i16 es], .agg [.int .i64 y.kind, .str y.name, .int .i16 y.value, .int .i64 y.op, .sl 6 (encEs y.args), .int .i64 y.pos]] [.c (.int .i16 ((cnE (fun q => amFind q es) y).getD 0)), .c (.bool (cnE (fun q => amFind q es) y).isSome)])) : Holds Tryz.prog zG 150 [.agg [.map .i16 es], .agg [.int .i64 x.kind, .str x.name, .int .i16 x.value, .int .i64 x.op, .sl 6 (encEs x.args), .int .i64 x.pos]] [.c (.int .i16 ((bnS x.op ((cnL (fun q => amFind q es) x.args).getD 0 none) ((cnL (fun q => amFind q es) x.args).getD 1 none)).getD 0)), .c (.bool (bnS x.op ((cnL (fun q => amFind q es) x.args).getD 0 none) ((cnL (fun q => amFind q es) x.args).getD 1 none)).isSome)] := by
  refine holds_of_body zT prog150 rfl rfl rfl (by simp [Tryz.f150]) ?_
  refine aw_ops zT fun K1 hK1 => ?_
  simp only [amset, amlib, zset, eq_self, ↓reduceIte, reduceCtorEq, Nat.reduceBEq, Nat.reduceEqDiff, Nat.reduceAdd, Nat.reduceMul, Nat.reduceLeDiff, Nat.reduceLT, Nat.reduceSub]
  refine hK1 _ ?_
  clear hK1
  have hget : (encEs x.args).getD (Int.toNat 0) [] = encE x.args[0] := encEs_getD _ 0 (by omega)
  have hcn : (cnL (fun q => amFind q es) x.args).getD 0 none = cnE (fun q => amFind q es) x.args[0] := cnL_getD _ _ 0 (by omega)
  have hget1 : (encEs x.args).getD (Int.toNat 1) [] = encE x.args[1] := encEs_getD _ 1 (by omega)
  have hcn1 : (cnL (fun q => amFind q es) x.args).getD 1 none = cnE (fun q => amFind q es) x.args[1] := cnL_getD _ _ 1 (by omega)
  refine aw_draw zT prog_mixed fun K2 hK2 => ?_
  simp only [amset, amlib, zset, hget, eq_self, ↓reduceIte, reduceCtorEq, Nat.reduceBEq, Nat.reduceEqDiff, Nat.reduceAdd, Nat.reduceMul, Nat.reduceLeDiff, Nat.reduceLT, Nat.reduceSub]
  refine ⟨⟨by omega, by omega⟩, ?_⟩
  refine ⟨_, ih _ (List.getElem_mem (h := by omega)), ?_⟩
  simp only [later]
  simp only [amset, amlib, zset, eq_self, ↓reduceIte, reduceCtorEq, Nat.reduceBEq, Nat.reduceEqDiff, Nat.reduceAdd, Nat.reduceMul, Nat.reduceLeDiff, Nat.reduceLT, Nat.reduceSub]
  refine ⟨by kernel_rfl, ?_⟩
  refine hK2 _ ?_
  clear hK2
  refine aw_seq fun K3 hK3 => ?_
  refine aw_ops zT fun K4 hK4 => ?_
  simp only [amset, amlib, zset, eq_self, ↓reduceIte, reduceCtorEq, Nat.reduceBEq, Nat.reduceEqDiff, Nat.reduceAdd, Nat.reduceMul, Nat.reduceLeDiff, Nat.reduceLT, Nat.reduceSub]
  refine hK4 _ ?_
  clear hK4
  refine aw_cond rfl (fun h0 => ?_) (fun h0 => ?_)
  · skip
    refine aw_ops zT fun K5 hK5 => ?_
    simp only [amset, amlib, zset, eq_self, ↓reduceIte, reduceCtorEq, Nat.reduceBEq, Nat.reduceEqDiff, Nat.reduceAdd, Nat.reduceMul, Nat.reduceLeDiff, Nat.reduceLT, Nat.reduceSub]
    refine hK5 _ ?_
    clear hK5
    refine aw_ret ?_
    show resOf zG _ [.tmp 4, .tmp 5] = some _
    simp only [amset, amlib, zset, eq_self, ↓reduceIte, reduceCtorEq, Nat.reduceBEq, Nat.reduceEqDiff, Nat.reduceAdd, Nat.reduceMul, Nat.reduceLeDiff, Nat.reduceLT, Nat.reduceSub]
    rw [hcn, hcn1]
    revert h0
    generalize cnE (fun q => amFind q es) x.args[0] = u
    generalize cnE (fun q => amFind q es) x.args[1] = v
    cases u <;> cases v <;> simp +contextual [bnS]
  · skip
    refine aw_skip ?_
    simp only [thenQ, blkQ, if_true, reduceIte, Nat.reduceEqDiff, eq_self]
    refine hK3 _ ?_
    clear hK3
    refine aw_seq fun K6 hK6 => ?_
    refine aw_block ?_
    refine aw_ops zT fun K7 hK7 => ?_
    cases e0 : (x.op == 14) with
    | true =>
      simp only [amset, amlib, zset, e0, eq_self, ↓reduceIte, reduceCtorEq, Nat.reduceBEq, Nat.reduceEqDiff, Nat.reduceAdd, Nat.reduceMul, Nat.reduceLeDiff, Nat.reduceLT, Nat.reduceSub]
      refine hK7 _ ?_
      clear hK7
      refine aw_cond rfl (fun h1 => ?_) (fun h1 => ?_)
      · skip
        refine aw_ops zT fun K8 hK8 => ?_
        simp only [amset, amlib, zset, eq_self, ↓reduceIte, reduceCtorEq, Nat.reduceBEq, Nat.reduceEqDiff, Nat.reduceAdd, Nat.reduceMul, Nat.reduceLeDiff, Nat.reduceLT, Nat.reduceSub]
        refine hK8 _ ?_
        clear hK8
        refine aw_ret ?_
        show resOf zG _ [.tmp 4, .tmp 5] = some _
        simp only [amset, amlib, zset, eq_self, ↓reduceIte, reduceCtorEq, Nat.reduceBEq, Nat.reduceEqDiff, Nat.reduceAdd, Nat.reduceMul, Nat.reduceLeDiff, Nat.reduceLT, Nat.reduceSub]
        rw [hcn, hcn1]
        revert e0 h0 h1
        generalize cnE (fun q => amFind q es) x.args[0] = u
        generalize cnE (fun q => amFind q es) x.args[1] = v
        cases u <;> cases v <;> simp +contextual [bnS]
      · skip
        refine aw_ops zT fun K9 hK9 => ?_
        cases e1 : (x.op == 15) with
        | true =>
          simp only [amset, amlib, zset, e0, e1, eq_self, ↓reduceIte, reduceCtorEq, Nat.reduceBEq, Nat.reduceEqDiff, Nat.reduceAdd, Nat.reduceMul, Nat.reduceLeDiff, Nat.reduceLT, Nat.reduceSub]
          refine hK9 _ ?_
          clear hK9
          refine aw_cond rfl (fun h2 => ?_) (fun h2 => ?_)
          · skip
            refine aw_ops zT fun K10 hK10 => ?_
            simp only [amset, amlib, zset, eq_self, ↓reduceIte, reduceCtorEq, Nat.reduceBEq, Nat.reduceEqDiff, Nat.reduceAdd, Nat.reduceMul, Nat.reduceLeDiff, Nat.reduceLT, Nat.reduceSub]
            refine hK10 _ ?_
            clear hK10
            refine aw_ret ?_
            show resOf zG _ [.tmp 4, .tmp 5] = some _
            simp only [amset, amlib, zset, eq_self, ↓reduceIte, reduceCtorEq, Nat.reduceBEq, Nat.reduceEqDiff, Nat.reduceAdd, Nat.reduceMul, Nat.reduceLeDiff, Nat.reduceLT, Nat.reduceSub]
            rw [hcn, hcn1]
            revert e0 e1 h0 h1 h2
            generalize cnE (fun q => amFind q es) x.args[0] = u
            generalize cnE (fun q => amFind q es) x.args[1] = v
            cases u <;> cases v <;> simp +contextual [bnS]
          · skip
            refine aw_skip ?_
            simp only [thenQ, blkQ, if_true, reduceIte, Nat.reduceEqDiff, eq_self]
            refine hK6 _ ?_
            clear hK6
            refine aw_draw zT prog_mixed fun K11 hK11 => ?_
            simp only [amset, amlib, zset, hget1, eq_self, ↓reduceIte, reduceCtorEq, Nat.reduceBEq, Nat.reduceEqDiff, Nat.reduceAdd, Nat.reduceMul, Nat.reduceLeDiff, Nat.reduceLT, Nat.reduceSub]
            refine ⟨⟨by omega, by omega⟩, ?_⟩
            refine ⟨_, ih _ (List.getElem_mem (h := by omega)), ?_⟩
            simp only [later]
            simp only [amset, amlib, zset, eq_self, ↓reduceIte, reduceCtorEq, Nat.reduceBEq, Nat.reduceEqDiff, Nat.reduceAdd, Nat.reduceMul, Nat.reduceLeDiff, Nat.reduceLT, Nat.reduceSub]
            refine ⟨by kernel_rfl, ?_⟩
            refine hK11 _ ?_
            clear hK11
            refine aw_seq fun K12 hK12 => ?_
            refine aw_ops zT fun K13 hK13 => ?_
            simp only [amset, amlib, zset, eq_self, ↓reduceIte, reduceCtorEq, Nat.reduceBEq, Nat.reduceEqDiff, Nat.reduceAdd, Nat.reduceMul, Nat.reduceLeDiff, Nat.reduceLT, Nat.reduceSub]
            refine hK13 _ ?_
            clear hK13
            refine aw_cond rfl (fun h3 => ?_) (fun h3 => ?_)
            · skip
              refine aw_ops zT fun K14 hK14 => ?_
              simp only [amset, amlib, zset, eq_self, ↓reduceIte, reduceCtorEq, Nat.reduceBEq, Nat.reduceEqDiff, Nat.reduceAdd, Nat.reduceMul, Nat.reduceLeDiff, Nat.reduceLT, Nat.reduceSub]
              refine hK14 _ ?_
              clear hK14
              refine aw_ret ?_
              show resOf zG _ [.tmp 4, .tmp 5] = some _
              simp only [amset, amlib, zset, eq_self, ↓reduceIte, reduceCtorEq, Nat.reduceBEq, Nat.reduceEqDiff, Nat.reduceAdd, Nat.reduceMul, Nat.reduceLeDiff, Nat.reduceLT, Nat.reduceSub]
              rw [hcn, hcn1]
              revert e0 e1 h0 h1 h2 h3
              generalize cnE (fun q => amFind q es) x.args[0] = u
              generalize cnE (fun q => amFind q es) x.args[1] = v
              cases u <;> cases v <;> simp +contextual [bnS]
            · skip
              refine aw_skip ?_
              simp only [thenQ, blkQ, if_true, reduceIte, Nat.reduceEqDiff, eq_self]
              refine hK12 _ ?_
              clear hK12
              refine aw_seq fun K15 hK15 => ?_
              refine aw_ops zT fun K16 hK16 => ?_
              simp only [amset, amlib, zset, e0, e1, eq_self, ↓reduceIte, reduceCtorEq, Nat.reduceBEq, Nat.reduceEqDiff, Nat.reduceAdd, Nat.reduceMul, Nat.reduceLeDiff, Nat.reduceLT, Nat.reduceSub]
              refine hK16 _ ?_
              clear hK16
              refine aw_cond (t := true) rfl (fun _ => ?_) (fun h => nomatch h)
              refine aw_ops zT fun K17 hK17 => ?_
              simp only [amset, amlib, zset, eq_self, ↓reduceIte, reduceCtorEq, Nat.reduceBEq, Nat.reduceEqDiff, Nat.reduceAdd, Nat.reduceMul, Nat.reduceLeDiff, Nat.reduceLT, Nat.reduceSub]
              refine ⟨_, holds196 _, ?_⟩
              simp only [later]
              simp only [amset, amlib, zset, eq_self, ↓reduceIte, reduceCtorEq, Nat.reduceBEq, Nat.reduceEqDiff, Nat.reduceAdd, Nat.reduceMul, Nat.reduceLeDiff, Nat.reduceLT, Nat.reduceSub]
              refine hK17 _ ?_
              clear hK17
              refine aw_ret ?_
              show resOf zG _ [.tmp 4, .tmp 5] = some _
              simp only [amset, amlib, zset, eq_self, ↓reduceIte, reduceCtorEq, Nat.reduceBEq, Nat.reduceEqDiff, Nat.reduceAdd, Nat.reduceMul, Nat.reduceLeDiff, Nat.reduceLT, Nat.reduceSub]
              rw [hcn, hcn1]
              revert e0 e1 h0 h1 h2 h3
              generalize cnE (fun q => amFind q es) x.args[0] = u
              generalize cnE (fun q => amFind q es) x.args[1] = v
              cases u <;> cases v <;> simp +contextual [bnS]
        | false =>
          simp only [amset, amlib, zset, e0, e1, eq_self, ↓reduceIte, reduceCtorEq, Nat.reduceBEq, Nat.reduceEqDiff, Nat.reduceAdd, Nat.reduceMul, Nat.reduceLeDiff, Nat.reduceLT, Nat.reduceSub]
          refine hK9 _ ?_
          clear hK9
          refine aw_cond (t := false) rfl (fun h => nomatch h) (fun _ => ?_)
          refine aw_skip ?_
          simp only [thenQ, blkQ, if_true, reduceIte, Nat.reduceEqDiff, eq_self]
          refine hK6 _ ?_
          clear hK6
          refine aw_draw zT prog_mixed fun K18 hK18 => ?_
          simp only [amset, amlib, zset, hget1, eq_self, ↓reduceIte, reduceCtorEq, Nat.reduceBEq, Nat.reduceEqDiff, Nat.reduceAdd, Nat.reduceMul, Nat.reduceLeDiff, Nat.reduceLT, Nat.reduceSub]
          refine ⟨⟨by omega, by omega⟩, ?_⟩
          refine ⟨_, ih _ (List.getElem_mem (h := by omega)), ?_⟩
          simp only [later]
          simp only [amset, amlib, zset, eq_self, ↓reduceIte, reduceCtorEq, Nat.reduceBEq, Nat.reduceEqDiff, Nat.reduceAdd, Nat.reduceMul, Nat.reduceLeDiff, Nat.reduceLT, Nat.reduceSub]
          refine ⟨by kernel_rfl, ?_⟩
          refine hK18 _ ?_
          clear hK18
          refine aw_seq fun K19 hK19 => ?_
          refine aw_ops zT fun K20 hK20 => ?_
          simp only [amset, amlib, zset, eq_self, ↓reduceIte, reduceCtorEq, Nat.reduceBEq, Nat.reduceEqDiff, Nat.reduceAdd, Nat.reduceMul, Nat.reduceLeDiff, Nat.reduceLT, Nat.reduceSub]
          refine hK20 _ ?_
          clear hK20
          refine aw_cond rfl (fun h2 => ?_) (fun h2 => ?_)
          · skip
            refine aw_ops zT fun K21 hK21 => ?_
            simp only [amset, amlib, zset, eq_self, ↓reduceIte, reduceCtorEq, Nat.reduceBEq, Nat.reduceEqDiff, Nat.reduceAdd, Nat.reduceMul, Nat.reduceLeDiff, Nat.reduceLT, Nat.reduceSub]
            refine hK21 _ ?_
            clear hK21
            refine aw_ret ?_
            show resOf zG _ [.tmp 4, .tmp 5] = some _
            simp only [amset, amlib, zset, eq_self, ↓reduceIte, reduceCtorEq, Nat.reduceBEq, Nat.reduceEqDiff, Nat.reduceAdd, Nat.reduceMul, Nat.reduceLeDiff, Nat.reduceLT, Nat.reduceSub]
            rw [hcn, hcn1]
            revert e0 e1 h0 h1 h2
            generalize cnE (fun q => amFind q es) x.args[0] = u
            generalize cnE (fun q => amFind q es) x.args[1] = v
            cases u <;> cases v <;> simp +contextual [bnS]
          · skip
            refine aw_skip ?_
            simp only [thenQ, blkQ, if_true, reduceIte, Nat.reduceEqDiff, eq_self]
            refine hK19 _ ?_
            clear hK19
            refine aw_seq fun K22 hK22 => ?_
            refine aw_ops zT fun K23 hK23 => ?_
            simp only [amset, amlib, zset, e0, e1, eq_self, ↓reduceIte, reduceCtorEq, Nat.reduceBEq, Nat.reduceEqDiff, Nat.reduceAdd, Nat.reduceMul, Nat.reduceLeDiff, Nat.reduceLT, Nat.reduceSub]
            refine hK23 _ ?_
            clear hK23
            refine aw_cond (t := true) rfl (fun _ => ?_) (fun h => nomatch h)
            refine aw_ops zT fun K24 hK24 => ?_
            simp only [amset, amlib, zset, eq_self, ↓reduceIte, reduceCtorEq, Nat.reduceBEq, Nat.reduceEqDiff, Nat.reduceAdd, Nat.reduceMul, Nat.reduceLeDiff, Nat.reduceLT, Nat.reduceSub]
            refine ⟨_, holds196 _, ?_⟩
            simp only [later]
            simp only [amset, amlib, zset, eq_self, ↓reduceIte, reduceCtorEq, Nat.reduceBEq, Nat.reduceEqDiff, Nat.reduceAdd, Nat.reduceMul, Nat.reduceLeDiff, Nat.reduceLT, Nat.reduceSub]
            refine hK24 _ ?_
            clear hK24
            refine aw_ret ?_
            show resOf zG _ [.tmp 4, .tmp 5] = some _
            simp only [amset, amlib, zset, eq_self, ↓reduceIte, reduceCtorEq, Nat.reduceBEq, Nat.reduceEqDiff, Nat.reduceAdd, Nat.reduceMul, Nat.reduceLeDiff, Nat.reduceLT, Nat.reduceSub]
            rw [hcn, hcn1]
            revert e0 e1 h0 h1 h2
            generalize cnE (fun q => amFind q es) x.args[0] = u
            generalize cnE (fun q => amFind q es) x.args[1] = v
            cases u <;> cases v <;> simp +contextual [bnS]
    | false =>
      simp only [amset, amlib, zset, e0, eq_self, ↓reduceIte, reduceCtorEq, Nat.reduceBEq, Nat.reduceEqDiff, Nat.reduceAdd, Nat.reduceMul, Nat.reduceLeDiff, Nat.reduceLT, Nat.reduceSub]
      refine hK7 _ ?_
      clear hK7
      refine aw_cond (t := false) rfl (fun h => nomatch h) (fun _ => ?_)
      refine aw_ops zT fun K25 hK25 => ?_
      cases e1 : (x.op == 15) with
      | true =>
        simp only [amset, amlib, zset, e0, e1, eq_self, ↓reduceIte, reduceCtorEq, Nat.reduceBEq, Nat.reduceEqDiff, Nat.reduceAdd, Nat.reduceMul, Nat.reduceLeDiff, Nat.reduceLT, Nat.reduceSub]
        refine hK25 _ ?_
        clear hK25
        refine aw_cond rfl (fun h1 => ?_) (fun h1 => ?_)
        · skip
          refine aw_ops zT fun K26 hK26 => ?_
          simp only [amset, amlib, zset, eq_self, ↓reduceIte, reduceCtorEq, Nat.reduceBEq, Nat.reduceEqDiff, Nat.reduceAdd, Nat.reduceMul, Nat.reduceLeDiff, Nat.reduceLT, Nat.reduceSub]
          refine hK26 _ ?_
          clear hK26
          refine aw_ret ?_
          show resOf zG _ [.tmp 4, .tmp 5] = some _
          simp only [amset, amlib, zset, eq_self, ↓reduceIte, reduceCtorEq, Nat.reduceBEq, Nat.reduceEqDiff, Nat.reduceAdd, Nat.reduceMul, Nat.reduceLeDiff, Nat.reduceLT, Nat.reduceSub]
          rw [hcn, hcn1]
          revert e0 e1 h0 h1
          generalize cnE (fun q => amFind q es) x.args[0] = u
          generalize cnE (fun q => amFind q es) x.args[1] = v
          cases u <;> cases v <;> simp +contextual [bnS]
        · skip
          refine aw_skip ?_
          simp only [thenQ, blkQ, if_true, reduceIte, Nat.reduceEqDiff, eq_self]
          refine hK6 _ ?_
          clear hK6
          refine aw_draw zT prog_mixed fun K27 hK27 => ?_
          simp only [amset, amlib, zset, hget1, eq_self, ↓reduceIte, reduceCtorEq, Nat.reduceBEq, Nat.reduceEqDiff, Nat.reduceAdd, Nat.reduceMul, Nat.reduceLeDiff, Nat.reduceLT, Nat.reduceSub]
          refine ⟨⟨by omega, by omega⟩, ?_⟩
          refine ⟨_, ih _ (List.getElem_mem (h := by omega)), ?_⟩
          simp only [later]
          simp only [amset, amlib, zset, eq_self, ↓reduceIte, reduceCtorEq, Nat.reduceBEq, Nat.reduceEqDiff, Nat.reduceAdd, Nat.reduceMul, Nat.reduceLeDiff, Nat.reduceLT, Nat.reduceSub]
          refine ⟨by kernel_rfl, ?_⟩
          refine hK27 _ ?_
          clear hK27
          refine aw_seq fun K28 hK28 => ?_
          refine aw_ops zT fun K29 hK29 => ?_
          simp only [amset, amlib, zset, eq_self, ↓reduceIte, reduceCtorEq, Nat.reduceBEq, Nat.reduceEqDiff, Nat.reduceAdd, Nat.reduceMul, Nat.reduceLeDiff, Nat.reduceLT, Nat.reduceSub]
          refine hK29 _ ?_
          clear hK29
          refine aw_cond rfl (fun h2 => ?_) (fun h2 => ?_)
          · skip
            refine aw_ops zT fun K30 hK30 => ?_
            simp only [amset, amlib, zset, eq_self, ↓reduceIte, reduceCtorEq, Nat.reduceBEq, Nat.reduceEqDiff, Nat.reduceAdd, Nat.reduceMul, Nat.reduceLeDiff, Nat.reduceLT, Nat.reduceSub]
            refine hK30 _ ?_
            clear hK30
            refine aw_ret ?_
            show resOf zG _ [.tmp 4, .tmp 5] = some _
            simp only [amset, amlib, zset, eq_self, ↓reduceIte, reduceCtorEq, Nat.reduceBEq, Nat.reduceEqDiff, Nat.reduceAdd, Nat.reduceMul, Nat.reduceLeDiff, Nat.reduceLT, Nat.reduceSub]
            rw [hcn, hcn1]
            revert e0 e1 h0 h1 h2
            generalize cnE (fun q => amFind q es) x.args[0] = u
            generalize cnE (fun q => amFind q es) x.args[1] = v
            cases u <;> cases v <;> simp +contextual [bnS]
          · skip
            refine aw_skip ?_
            simp only [thenQ, blkQ, if_true, reduceIte, Nat.reduceEqDiff, eq_self]
            refine hK28 _ ?_
            clear hK28
            refine aw_seq fun K31 hK31 => ?_
            refine aw_ops zT fun K32 hK32 => ?_
            simp only [amset, amlib, zset, e0, e1, eq_self, ↓reduceIte, reduceCtorEq, Nat.reduceBEq, Nat.reduceEqDiff, Nat.reduceAdd, Nat.reduceMul, Nat.reduceLeDiff, Nat.reduceLT, Nat.reduceSub]
            refine hK32 _ ?_
            clear hK32
            refine aw_cond (t := true) rfl (fun _ => ?_) (fun h => nomatch h)
            refine aw_ops zT fun K33 hK33 => ?_
            simp only [amset, amlib, zset, eq_self, ↓reduceIte, reduceCtorEq, Nat.reduceBEq, Nat.reduceEqDiff, Nat.reduceAdd, Nat.reduceMul, Nat.reduceLeDiff, Nat.reduceLT, Nat.reduceSub]
            refine ⟨_, holds196 _, ?_⟩
            simp only [later]
            simp only [amset, amlib, zset, eq_self, ↓reduceIte, reduceCtorEq, Nat.reduceBEq, Nat.reduceEqDiff, Nat.reduceAdd, Nat.reduceMul, Nat.reduceLeDiff, Nat.reduceLT, Nat.reduceSub]
            refine hK33 _ ?_
            clear hK33
            refine aw_ret ?_
            show resOf zG _ [.tmp 4, .tmp 5] = some _
            simp only [amset, amlib, zset, eq_self, ↓reduceIte, reduceCtorEq, Nat.reduceBEq, Nat.reduceEqDiff, Nat.reduceAdd, Nat.reduceMul, Nat.reduceLeDiff, Nat.reduceLT, Nat.reduceSub]
            rw [hcn, hcn1]
            revert e0 e1 h0 h1 h2
            generalize cnE (fun q => amFind q es) x.args[0] = u
            generalize cnE (fun q => amFind q es) x.args[1] = v
            cases u <;> cases v <;> simp +contextual [bnS]
      | false =>
        simp only [amset, amlib, zset, e0, e1, eq_self, ↓reduceIte, reduceCtorEq, Nat.reduceBEq, Nat.reduceEqDiff, Nat.reduceAdd, Nat.reduceMul, Nat.reduceLeDiff, Nat.reduceLT, Nat.reduceSub]
        refine hK25 _ ?_
        clear hK25
        refine aw_cond (t := false) rfl (fun h => nomatch h) (fun _ => ?_)
        refine aw_skip ?_
        simp only [thenQ, blkQ, if_true, reduceIte, Nat.reduceEqDiff, eq_self]
        refine hK6 _ ?_
        clear hK6
        refine aw_draw zT prog_mixed fun K34 hK34 => ?_
        simp only [amset, amlib, zset, hget1, eq_self, ↓reduceIte, reduceCtorEq, Nat.reduceBEq, Nat.reduceEqDiff, Nat.reduceAdd, Nat.reduceMul, Nat.reduceLeDiff, Nat.reduceLT, Nat.reduceSub]
        refine ⟨⟨by omega, by omega⟩, ?_⟩
        refine ⟨_, ih _ (List.getElem_mem (h := by omega)), ?_⟩
        simp only [later]
        simp only [amset, amlib, zset, eq_self, ↓reduceIte, reduceCtorEq, Nat.reduceBEq, Nat.reduceEqDiff, Nat.reduceAdd, Nat.reduceMul, Nat.reduceLeDiff, Nat.reduceLT, Nat.reduceSub]
        refine ⟨by kernel_rfl, ?_⟩
        refine hK34 _ ?_
        clear hK34
        refine aw_seq fun K35 hK35 => ?_
        refine aw_ops zT fun K36 hK36 => ?_
        simp only [amset, amlib, zset, eq_self, ↓reduceIte, reduceCtorEq, Nat.reduceBEq, Nat.reduceEqDiff, Nat.reduceAdd, Nat.reduceMul, Nat.reduceLeDiff, Nat.reduceLT, Nat.reduceSub]
        refine hK36 _ ?_
        clear hK36
        refine aw_cond rfl (fun h1 => ?_) (fun h1 => ?_)
        · skip
          refine aw_ops zT fun K37 hK37 => ?_
          simp only [amset, amlib, zset, eq_self, ↓reduceIte, reduceCtorEq, Nat.reduceBEq, Nat.reduceEqDiff, Nat.reduceAdd, Nat.reduceMul, Nat.reduceLeDiff, Nat.reduceLT, Nat.reduceSub]
          refine hK37 _ ?_
          clear hK37
          refine aw_ret ?_
          show resOf zG _ [.tmp 4, .tmp 5] = some _
          simp only [amset, amlib, zset, eq_self, ↓reduceIte, reduceCtorEq, Nat.reduceBEq, Nat.reduceEqDiff, Nat.reduceAdd, Nat.reduceMul, Nat.reduceLeDiff, Nat.reduceLT, Nat.reduceSub]
          rw [hcn, hcn1]
          revert e0 e1 h0 h1
          generalize cnE (fun q => amFind q es) x.args[0] = u
          generalize cnE (fun q => amFind q es) x.args[1] = v
          cases u <;> cases v <;> simp +contextual [bnS]
        · skip
          refine aw_skip ?_
          simp only [thenQ, blkQ, if_true, reduceIte, Nat.reduceEqDiff, eq_self]
          refine hK35 _ ?_
          clear hK35
          refine aw_seq fun K38 hK38 => ?_
          refine aw_ops zT fun K39 hK39 => ?_
          simp only [amset, amlib, zset, e0, e1, eq_self, ↓reduceIte, reduceCtorEq, Nat.reduceBEq, Nat.reduceEqDiff, Nat.reduceAdd, Nat.reduceMul, Nat.reduceLeDiff, Nat.reduceLT, Nat.reduceSub]
          refine hK39 _ ?_
          clear hK39
          refine aw_cond (t := false) rfl (fun h => nomatch h) (fun _ => ?_)
          refine aw_skip ?_
          simp only [thenQ, blkQ, if_true, reduceIte, Nat.reduceEqDiff, eq_self]
          refine hK38 _ ?_
          clear hK38
          refine aw_ops zT fun K40 hK40 => ?_
          simp only [amset, amlib, zset, eq_self, ↓reduceIte, reduceCtorEq, Nat.reduceBEq, Nat.reduceEqDiff, Nat.reduceAdd, Nat.reduceMul, Nat.reduceLeDiff, Nat.reduceLT, Nat.reduceSub]
          refine ⟨_, holds188 _ _ _, ?_⟩
          simp only [later]
          simp only [amset, amlib, zset, eq_self, ↓reduceIte, reduceCtorEq, Nat.reduceBEq, Nat.reduceEqDiff, Nat.reduceAdd, Nat.reduceMul, Nat.reduceLeDiff, Nat.reduceLT, Nat.reduceSub]
          refine hK40 _ ?_
          clear hK40
          refine aw_ops zT fun K41 hK41 => ?_
          simp only [amset, amlib, zset, eq_self, ↓reduceIte, reduceCtorEq, Nat.reduceBEq, Nat.reduceEqDiff, Nat.reduceAdd, Nat.reduceMul, Nat.reduceLeDiff, Nat.reduceLT, Nat.reduceSub]
          refine hK41 _ ?_
          clear hK41
          refine aw_ret ?_
          show resOf zG _ [.tmp 4, .tmp 5] = some _
          simp only [amset, amlib, zset, eq_self, ↓reduceIte, reduceCtorEq, Nat.reduceBEq, Nat.reduceEqDiff, Nat.reduceAdd, Nat.reduceMul, Nat.reduceLeDiff, Nat.reduceLT, Nat.reduceSub]
          rw [hcn, hcn1]
          revert e0 e1 h0 h1
          generalize cnE (fun q => amFind q es) x.args[0] = u
          generalize cnE (fun q => amFind q es) x.args[1] = v
          cases u <;> cases v <;> simp +contextual [bnS]
theorem holds75 (es : List (List UInt8 × Int)) (x : Ex) (hx : okE x) : Holds Tryz.prog zG 75 [.agg [.map .i16 es], .agg [.int .i64 x.kind, .str x.name, .int .i16 x.value, .int .i64 x.op, .sl 6 (encEs x.args), .int .i64 x.pos]] [.c (.int .i16 ((cnE (fun q => amFind q es) x).getD 0)), .c (.bool (cnE (fun q => amFind q es) x).isSome)] :=
  step75 es x hx (fun y hy => holds75 es y (okL_mem (okE_eq x ▸ hx).2 hy)) fun hk => step150 es x ((okE_eq x ▸ hx).1.2.1 hk) fun y hy => holds75 es y (okL_mem (okE_eq x ▸ hx).2 hy)
  termination_by SizeOf.sizeOf x
  decreasing_by all_goals exact Ex.args_lt hy
end Go.Proofs.Am
set_option maxRecDepth 100000
set_option maxHeartbeats 4000000
namespace Go.Proofs.Am
mutual
def subE : Ex → List Ex
  | .mk k n v o a p => .mk k n v o a p :: subL a
def subL : List Ex → List Ex
  | [] => []
  | x :: r => subE x ++ subL r
end
theorem subE_eq (x : Ex) : subE x = x :: subL x.args := by cases x; rfl
theorem subL_append (a b : List Ex) : subL (a ++ b) = subL a ++ subL b := by
  induction a with
  | nil => rfl
  | cons x r ih => simp [subL, ih]
theorem prog19 : Tryz.prog.funcs[19]? = some Tryz.f19 := by kernel_rfl
theorem step19 (x : Ex) (hb : (subE x).length ≤ 1000000000000) (ih : ∀ y ∈ x.args, (subE y).length ≤ 1000000000000 → Holds Tryz.prog zG 19 [.agg [.int .i64 y.kind, .str y.name, .int .i16 y.value, .int .i64 y.op, .sl 6 (encEs y.args), .int .i64 y.pos]] [.c (.sl 6 (encEs (subE y)))]) : Holds Tryz.prog zG 19 [.agg [.int .i64 x.kind, .str x.name, .int .i16 x.value, .int .i64 x.op, .sl 6 (encEs x.args), .int .i64 x.pos]] [.c (.sl 6 (encEs (subE x)))] := by
  refine holds_of_body zT prog19 rfl rfl rfl (by simp [Tryz.f19]) ?_
  refine aw_ops zT fun K1 hK1 => ?_
  simp only [amset, amlib, zset, eq_self, ↓reduceIte, reduceCtorEq, Nat.reduceBEq, Nat.reduceEqDiff, Nat.reduceAdd, Nat.reduceMul, Nat.reduceLeDiff, Nat.reduceLT, Nat.reduceSub]
  refine hK1 _ ?_
  clear hK1
  refine aw_ops zT fun K2 hK2 => ?_
  simp only [amset, amlib, zset, eq_self, ↓reduceIte, reduceCtorEq, Nat.reduceBEq, Nat.reduceEqDiff, Nat.reduceAdd, Nat.reduceMul, Nat.reduceLeDiff, Nat.reduceLT, Nat.reduceSub]
  refine hK2 _ ?_
  clear hK2
  refine aw_seq fun K3 hK3 => ?_
  refine aw_ops zT fun K4 hK4 => ?_
  simp only [amset, amlib, zset, eq_self, ↓reduceIte, reduceCtorEq, Nat.reduceBEq, Nat.reduceEqDiff, Nat.reduceAdd, Nat.reduceMul, Nat.reduceLeDiff, Nat.reduceLT, Nat.reduceSub]
  intros
  refine hK4 _ ?_
  clear hK4
  refine aw_block ?_
  refine aw_retag 7 0 1003 (by simp only [amset, amlib, zset, eq_self, ↓reduceIte, reduceCtorEq, Nat.reduceBEq, Nat.reduceEqDiff, Nat.reduceAdd, Nat.reduceMul, Nat.reduceLeDiff, Nat.reduceLT, Nat.reduceSub]) ?_
  refine aw_norm (by simp only [amset, amlib, zset, eq_self, ↓reduceIte, reduceCtorEq, Nat.reduceBEq, Nat.reduceEqDiff, Nat.reduceAdd, Nat.reduceMul, Nat.reduceLeDiff, Nat.reduceLT, Nat.reduceSub]; exact rfl) ?_
  refine aw_range (α := Ex) (x.args) (fun dn => True) (fun dn => [(3, .cell (.own 1003 0 32 6 (encEs (x :: subL dn)))), (11, .cell (.c (.int .i64 dn.length)))]) (fun dn => []) [1003] [3, 5, 11, 12, 13, 14, 15, 16, 17, 18, 19] [5] trivial ?_ ?_ ?_ ?_
  · simp only [amset, amlib, zset, eq_self, ↓reduceIte, reduceCtorEq, Nat.reduceBEq, Nat.reduceEqDiff, Nat.reduceAdd, Nat.reduceMul, Nat.reduceLeDiff, Nat.reduceLT, Nat.reduceSub] <;> simp [subL, subL_append, encEs_cons, encEs_append, encEs_nil, encE_eq]
  · simp only [amset, amlib, zset, eq_self, ↓reduceIte, reduceCtorEq, Nat.reduceBEq, Nat.reduceEqDiff, Nat.reduceAdd, Nat.reduceMul, Nat.reduceLeDiff, Nat.reduceLT, Nat.reduceSub] <;> simp [subL, subL_append, encEs_cons, encEs_append, encEs_nil, encE_eq]
  · intro hI R
    refine aw_norm (by simp only [amset, amlib, zset, eq_self, ↓reduceIte, reduceCtorEq, Nat.reduceBEq, Nat.reduceEqDiff, Nat.reduceAdd, Nat.reduceMul, Nat.reduceLeDiff, Nat.reduceLT, Nat.reduceSub]; exact rfl) ?_
    refine aw_ops zT fun K5 hK5 => ?_
    simp only [amset, amlib, zset, eq_self, ↓reduceIte, reduceCtorEq, Nat.reduceBEq, Nat.reduceEqDiff, Nat.reduceAdd, Nat.reduceMul, Nat.reduceLeDiff, Nat.reduceLT, Nat.reduceSub]
    refine hK5 _ ?_
    clear hK5
    refine aw_seq fun K6 hK6 => ?_
    refine aw_cond (t := false) (by simp [evalO, S.get, amLook]) (fun h => nomatch h) (fun _ => ?_)
    refine aw_exit ?_
    simp only [thenQ, blkQ, if_true, reduceIte, Nat.reduceEqDiff, eq_self]
    refine hK3 _ ?_
    clear hK3
    refine aw_ops zT fun K7 hK7 => ?_
    simp only [amset, amlib, zset, eq_self, ↓reduceIte, reduceCtorEq, Nat.reduceBEq, Nat.reduceEqDiff, Nat.reduceAdd, Nat.reduceMul, Nat.reduceLeDiff, Nat.reduceLT, Nat.reduceSub]
    refine hK7 _ ?_
    clear hK7
    refine aw_ret ?_
    show resOf zG _ [.tmp 2] = some _
    simp only [amset, amlib, zset, eq_self, ↓reduceIte, reduceCtorEq, Nat.reduceBEq, Nat.reduceEqDiff, Nat.reduceAdd, Nat.reduceMul, Nat.reduceLeDiff, Nat.reduceLT, Nat.reduceSub]
    simp [subE_eq]
  · intro dn y td harg hI R hR
    have hl : (x.args).length = dn.length + (td.length + 1) := by rw [harg]; simp
    have hmem : y ∈ x.args := by rw [harg]; simp
    refine aw_norm (by simp only [amset, amlib, zset, eq_self, ↓reduceIte, reduceCtorEq, Nat.reduceBEq, Nat.reduceEqDiff, Nat.reduceAdd, Nat.reduceMul, Nat.reduceLeDiff, Nat.reduceLT, Nat.reduceSub]; exact rfl) ?_
    have hget : (encEs (x.args)).getD dn.length [] = encE y := by rw [harg]; exact encEs_mid dn td y
    have h1 : (subE x).length = (subL dn).length + 1 + (subE y).length + (subL td).length := by
      rw [subE_eq, harg, subL_append]
      simp [subL]
      omega
    refine aw_ops zT fun K8 hK8 => ?_
    simp only [amset, amlib, zset, eq_self, ↓reduceIte, reduceCtorEq, Nat.reduceBEq, Nat.reduceEqDiff, Nat.reduceAdd, Nat.reduceMul, Nat.reduceLeDiff, Nat.reduceLT, Nat.reduceSub]
    refine hK8 _ ?_
    clear hK8
    refine aw_seq fun K9 hK9 => ?_
    refine aw_cond (t := true) (by simp [evalO, S.get, amLook]; omega) (fun _ => ?_) (fun h => nomatch h)
    refine aw_skip ?_
    simp only [thenQ, blkQ, if_true, reduceIte, Nat.reduceEqDiff, eq_self]
    refine hK9 _ ?_
    clear hK9
    refine aw_seq fun K10 hK10 => ?_
    refine aw_block ?_
    refine aw_ops zT fun K11 hK11 => ?_
    simp only [amset, amlib, zset, hget, eq_self, ↓reduceIte, reduceCtorEq, Nat.reduceBEq, Nat.reduceEqDiff, Nat.reduceAdd, Nat.reduceMul, Nat.reduceLeDiff, Nat.reduceLT, Nat.reduceSub]
    refine ⟨⟨by omega, by omega⟩, ?_⟩
    refine hK11 _ ?_
    clear hK11
    refine aw_region zT ?_
    simp only [amset, amlib, zset, eq_self, ↓reduceIte, reduceCtorEq, Nat.reduceBEq, Nat.reduceEqDiff, Nat.reduceAdd, Nat.reduceMul, Nat.reduceLeDiff, Nat.reduceLT, Nat.reduceSub]
    refine ⟨_, ih y hmem (by omega), ?_⟩
    simp only [later]
    simp only [amset, amlib, zset, eq_self, ↓reduceIte, reduceCtorEq, Nat.reduceBEq, Nat.reduceEqDiff, Nat.reduceAdd, Nat.reduceMul, Nat.reduceLeDiff, Nat.reduceLT, Nat.reduceSub]
    refine ⟨⟨encEs_rows _, by omega⟩, ?_⟩
    refine hK10 _ ?_
    clear hK10
    refine aw_region zT ?_
    simp only [amset, amlib, zset, eq_self, ↓reduceIte, reduceCtorEq, Nat.reduceBEq, Nat.reduceEqDiff, Nat.reduceAdd, Nat.reduceMul, Nat.reduceLeDiff, Nat.reduceLT, Nat.reduceSub]
    refine ⟨⟨by omega, by omega⟩, ?_⟩
    refine hR _ trivial ?_
    refine Reach.trans (Reach.retag 18 0 1003 ?_) (Reach.to ?_ ?_)
    · simp only [amset, amlib, zset, eq_self, ↓reduceIte, reduceCtorEq, Nat.reduceBEq, Nat.reduceEqDiff, Nat.reduceAdd, Nat.reduceMul, Nat.reduceLeDiff, Nat.reduceLT, Nat.reduceSub]
    · simp only [amset, amlib, zset, eq_self, ↓reduceIte, reduceCtorEq, Nat.reduceBEq, Nat.reduceEqDiff, Nat.reduceAdd, Nat.reduceMul, Nat.reduceLeDiff, Nat.reduceLT, Nat.reduceSub] <;> simp [subL, subL_append, encEs_cons, encEs_append, encEs_nil, encE_eq]
    · simp only [amset, amlib, zset, eq_self, ↓reduceIte, reduceCtorEq, Nat.reduceBEq, Nat.reduceEqDiff, Nat.reduceAdd, Nat.reduceMul, Nat.reduceLeDiff, Nat.reduceLT, Nat.reduceSub] <;> simp [subL, subL_append, encEs_cons, encEs_append, encEs_nil, encE_eq]
theorem holds19 (x : Ex) (hb : (subE x).length ≤ 1000000000000) : Holds Tryz.prog zG 19 [.agg [.int .i64 x.kind, .str x.name, .int .i16 x.value, .int .i64 x.op, .sl 6 (encEs x.args), .int .i64 x.pos]] [.c (.sl 6 (encEs (subE x)))] := step19 x hb fun y hmem hb => holds19 y hb
  termination_by SizeOf.sizeOf x
  decreasing_by exact Ex.args_lt hmem
end Go.Proofs.Am
set_option maxRecDepth 100000
set_option maxHeartbeats 4000000
namespace Go.Proofs.Am
mutual
def sxE (lk : List UInt8 → Option Int) : Ex → Ex
  | .mk k n v o a p => match cnE lk (.mk k n v o a p) with
    | some c => litE c
    | none => if (k == 6 && (o == 14 || o == 15)) && ((cnL lk a).getD 0 none).isSome then binE' 9 ((sxL lk a).getD 1 (numE 0)) (litE 0) else .mk k n v o (sxL lk a) 0
def sxL (lk : List UInt8 → Option Int) : List Ex → List Ex
  | [] => []
  | x :: r => sxE lk x :: sxL lk r
end
theorem sxE_eq (lk : List UInt8 → Option Int) (x : Ex) : sxE lk x = match cnE lk x with
    | some c => litE c
    | none => if (x.kind == 6 && (x.op == 14 || x.op == 15)) && ((cnL lk x.args).getD 0 none).isSome then binE' 9 ((sxL lk x.args).getD 1 (numE 0)) (litE 0) else .mk x.kind x.name x.value x.op (sxL lk x.args) 0 := by
  cases x; rw [sxE]; rfl
theorem sxL_map (lk : List UInt8 → Option Int) (l : List Ex) : sxL lk l = l.map (sxE lk) := by
  induction l with
  | nil => rfl
  | cons x r ih => simp [sxL, ih]
theorem sxL_append (lk : List UInt8 → Option Int) (a b : List Ex) : sxL lk (a ++ b) = sxL lk a ++ sxL lk b := by simp [sxL_map]
theorem sxL_length (lk : List UInt8 → Option Int) (a : List Ex) : (sxL lk a).length = a.length := by simp [sxL_map]
theorem sxL_getD (lk : List UInt8 → Option Int) (l : List Ex) (n : Nat) (h : n < l.length) : (sxL lk l).getD n (numE 0) = sxE lk l[n] := by
  rw [sxL_map, List.getD_eq_getElem?_getD, List.getElem?_map, List.getElem?_eq_getElem h]; rfl
theorem subL_mem {l : List Ex} {y : Ex} (h : y ∈ l) : (subE y).length ≤ (subL l).length := by
  induction l with
  | nil => cases h
  | cons x r ih =>
    rw [subL, List.length_append]
    rcases List.mem_cons.1 h with rfl | h
    · omega
    · have := ih h; omega
theorem subL_len (l : List Ex) : l.length ≤ (subL l).length := by
  induction l with
  | nil => simp
  | cons x r ih =>
    rw [subL, List.length_append, List.length_cons]
    have : 1 ≤ (subE x).length := by cases x; simp [subE]
    omega
theorem subE_len (x : Ex) : (subE x).length = (subL x.args).length + 1 := by cases x; simp [subE, Ex.args]
theorem cnE_range {lk : List UInt8 → Option Int} (hlk : lkOk lk) (x : Ex) (hw : wdE x) (v : Int) (h : cnE lk x = some v) : i16r v := by
  have hw' := wdE_eq x ▸ hw
  have mem : ∀ n u, (cnL lk x.args).getD n none = some u → i16r u := by
    intro n u hu
    by_cases hn : n < x.args.length
    · rw [cnL_getD lk x.args n hn] at hu
      exact cnE_range hlk x.args[n] (wdL_mem hw'.2 (List.getElem_mem hn)) u hu
    · rw [List.getD_eq_getElem?_getD, List.getElem?_eq_none (by rw [cnL_map]; simpa using hn)] at hu
      cases hu
  rw [cnE_eq] at h
  split at h
  · injection h with h; subst h; exact hw'.1
  · split at h
    · exact hlk _ _ h
    · split at h
      · unfold unS at h
        split at h
        · cases h
        · injection h with h; subst h; exact unW_range _ _
      · split at h
        · unfold bnS at h
          split at h
          · cases h
          · rename_i a ha
            split at h
            · injection h with h; subst h; simp [i16r]
            · split at h
              · injection h with h; subst h; simp [i16r]
              · split at h
                · cases h
                · rename_i b hb
                  split at h
                  · injection h with h; subst h; exact tr_range _
                  · injection h with h; subst h; exact binW_range _ _ _ (mem _ _ ha) (mem _ _ hb)
        · cases h
  termination_by SizeOf.sizeOf x
  decreasing_by exact Ex.args_lt (List.getElem_mem _)
theorem cnE_getD {lk : List UInt8 → Option Int} (hlk : lkOk lk) (x : Ex) (hw : wdE x) : i16r ((cnE lk x).getD 0) := by
  cases hv : cnE lk x with
  | none => simp [i16r]
  | some v => exact cnE_range hlk x hw v hv
theorem prog64 : Tryz.prog.funcs[64]? = some Tryz.f64 := by kernel_rfl
theorem step64 (es : List (List UInt8 × Int)) (hlk : lkOk (fun q => amFind q es)) (x : Ex) (hx : okE x) (hw : wdE x) (ih : ∀ y ∈ x.args, Holds Tryz.prog zG 64 [.agg [.map .i16 es], .agg [.int .i64 y.kind, .str y.name, .int .i16 y.value, .int .i64 y.op, .sl 6 (encEs y.args), .int .i64 y.pos]] [.agg [.int .i64 (sxE (fun q => amFind q es) y).kind, .str (sxE (fun q => amFind q es) y).name, .int .i16 (sxE (fun q => amFind q es) y).value, .int .i64 (sxE (fun q => amFind q es) y).op, .sl 6 (encEs (sxE (fun q => amFind q es) y).args), .int .i64 (sxE (fun q => amFind q es) y).pos]]) (ihl : Holds Tryz.prog zG 141 [.agg [.map .i16 es], .c (.sl 6 (encEs x.args))] [.c (.sl 6 (encEs (sxL (fun q => amFind q es) x.args)))]) : Holds Tryz.prog zG 64 [.agg [.map .i16 es], .agg [.int .i64 x.kind, .str x.name, .int .i16 x.value, .int .i64 x.op, .sl 6 (encEs x.args), .int .i64 x.pos]] [.agg [.int .i64 (sxE (fun q => amFind q es) x).kind, .str (sxE (fun q => amFind q es) x).name, .int .i16 (sxE (fun q => amFind q es) x).value, .int .i64 (sxE (fun q => amFind q es) x).op, .sl 6 (encEs (sxE (fun q => amFind q es) x).args), .int .i64 (sxE (fun q => amFind q es) x).pos]] := by
  refine holds_of_body zT prog64 rfl rfl rfl (by simp [Tryz.f64]) ?_
  refine aw_ops zT fun K1 hK1 => ?_
  simp only [amset, amlib, zset, eq_self, ↓reduceIte, reduceCtorEq, Nat.reduceBEq, Nat.reduceEqDiff, Nat.reduceAdd, Nat.reduceMul, Nat.reduceLeDiff, Nat.reduceLT, Nat.reduceSub]
  refine hK1 _ ?_
  clear hK1
  refine aw_seq fun K2 hK2 => ?_
  refine aw_ops zT fun K3 hK3 => ?_
  simp only [amset, amlib, zset, eq_self, ↓reduceIte, reduceCtorEq, Nat.reduceBEq, Nat.reduceEqDiff, Nat.reduceAdd, Nat.reduceMul, Nat.reduceLeDiff, Nat.reduceLT, Nat.reduceSub]
  refine ⟨_, holds75 es x hx, ?_⟩
  simp only [later]
  simp only [amset, amlib, zset, eq_self, ↓reduceIte, reduceCtorEq, Nat.reduceBEq, Nat.reduceEqDiff, Nat.reduceAdd, Nat.reduceMul, Nat.reduceLeDiff, Nat.reduceLT, Nat.reduceSub]
  refine hK3 _ ?_
  clear hK3
  refine aw_ops zT fun K4 hK4 => ?_
  simp only [amset, amlib, zset, eq_self, ↓reduceIte, reduceCtorEq, Nat.reduceBEq, Nat.reduceEqDiff, Nat.reduceAdd, Nat.reduceMul, Nat.reduceLeDiff, Nat.reduceLT, Nat.reduceSub]
  refine hK4 _ ?_
  clear hK4
  refine aw_cond rfl (fun h0 => ?_) (fun h0 => ?_)
  · skip
    refine aw_ops zT fun K5 hK5 => ?_
    simp only [amset, amlib, zset, eq_self, ↓reduceIte, reduceCtorEq, Nat.reduceBEq, Nat.reduceEqDiff, Nat.reduceAdd, Nat.reduceMul, Nat.reduceLeDiff, Nat.reduceLT, Nat.reduceSub]
    refine ⟨_, holds140 _ (cnE_getD hlk x hw), ?_⟩
    simp only [later]
    simp only [amset, amlib, zset, eq_self, ↓reduceIte, reduceCtorEq, Nat.reduceBEq, Nat.reduceEqDiff, Nat.reduceAdd, Nat.reduceMul, Nat.reduceLeDiff, Nat.reduceLT, Nat.reduceSub]
    refine hK5 _ ?_
    clear hK5
    refine aw_ret ?_
    show resOf zG _ [.cell 4 32] = some _
    simp only [amset, amlib, zset, eq_self, ↓reduceIte, reduceCtorEq, Nat.reduceBEq, Nat.reduceEqDiff, Nat.reduceAdd, Nat.reduceMul, Nat.reduceLeDiff, Nat.reduceLT, Nat.reduceSub]
    have e : sxE (fun q => amFind q es) x = litE ((cnE (fun q => amFind q es) x).getD 0) := by
      rw [sxE_eq]
      cases hv : cnE (fun q => amFind q es) x with
      | none => rw [hv] at h0; cases h0
      | some v => rfl
    rw [e]
  · skip
    refine aw_skip ?_
    simp only [thenQ, blkQ, if_true, reduceIte, Nat.reduceEqDiff, eq_self]
    refine hK2 _ ?_
    clear hK2
    refine aw_seq fun K6 hK6 => ?_
    refine aw_ops zT fun K7 hK7 => ?_
    cases g0 : (x.kind == 6) with
    | true =>
      cases g1 : (x.op == 14) with
      | true =>
        simp only [amset, amlib, zset, g0, g1, eq_self, ↓reduceIte, reduceCtorEq, Nat.reduceBEq, Nat.reduceEqDiff, Nat.reduceAdd, Nat.reduceMul, Nat.reduceLeDiff, Nat.reduceLT, Nat.reduceSub]
        refine hK7 _ ?_
        clear hK7
        refine aw_cond (t := true) rfl (fun _ => ?_) (fun h => nomatch h)
        have ha : 2 ≤ x.args.length := (okE_eq x ▸ hx).1.2.1 (by simpa using g0)
        have hget : (encEs x.args).getD (Int.toNat 0) [] = encE x.args[0] := encEs_getD _ 0 (by omega)
        have hget1 : (encEs x.args).getD (Int.toNat 1) [] = encE x.args[1] := encEs_getD _ 1 (by omega)
        have hcn : (cnL (fun q => amFind q es) x.args).getD 0 none = cnE (fun q => amFind q es) x.args[0] := cnL_getD _ _ 0 (by omega)
        refine aw_draw zT prog_mixed fun K8 hK8 => ?_
        simp only [amset, amlib, zset, hget, g0, g1, h0, eq_self, ↓reduceIte, reduceCtorEq, Nat.reduceBEq, Nat.reduceEqDiff, Nat.reduceAdd, Nat.reduceMul, Nat.reduceLeDiff, Nat.reduceLT, Nat.reduceSub]
        refine ⟨⟨by omega, by omega⟩, ?_⟩
        refine ⟨_, holds75 es x.args[0] (okL_mem (okE_eq x ▸ hx).2 (List.getElem_mem _)), ?_⟩
        simp only [later]
        simp only [amset, amlib, zset, eq_self, ↓reduceIte, reduceCtorEq, Nat.reduceBEq, Nat.reduceEqDiff, Nat.reduceAdd, Nat.reduceMul, Nat.reduceLeDiff, Nat.reduceLT, Nat.reduceSub]
        refine ⟨by kernel_rfl, ?_⟩
        refine hK8 _ ?_
        clear hK8
        refine aw_ops zT fun K9 hK9 => ?_
        simp only [amset, amlib, zset, eq_self, ↓reduceIte, reduceCtorEq, Nat.reduceBEq, Nat.reduceEqDiff, Nat.reduceAdd, Nat.reduceMul, Nat.reduceLeDiff, Nat.reduceLT, Nat.reduceSub]
        refine hK9 _ ?_
        clear hK9
        refine aw_cond rfl (fun h1 => ?_) (fun h1 => ?_)
        · skip
          refine aw_draw zT prog_mixed fun K10 hK10 => ?_
          simp only [amset, amlib, zset, hget1, g0, g1, h0, h1, eq_self, ↓reduceIte, reduceCtorEq, Nat.reduceBEq, Nat.reduceEqDiff, Nat.reduceAdd, Nat.reduceMul, Nat.reduceLeDiff, Nat.reduceLT, Nat.reduceSub]
          refine ⟨⟨by omega, by omega⟩, ?_⟩
          refine ⟨_, ih _ (List.getElem_mem (h := by omega)), ?_⟩
          simp only [later]
          simp only [amset, amlib, zset, eq_self, ↓reduceIte, reduceCtorEq, Nat.reduceBEq, Nat.reduceEqDiff, Nat.reduceAdd, Nat.reduceMul, Nat.reduceLeDiff, Nat.reduceLT, Nat.reduceSub]
          refine ⟨_, holds140 0 (by simp [i16r]), ?_⟩
          simp only [later]
          simp only [amset, amlib, zset, eq_self, ↓reduceIte, reduceCtorEq, Nat.reduceBEq, Nat.reduceEqDiff, Nat.reduceAdd, Nat.reduceMul, Nat.reduceLeDiff, Nat.reduceLT, Nat.reduceSub]
          refine ⟨by kernel_rfl, ?_⟩
          refine hK10 _ ?_
          clear hK10
          refine aw_ret ?_
          show resOf zG _ [.cell 4 32] = some _
          simp only [amset, amlib, zset, eq_self, ↓reduceIte, reduceCtorEq, Nat.reduceBEq, Nat.reduceEqDiff, Nat.reduceAdd, Nat.reduceMul, Nat.reduceLeDiff, Nat.reduceLT, Nat.reduceSub]
          have hn : cnE (fun q => amFind q es) x = none := by
            cases hv : cnE (fun q => amFind q es) x with
            | none => rfl
            | some v => rw [hv] at h0; cases h0
          have e : sxE (fun q => amFind q es) x = binE' 9 (sxE (fun q => amFind q es) x.args[1]) (litE 0) := by
            rw [sxE_eq, hn, ← sxL_getD _ _ 1 (by omega), hcn]
            simp only [g0, g1, h0, h1, Bool.true_or, Bool.or_true, Bool.and_true, Bool.true_and, ↓reduceIte]
          rw [e]
          simp only [numE, binE', Ex.kind, Ex.name, Ex.value, Ex.op, Ex.args, Ex.pos, encEs, encE_eq]
        · skip
          refine aw_skip ?_
          simp only [thenQ, blkQ, if_true, reduceIte, Nat.reduceEqDiff, eq_self]
          refine hK6 _ ?_
          clear hK6
          refine aw_ops zT fun K11 hK11 => ?_
          simp only [amset, amlib, zset, eq_self, ↓reduceIte, reduceCtorEq, Nat.reduceBEq, Nat.reduceEqDiff, Nat.reduceAdd, Nat.reduceMul, Nat.reduceLeDiff, Nat.reduceLT, Nat.reduceSub]
          refine ⟨_, ihl, ?_⟩
          simp only [later]
          simp only [amset, amlib, zset, eq_self, ↓reduceIte, reduceCtorEq, Nat.reduceBEq, Nat.reduceEqDiff, Nat.reduceAdd, Nat.reduceMul, Nat.reduceLeDiff, Nat.reduceLT, Nat.reduceSub]
          refine hK11 _ ?_
          clear hK11
          refine aw_ops zT fun K12 hK12 => ?_
          simp only [amset, amlib, zset, eq_self, ↓reduceIte, reduceCtorEq, Nat.reduceBEq, Nat.reduceEqDiff, Nat.reduceAdd, Nat.reduceMul, Nat.reduceLeDiff, Nat.reduceLT, Nat.reduceSub]
          refine hK12 _ ?_
          clear hK12
          refine aw_ret ?_
          show resOf zG _ [.cell 4 32] = some _
          simp only [amset, amlib, zset, eq_self, ↓reduceIte, reduceCtorEq, Nat.reduceBEq, Nat.reduceEqDiff, Nat.reduceAdd, Nat.reduceMul, Nat.reduceLeDiff, Nat.reduceLT, Nat.reduceSub]
          have hn : cnE (fun q => amFind q es) x = none := by
            cases hv : cnE (fun q => amFind q es) x with
            | none => rfl
            | some v => rw [hv] at h0; cases h0
          have e : sxE (fun q => amFind q es) x = .mk x.kind x.name x.value x.op (sxL (fun q => amFind q es) x.args) 0 := by
            rw [sxE_eq, hn]
            simp only [g0, g1, h0, h1, hcn, Bool.true_or, Bool.or_true, Bool.false_or, Bool.or_false, Bool.true_and, Bool.and_true, Bool.false_and, Bool.and_false, Bool.not_true, Bool.not_false, if_true, if_false, ↓reduceIte, Bool.false_eq_true]
          rw [e]
          rfl
      | false =>
        cases g2 : (x.op == 15) with
        | true =>
          simp only [amset, amlib, zset, g0, g1, g2, eq_self, ↓reduceIte, reduceCtorEq, Nat.reduceBEq, Nat.reduceEqDiff, Nat.reduceAdd, Nat.reduceMul, Nat.reduceLeDiff, Nat.reduceLT, Nat.reduceSub]
          refine hK7 _ ?_
          clear hK7
          refine aw_cond (t := true) rfl (fun _ => ?_) (fun h => nomatch h)
          have ha : 2 ≤ x.args.length := (okE_eq x ▸ hx).1.2.1 (by simpa using g0)
          have hget : (encEs x.args).getD (Int.toNat 0) [] = encE x.args[0] := encEs_getD _ 0 (by omega)
          have hget1 : (encEs x.args).getD (Int.toNat 1) [] = encE x.args[1] := encEs_getD _ 1 (by omega)
          have hcn : (cnL (fun q => amFind q es) x.args).getD 0 none = cnE (fun q => amFind q es) x.args[0] := cnL_getD _ _ 0 (by omega)
          refine aw_draw zT prog_mixed fun K13 hK13 => ?_
          simp only [amset, amlib, zset, hget, g0, g1, g2, h0, eq_self, ↓reduceIte, reduceCtorEq, Nat.reduceBEq, Nat.reduceEqDiff, Nat.reduceAdd, Nat.reduceMul, Nat.reduceLeDiff, Nat.reduceLT, Nat.reduceSub]
          refine ⟨⟨by omega, by omega⟩, ?_⟩
          refine ⟨_, holds75 es x.args[0] (okL_mem (okE_eq x ▸ hx).2 (List.getElem_mem _)), ?_⟩
          simp only [later]
          simp only [amset, amlib, zset, eq_self, ↓reduceIte, reduceCtorEq, Nat.reduceBEq, Nat.reduceEqDiff, Nat.reduceAdd, Nat.reduceMul, Nat.reduceLeDiff, Nat.reduceLT, Nat.reduceSub]
          refine ⟨by kernel_rfl, ?_⟩
          refine hK13 _ ?_
          clear hK13
          refine aw_ops zT fun K14 hK14 => ?_
          simp only [amset, amlib, zset, eq_self, ↓reduceIte, reduceCtorEq, Nat.reduceBEq, Nat.reduceEqDiff, Nat.reduceAdd, Nat.reduceMul, Nat.reduceLeDiff, Nat.reduceLT, Nat.reduceSub]
          refine hK14 _ ?_
          clear hK14
          refine aw_cond rfl (fun h1 => ?_) (fun h1 => ?_)
          · skip
            refine aw_draw zT prog_mixed fun K15 hK15 => ?_
            simp only [amset, amlib, zset, hget1, g0, g1, g2, h0, h1, eq_self, ↓reduceIte, reduceCtorEq, Nat.reduceBEq, Nat.reduceEqDiff, Nat.reduceAdd, Nat.reduceMul, Nat.reduceLeDiff, Nat.reduceLT, Nat.reduceSub]
            refine ⟨⟨by omega, by omega⟩, ?_⟩
            refine ⟨_, ih _ (List.getElem_mem (h := by omega)), ?_⟩
            simp only [later]
            simp only [amset, amlib, zset, eq_self, ↓reduceIte, reduceCtorEq, Nat.reduceBEq, Nat.reduceEqDiff, Nat.reduceAdd, Nat.reduceMul, Nat.reduceLeDiff, Nat.reduceLT, Nat.reduceSub]
            refine ⟨_, holds140 0 (by simp [i16r]), ?_⟩
            simp only [later]
            simp only [amset, amlib, zset, eq_self, ↓reduceIte, reduceCtorEq, Nat.reduceBEq, Nat.reduceEqDiff, Nat.reduceAdd, Nat.reduceMul, Nat.reduceLeDiff, Nat.reduceLT, Nat.reduceSub]
            refine ⟨by kernel_rfl, ?_⟩
            refine hK15 _ ?_
            clear hK15
            refine aw_ret ?_
            show resOf zG _ [.cell 4 32] = some _
            simp only [amset, amlib, zset, eq_self, ↓reduceIte, reduceCtorEq, Nat.reduceBEq, Nat.reduceEqDiff, Nat.reduceAdd, Nat.reduceMul, Nat.reduceLeDiff, Nat.reduceLT, Nat.reduceSub]
            have hn : cnE (fun q => amFind q es) x = none := by
              cases hv : cnE (fun q => amFind q es) x with
              | none => rfl
              | some v => rw [hv] at h0; cases h0
            have e : sxE (fun q => amFind q es) x = binE' 9 (sxE (fun q => amFind q es) x.args[1]) (litE 0) := by
              rw [sxE_eq, hn, ← sxL_getD _ _ 1 (by omega), hcn]
              simp only [g0, g1, g2, h0, h1, Bool.true_or, Bool.or_true, Bool.and_true, Bool.true_and, ↓reduceIte]
            rw [e]
            simp only [numE, binE', Ex.kind, Ex.name, Ex.value, Ex.op, Ex.args, Ex.pos, encEs, encE_eq]
          · skip
            refine aw_skip ?_
            simp only [thenQ, blkQ, if_true, reduceIte, Nat.reduceEqDiff, eq_self]
            refine hK6 _ ?_
            clear hK6
            refine aw_ops zT fun K16 hK16 => ?_
            simp only [amset, amlib, zset, eq_self, ↓reduceIte, reduceCtorEq, Nat.reduceBEq, Nat.reduceEqDiff, Nat.reduceAdd, Nat.reduceMul, Nat.reduceLeDiff, Nat.reduceLT, Nat.reduceSub]
            refine ⟨_, ihl, ?_⟩
            simp only [later]
            simp only [amset, amlib, zset, eq_self, ↓reduceIte, reduceCtorEq, Nat.reduceBEq, Nat.reduceEqDiff, Nat.reduceAdd, Nat.reduceMul, Nat.reduceLeDiff, Nat.reduceLT, Nat.reduceSub]
            refine hK16 _ ?_
            clear hK16
            refine aw_ops zT fun K17 hK17 => ?_
            simp only [amset, amlib, zset, eq_self, ↓reduceIte, reduceCtorEq, Nat.reduceBEq, Nat.reduceEqDiff, Nat.reduceAdd, Nat.reduceMul, Nat.reduceLeDiff, Nat.reduceLT, Nat.reduceSub]
            refine hK17 _ ?_
            clear hK17
            refine aw_ret ?_
            show resOf zG _ [.cell 4 32] = some _
            simp only [amset, amlib, zset, eq_self, ↓reduceIte, reduceCtorEq, Nat.reduceBEq, Nat.reduceEqDiff, Nat.reduceAdd, Nat.reduceMul, Nat.reduceLeDiff, Nat.reduceLT, Nat.reduceSub]
            have hn : cnE (fun q => amFind q es) x = none := by
              cases hv : cnE (fun q => amFind q es) x with
              | none => rfl
              | some v => rw [hv] at h0; cases h0
            have e : sxE (fun q => amFind q es) x = .mk x.kind x.name x.value x.op (sxL (fun q => amFind q es) x.args) 0 := by
              rw [sxE_eq, hn]
              simp only [g0, g1, g2, h0, h1, hcn, Bool.true_or, Bool.or_true, Bool.false_or, Bool.or_false, Bool.true_and, Bool.and_true, Bool.false_and, Bool.and_false, Bool.not_true, Bool.not_false, if_true, if_false, ↓reduceIte, Bool.false_eq_true]
            rw [e]
            rfl
        | false =>
          simp only [amset, amlib, zset, g0, g1, g2, eq_self, ↓reduceIte, reduceCtorEq, Nat.reduceBEq, Nat.reduceEqDiff, Nat.reduceAdd, Nat.reduceMul, Nat.reduceLeDiff, Nat.reduceLT, Nat.reduceSub]
          refine hK7 _ ?_
          clear hK7
          refine aw_cond (t := false) rfl (fun h => nomatch h) (fun _ => ?_)
          refine aw_skip ?_
          simp only [thenQ, blkQ, if_true, reduceIte, Nat.reduceEqDiff, eq_self]
          refine hK6 _ ?_
          clear hK6
          refine aw_ops zT fun K18 hK18 => ?_
          simp only [amset, amlib, zset, eq_self, ↓reduceIte, reduceCtorEq, Nat.reduceBEq, Nat.reduceEqDiff, Nat.reduceAdd, Nat.reduceMul, Nat.reduceLeDiff, Nat.reduceLT, Nat.reduceSub]
          refine ⟨_, ihl, ?_⟩
          simp only [later]
          simp only [amset, amlib, zset, eq_self, ↓reduceIte, reduceCtorEq, Nat.reduceBEq, Nat.reduceEqDiff, Nat.reduceAdd, Nat.reduceMul, Nat.reduceLeDiff, Nat.reduceLT, Nat.reduceSub]
          refine hK18 _ ?_
          clear hK18
          refine aw_ops zT fun K19 hK19 => ?_
          simp only [amset, amlib, zset, eq_self, ↓reduceIte, reduceCtorEq, Nat.reduceBEq, Nat.reduceEqDiff, Nat.reduceAdd, Nat.reduceMul, Nat.reduceLeDiff, Nat.reduceLT, Nat.reduceSub]
          refine hK19 _ ?_
          clear hK19
          refine aw_ret ?_
          show resOf zG _ [.cell 4 32] = some _
          simp only [amset, amlib, zset, eq_self, ↓reduceIte, reduceCtorEq, Nat.reduceBEq, Nat.reduceEqDiff, Nat.reduceAdd, Nat.reduceMul, Nat.reduceLeDiff, Nat.reduceLT, Nat.reduceSub]
          have hn : cnE (fun q => amFind q es) x = none := by
            cases hv : cnE (fun q => amFind q es) x with
            | none => rfl
            | some v => rw [hv] at h0; cases h0
          have e : sxE (fun q => amFind q es) x = .mk x.kind x.name x.value x.op (sxL (fun q => amFind q es) x.args) 0 := by
            rw [sxE_eq, hn]
            simp only [g0, g1, g2, h0, Bool.true_or, Bool.or_true, Bool.false_or, Bool.or_false, Bool.true_and, Bool.and_true, Bool.false_and, Bool.and_false, Bool.not_true, Bool.not_false, if_true, if_false, ↓reduceIte, Bool.false_eq_true]
          rw [e]
          rfl
    | false =>
      simp only [amset, amlib, zset, g0, eq_self, ↓reduceIte, reduceCtorEq, Nat.reduceBEq, Nat.reduceEqDiff, Nat.reduceAdd, Nat.reduceMul, Nat.reduceLeDiff, Nat.reduceLT, Nat.reduceSub]
      refine hK7 _ ?_
      clear hK7
      refine aw_cond (t := false) rfl (fun h => nomatch h) (fun _ => ?_)
      refine aw_skip ?_
      simp only [thenQ, blkQ, if_true, reduceIte, Nat.reduceEqDiff, eq_self]
      refine hK6 _ ?_
      clear hK6
      refine aw_ops zT fun K20 hK20 => ?_
      simp only [amset, amlib, zset, eq_self, ↓reduceIte, reduceCtorEq, Nat.reduceBEq, Nat.reduceEqDiff, Nat.reduceAdd, Nat.reduceMul, Nat.reduceLeDiff, Nat.reduceLT, Nat.reduceSub]
      refine ⟨_, ihl, ?_⟩
      simp only [later]
      simp only [amset, amlib, zset, eq_self, ↓reduceIte, reduceCtorEq, Nat.reduceBEq, Nat.reduceEqDiff, Nat.reduceAdd, Nat.reduceMul, Nat.reduceLeDiff, Nat.reduceLT, Nat.reduceSub]
      refine hK20 _ ?_
      clear hK20
      refine aw_ops zT fun K21 hK21 => ?_
      simp only [amset, amlib, zset, eq_self, ↓reduceIte, reduceCtorEq, Nat.reduceBEq, Nat.reduceEqDiff, Nat.reduceAdd, Nat.reduceMul, Nat.reduceLeDiff, Nat.reduceLT, Nat.reduceSub]
      refine hK21 _ ?_
      clear hK21
      refine aw_ret ?_
      show resOf zG _ [.cell 4 32] = some _
      simp only [amset, amlib, zset, eq_self, ↓reduceIte, reduceCtorEq, Nat.reduceBEq, Nat.reduceEqDiff, Nat.reduceAdd, Nat.reduceMul, Nat.reduceLeDiff, Nat.reduceLT, Nat.reduceSub]
      have hn : cnE (fun q => amFind q es) x = none := by
        cases hv : cnE (fun q => amFind q es) x with
        | none => rfl
        | some v => rw [hv] at h0; cases h0
      have e : sxE (fun q => amFind q es) x = .mk x.kind x.name x.value x.op (sxL (fun q => amFind q es) x.args) 0 := by
        rw [sxE_eq, hn]
        simp only [g0, h0, Bool.true_or, Bool.or_true, Bool.false_or, Bool.or_false, Bool.true_and, Bool.and_true, Bool.false_and, Bool.and_false, Bool.not_true, Bool.not_false, if_true, if_false, ↓reduceIte, Bool.false_eq_true]
      rw [e]
      rfl
theorem prog141 : Tryz.prog.funcs[141]? = some Tryz.f141 := by kernel_rfl
theorem step141 (es : List (List UInt8 × Int)) (hlk : lkOk (fun q => amFind q es)) (l : List Ex) (hl0 : l.length ≤ 1000000000000) (ih : ∀ y ∈ l, Holds Tryz.prog zG 64 [.agg [.map .i16 es], .agg [.int .i64 y.kind, .str y.name, .int .i16 y.value, .int .i64 y.op, .sl 6 (encEs y.args), .int .i64 y.pos]] [.agg [.int .i64 (sxE (fun q => amFind q es) y).kind, .str (sxE (fun q => amFind q es) y).name, .int .i16 (sxE (fun q => amFind q es) y).value, .int .i64 (sxE (fun q => amFind q es) y).op, .sl 6 (encEs (sxE (fun q => amFind q es) y).args), .int .i64 (sxE (fun q => amFind q es) y).pos]]) : Holds Tryz.prog zG 141 [.agg [.map .i16 es], .c (.sl 6 (encEs l))] [.c (.sl 6 (encEs (sxL (fun q => amFind q es) l)))] := by
  refine holds_of_body zT prog141 rfl rfl rfl (by simp [Tryz.f141]) ?_
  refine aw_ops zT fun K1 hK1 => ?_
  simp only [amset, amlib, zset, sxL_length, eq_self, ↓reduceIte, reduceCtorEq, Nat.reduceBEq, Nat.reduceEqDiff, Nat.reduceAdd, Nat.reduceMul, Nat.reduceLeDiff, Nat.reduceLT, Nat.reduceSub]
  refine hK1 _ ?_
  clear hK1
  refine aw_ops zT fun K2 hK2 => ?_
  simp only [amset, amlib, zset, sxL_length, eq_self, ↓reduceIte, reduceCtorEq, Nat.reduceBEq, Nat.reduceEqDiff, Nat.reduceAdd, Nat.reduceMul, Nat.reduceLeDiff, Nat.reduceLT, Nat.reduceSub]
  refine hK2 _ ?_
  clear hK2
  refine aw_seq fun K3 hK3 => ?_
  refine aw_ops zT fun K4 hK4 => ?_
  simp only [amset, amlib, zset, sxL_length, eq_self, ↓reduceIte, reduceCtorEq, Nat.reduceBEq, Nat.reduceEqDiff, Nat.reduceAdd, Nat.reduceMul, Nat.reduceLeDiff, Nat.reduceLT, Nat.reduceSub]
  intros
  refine hK4 _ ?_
  clear hK4
  refine aw_block ?_
  refine aw_retag 5 0 1003 (by simp only [amset, amlib, zset, sxL_length, eq_self, ↓reduceIte, reduceCtorEq, Nat.reduceBEq, Nat.reduceEqDiff, Nat.reduceAdd, Nat.reduceMul, Nat.reduceLeDiff, Nat.reduceLT, Nat.reduceSub]) ?_
  refine aw_norm (by simp only [amset, amlib, zset, sxL_length, eq_self, ↓reduceIte, reduceCtorEq, Nat.reduceBEq, Nat.reduceEqDiff, Nat.reduceAdd, Nat.reduceMul, Nat.reduceLeDiff, Nat.reduceLT, Nat.reduceSub]; exact rfl) ?_
  refine aw_range (α := Ex) (l) (fun dn => True) (fun dn => [(5, .cell (.own 1003 0 32 6 (encEs (sxL (fun q => amFind q es) dn)))), (10, .cell (.c (.int .i64 dn.length)))]) (fun dn => []) [1003] [5, 7, 10, 11, 12, 13, 14, 15, 16, 17, 18, 19, 20] [7] trivial ?_ ?_ ?_ ?_
  · simp only [amset, amlib, zset, sxL_length, eq_self, ↓reduceIte, reduceCtorEq, Nat.reduceBEq, Nat.reduceEqDiff, Nat.reduceAdd, Nat.reduceMul, Nat.reduceLeDiff, Nat.reduceLT, Nat.reduceSub] <;> simp [sxL, sxL_append, encEs_append, encEs_nil, encEs_cons, encE_eq]
  · simp only [amset, amlib, zset, sxL_length, eq_self, ↓reduceIte, reduceCtorEq, Nat.reduceBEq, Nat.reduceEqDiff, Nat.reduceAdd, Nat.reduceMul, Nat.reduceLeDiff, Nat.reduceLT, Nat.reduceSub] <;> simp [sxL, sxL_append, encEs_append, encEs_nil, encEs_cons, encE_eq]
  · intro hI R
    refine aw_norm (by simp only [amset, amlib, zset, sxL_length, eq_self, ↓reduceIte, reduceCtorEq, Nat.reduceBEq, Nat.reduceEqDiff, Nat.reduceAdd, Nat.reduceMul, Nat.reduceLeDiff, Nat.reduceLT, Nat.reduceSub]; exact rfl) ?_
    refine aw_ops zT fun K5 hK5 => ?_
    simp only [amset, amlib, zset, sxL_length, eq_self, ↓reduceIte, reduceCtorEq, Nat.reduceBEq, Nat.reduceEqDiff, Nat.reduceAdd, Nat.reduceMul, Nat.reduceLeDiff, Nat.reduceLT, Nat.reduceSub]
    refine hK5 _ ?_
    clear hK5
    refine aw_seq fun K6 hK6 => ?_
    refine aw_cond (t := false) (by simp [evalO, S.get, amLook]) (fun h => nomatch h) (fun _ => ?_)
    refine aw_exit ?_
    simp only [thenQ, blkQ, if_true, reduceIte, Nat.reduceEqDiff, eq_self]
    refine hK3 _ ?_
    clear hK3
    refine aw_ops zT fun K7 hK7 => ?_
    simp only [amset, amlib, zset, sxL_length, eq_self, ↓reduceIte, reduceCtorEq, Nat.reduceBEq, Nat.reduceEqDiff, Nat.reduceAdd, Nat.reduceMul, Nat.reduceLeDiff, Nat.reduceLT, Nat.reduceSub]
    refine hK7 _ ?_
    clear hK7
    refine aw_ret ?_
    show resOf zG _ [.tmp 4] = some _
    simp only [amset, amlib, zset, sxL_length, eq_self, ↓reduceIte, reduceCtorEq, Nat.reduceBEq, Nat.reduceEqDiff, Nat.reduceAdd, Nat.reduceMul, Nat.reduceLeDiff, Nat.reduceLT, Nat.reduceSub]
  · intro dn y td harg hI R hR
    have hl : (l).length = dn.length + (td.length + 1) := by rw [harg]; simp
    have hmem : y ∈ l := by rw [harg]; simp
    refine aw_norm (by simp only [amset, amlib, zset, sxL_length, eq_self, ↓reduceIte, reduceCtorEq, Nat.reduceBEq, Nat.reduceEqDiff, Nat.reduceAdd, Nat.reduceMul, Nat.reduceLeDiff, Nat.reduceLT, Nat.reduceSub]; exact rfl) ?_
    have hget : (encEs (l)).getD dn.length [] = encE y := by rw [harg]; exact encEs_mid dn td y
    refine aw_ops zT fun K8 hK8 => ?_
    simp only [amset, amlib, zset, sxL_length, eq_self, ↓reduceIte, reduceCtorEq, Nat.reduceBEq, Nat.reduceEqDiff, Nat.reduceAdd, Nat.reduceMul, Nat.reduceLeDiff, Nat.reduceLT, Nat.reduceSub]
    refine hK8 _ ?_
    clear hK8
    refine aw_seq fun K9 hK9 => ?_
    refine aw_cond (t := true) (by simp [evalO, S.get, amLook]; omega) (fun _ => ?_) (fun h => nomatch h)
    refine aw_skip ?_
    simp only [thenQ, blkQ, if_true, reduceIte, Nat.reduceEqDiff, eq_self]
    refine hK9 _ ?_
    clear hK9
    refine aw_seq fun K10 hK10 => ?_
    refine aw_block ?_
    refine aw_ops zT fun K11 hK11 => ?_
    simp only [amset, amlib, zset, hget, sxL_length, eq_self, ↓reduceIte, reduceCtorEq, Nat.reduceBEq, Nat.reduceEqDiff, Nat.reduceAdd, Nat.reduceMul, Nat.reduceLeDiff, Nat.reduceLT, Nat.reduceSub]
    refine ⟨⟨by omega, by omega⟩, ?_⟩
    refine hK11 _ ?_
    clear hK11
    refine aw_region zT ?_
    simp only [amset, amlib, zset, sxL_length, eq_self, ↓reduceIte, reduceCtorEq, Nat.reduceBEq, Nat.reduceEqDiff, Nat.reduceAdd, Nat.reduceMul, Nat.reduceLeDiff, Nat.reduceLT, Nat.reduceSub]
    refine ⟨_, ih y hmem, ?_⟩
    simp only [later]
    simp only [amset, amlib, zset, sxL_length, eq_self, ↓reduceIte, reduceCtorEq, Nat.reduceBEq, Nat.reduceEqDiff, Nat.reduceAdd, Nat.reduceMul, Nat.reduceLeDiff, Nat.reduceLT, Nat.reduceSub]
    refine ⟨⟨by simp, by omega⟩, ?_⟩
    refine hK10 _ ?_
    clear hK10
    refine aw_region zT ?_
    simp only [amset, amlib, zset, sxL_length, eq_self, ↓reduceIte, reduceCtorEq, Nat.reduceBEq, Nat.reduceEqDiff, Nat.reduceAdd, Nat.reduceMul, Nat.reduceLeDiff, Nat.reduceLT, Nat.reduceSub]
    refine ⟨⟨by omega, by omega⟩, ?_⟩
    refine hR _ trivial ?_
    refine Reach.trans (Reach.retag 19 0 1003 ?_) (Reach.to ?_ ?_)
    · simp only [amset, amlib, zset, sxL_length, eq_self, ↓reduceIte, reduceCtorEq, Nat.reduceBEq, Nat.reduceEqDiff, Nat.reduceAdd, Nat.reduceMul, Nat.reduceLeDiff, Nat.reduceLT, Nat.reduceSub]
    · simp only [amset, amlib, zset, sxL_length, eq_self, ↓reduceIte, reduceCtorEq, Nat.reduceBEq, Nat.reduceEqDiff, Nat.reduceAdd, Nat.reduceMul, Nat.reduceLeDiff, Nat.reduceLT, Nat.reduceSub] <;> simp [sxL, sxL_append, encEs_append, encEs_nil, encEs_cons, encE_eq]
    · simp only [amset, amlib, zset, sxL_length, eq_self, ↓reduceIte, reduceCtorEq, Nat.reduceBEq, Nat.reduceEqDiff, Nat.reduceAdd, Nat.reduceMul, Nat.reduceLeDiff, Nat.reduceLT, Nat.reduceSub] <;> simp [sxL, sxL_append, encEs_append, encEs_nil, encEs_cons, encE_eq]
theorem holds64 (es : List (List UInt8 × Int)) (hlk : lkOk (fun q => amFind q es)) (x : Ex) (hx : okE x) (hw : wdE x) (hs : (subE x).length ≤ 1000000000000) : Holds Tryz.prog zG 64 [.agg [.map .i16 es], .agg [.int .i64 x.kind, .str x.name, .int .i16 x.value, .int .i64 x.op, .sl 6 (encEs x.args), .int .i64 x.pos]] [.agg [.int .i64 (sxE (fun q => amFind q es) x).kind, .str (sxE (fun q => amFind q es) x).name, .int .i16 (sxE (fun q => amFind q es) x).value, .int .i64 (sxE (fun q => amFind q es) x).op, .sl 6 (encEs (sxE (fun q => amFind q es) x).args), .int .i64 (sxE (fun q => amFind q es) x).pos]] :=
  have ih : ∀ y ∈ x.args, Holds Tryz.prog zG 64 [.agg [.map .i16 es], .agg [.int .i64 y.kind, .str y.name, .int .i16 y.value, .int .i64 y.op, .sl 6 (encEs y.args), .int .i64 y.pos]] [.agg [.int .i64 (sxE (fun q => amFind q es) y).kind, .str (sxE (fun q => amFind q es) y).name, .int .i16 (sxE (fun q => amFind q es) y).value, .int .i64 (sxE (fun q => amFind q es) y).op, .sl 6 (encEs (sxE (fun q => amFind q es) y).args), .int .i64 (sxE (fun q => amFind q es) y).pos]] := fun y hy => holds64 es hlk y (okL_mem (okE_eq x ▸ hx).2 hy) (wdL_mem (wdE_eq x ▸ hw).2 hy) (by have := subL_mem hy; have := subE_len x; omega)
  step64 es hlk x hx hw ih (step141 es hlk x.args (by have := subL_len x.args; have := subE_len x; omega) ih)
  termination_by SizeOf.sizeOf x
  decreasing_by exact Ex.args_lt hy
theorem holds141 (es : List (List UInt8 × Int)) (hlk : lkOk (fun q => amFind q es)) (l : List Ex) (hx : okL l) (hw : wdL l) (hs : (subL l).length ≤ 1000000000000) : Holds Tryz.prog zG 141 [.agg [.map .i16 es], .c (.sl 6 (encEs l))] [.c (.sl 6 (encEs (sxL (fun q => amFind q es) l)))] :=
  step141 es hlk l (by have := subL_len l; omega) fun y hy => holds64 es hlk y (okL_mem hx hy) (wdL_mem hw hy) (by have := subL_mem hy; omega)
end Go.Proofs.Am
set_option maxRecDepth 100000
set_option maxHeartbeats 4000000
namespace Go.Proofs.Am
def levTab : List Int := [0, 0, 0, 4, 4, 5, 5, 5, 3, 3, 3, 3, 3, 3, 2, 1]
def symTab : List (List UInt8) := [[], [45], [33], [43], [45], [42], [47], [37], [61, 61], [33, 61], [60], [60, 61], [62], [62, 61], [38, 38], [124, 124]]
def levI (o : Int) : Int := levTab.getD o.toNat 0
def symI (o : Int) : List UInt8 := symTab.getD o.toNat []
theorem map_drop {α : Type} (f : α → C) (l : List α) (n : Nat) (d : α) (h : n < l.length) : (l.map f).drop (n * 1) = f (l.getD n d) :: (l.map f).drop (n + 1) := by
  rw [Nat.mul_one, List.drop_eq_getElem_cons (by simpa using h)]
  simp [List.getD_eq_getElem?_getD, List.getElem?_eq_getElem h]
theorem lev_at (o : Int) (h : 0 ≤ o ∧ o < 16) : gLevels.drop (o.toNat * 1) = .int .i64 (levI o) :: gLevels.drop (o.toNat + 1) := map_drop (C.int .i64) levTab o.toNat 0 (by simp [levTab]; omega)
theorem sym_at (o : Int) (h : 0 ≤ o ∧ o < 16) : gSymbols.drop (o.toNat * 1) = .str (symI o) :: gSymbols.drop (o.toNat + 1) := map_drop C.str symTab o.toNat [] (by simp [symTab]; omega)
theorem lev_range (o : Int) : 0 ≤ levI o ∧ levI o ≤ 5 := by
  unfold levI
  by_cases h : o.toNat < levTab.length
  · rw [List.getD_eq_getElem?_getD, List.getElem?_eq_getElem h]
    have : ∀ z ∈ levTab, 0 ≤ z ∧ z ≤ 5 := by decide
    exact this _ (List.getElem_mem h)
  · rw [List.getD_eq_getElem?_getD, List.getElem?_eq_none (by omega)]
    decide
theorem sym_len (o : Int) : (symI o).length ≤ 2 := by
  unfold symI
  by_cases h : o.toNat < symTab.length
  · rw [List.getD_eq_getElem?_getD, List.getElem?_eq_getElem h]
    have : ∀ z ∈ symTab, z.length ≤ 2 := by decide
    exact this _ (List.getElem_mem h)
  · rw [List.getD_eq_getElem?_getD, List.getElem?_eq_none (by omega)]
    decide
def lvA (x : Ex) : Int := if x.kind == 6 then levI x.op else if x.kind == 5 then 6 else 7
def opS (p : Int × List UInt8) (least : Int) : List UInt8 := if decide (p.1 < least) then [40] ++ p.2 ++ [41] else p.2
def bnT (o : Int) (a b : Int × List UInt8) : List UInt8 := opS a (if levI o == 3 then levI o + 1 else levI o) ++ [32] ++ symI o ++ [32] ++ opS b (levI o + 1)
mutual
def txA : Ex → List UInt8
  | .mk k n v o a _ => if k == 1 then Lib.itoa v else if k == 2 then n else if k == 3 then n ++ [91] ++ ((txL a).getD 0 (0, [])).2 ++ [93] else if k == 4 then [114, 101, 97, 100, 40] ++ n ++ [41] else if k == 5 then symI o ++ opS ((txL a).getD 0 (0, [])) 6 else bnT o ((txL a).getD 0 (0, [])) ((txL a).getD 1 (0, []))
def txL : List Ex → List (Int × List UInt8)
  | [] => []
  | x :: r => (lvA x, txA x) :: txL r
end
theorem txA_eq (x : Ex) : txA x = if x.kind == 1 then Lib.itoa x.value else if x.kind == 2 then x.name else if x.kind == 3 then x.name ++ [91] ++ ((txL x.args).getD 0 (0, [])).2 ++ [93] else if x.kind == 4 then [114, 101, 97, 100, 40] ++ x.name ++ [41] else if x.kind == 5 then symI x.op ++ opS ((txL x.args).getD 0 (0, [])) 6 else bnT x.op ((txL x.args).getD 0 (0, [])) ((txL x.args).getD 1 (0, [])) := by cases x; rw [txA]; rfl
theorem txL_map (l : List Ex) : txL l = l.map fun y => (lvA y, txA y) := by
  induction l with
  | nil => rfl
  | cons x r ih => simp [txL, ih]
theorem txL_getD (l : List Ex) (n : Nat) (h : n < l.length) : (txL l).getD n (0, []) = (lvA l[n], txA l[n]) := by
  rw [txL_map, List.getD_eq_getElem?_getD, List.getElem?_map, List.getElem?_eq_getElem h]; rfl
theorem ident_len {s : List UInt8} (h : ident s = true) : s.length ≤ 32 := by
  rw [ident_eq] at h
  simp at h
  omega
/-- What a well-formed expression is. -/
theorem wf_facts {x : Ex} (h : wfA x = true) : ((x.kind = 1 ∧ x.args.length = 0 ∧ 0 ≤ x.value ∧ x.name = [] ∧ x.op = 0) ∨ (x.kind = 2 ∧ x.args.length = 0 ∧ ident x.name = true ∧ x.value = 0 ∧ x.op = 0) ∨ (x.kind = 4 ∧ x.args.length = 0 ∧ ident x.name = true ∧ x.value = 0 ∧ x.op = 0) ∨ (x.kind = 3 ∧ x.args.length = 1 ∧ ident x.name = true ∧ x.value = 0 ∧ x.op = 0) ∨ (x.kind = 5 ∧ x.args.length = 1 ∧ (1 ≤ x.op ∧ x.op ≤ 2) ∧ x.name = [] ∧ x.value = 0) ∨ (x.kind = 6 ∧ x.args.length = 2 ∧ (3 ≤ x.op ∧ x.op ≤ 15) ∧ x.name = [] ∧ x.value = 0)) ∧ ∀ y ∈ x.args, wfA y = true := by
  rw [wfA_eq] at h
  simp only [Bool.and_eq_true, Bool.not_eq_true', List.any_eq_false, Bool.not_eq_true, Bool.not_eq_false'] at h
  obtain ⟨⟨h1, h2⟩, h3⟩ := h
  refine ⟨?_, fun y hy => by simpa using h3 y hy⟩
  have h2 : (x.args.length : Int) = (plainP x).1 := by simpa using h2
  clear h3
  obtain ⟨k, n, v, o, a, p⟩ := x
  simp only [plainP, sameE, Ex.kind, Ex.name, Ex.value, Ex.op, Ex.args] at h1 h2 ⊢
  by_cases k1 : k = 1
  · simp [k1] at h1 h2 ⊢; simp [h1, h2]
  · by_cases k2 : k = 2
    · simp [k2] at h1 h2 ⊢; simp [h1, h2]
    · by_cases k4 : k = 4
      · simp [k4] at h1 h2 ⊢; simp [h1, h2]
      · by_cases k3 : k = 3
        · simp [k3] at h1 h2 ⊢; simp [h1]; omega
        · by_cases k5 : k = 5
          · simp [k5] at h1 h2 ⊢; obtain ⟨⟨a1, a2⟩, a3, a4⟩ := h1; have a2 := of_decide_eq_true a2; simp [a1, a2, a3, a4]; omega
          · by_cases k6 : k = 6
            · simp [k6] at h1 h2 ⊢; obtain ⟨⟨a1, a2⟩, a3, a4⟩ := h1; have a2 := of_decide_eq_true a2; simp [a1, a2, a3, a4]; omega
            · simp [k1, k2, k3, k4, k5, k6] at h1
theorem subL_two : ∀ (l : List Ex) (h : l.length = 2), (subL l).length = (subE l[0]).length + (subE l[1]).length
  | [a, b], _ => by simp [subL]
theorem opS_len (p : Int × List UInt8) (l : Int) : (opS p l).length ≤ p.2.length + 2 := by
  unfold opS
  split <;> simp
theorem opS_len' (a : Int) (t : List UInt8) (l : Int) : (opS (a, t) l).length ≤ t.length + 2 := opS_len (a, t) l
theorem txA_len (x : Ex) (h : wfA x = true) (hv : i16r x.value) (hw : wdL x.args) : (txA x).length + 10 ≤ 64 * (subE x).length := by
  obtain ⟨hk, ha⟩ := wf_facts h
  have hs := subE_len x
  have hd := sym_len x.op
  have arg : ∀ n (hn : n < x.args.length), (txA x.args[n]).length + 10 ≤ 64 * (subE x.args[n]).length := fun n hn =>
    have hm := wdL_mem hw (List.getElem_mem hn)
    txA_len x.args[n] (ha _ (List.getElem_mem hn)) (wdE_eq x.args[n] ▸ hm).1 (wdE_eq x.args[n] ▸ hm).2
  rw [txA_eq]
  rcases hk with ⟨k, l, r⟩ | ⟨k, l, r, r2⟩ | ⟨k, l, r, r2⟩ | ⟨k, l, r, r2⟩ | ⟨k, l, r, r2⟩ | ⟨k, l, r, r2⟩ <;> simp only [k, Int.reduceBEq, ↓reduceIte, Bool.false_eq_true]
  · unfold i16r at hv
    have := Lib.itoa_length_le x.value (by omega) (by omega)
    omega
  · have := ident_len r; omega
  · have := ident_len r; simp only [List.length_append, List.length_cons, List.length_nil]; omega
  · have := ident_len r
    have h0 := arg 0 (by omega)
    have h1 := subL_mem (l := x.args) (List.getElem_mem (show 0 < x.args.length by omega))
    rw [txL_getD _ 0 (by omega)]
    simp only [List.length_append, List.length_cons, List.length_nil]
    omega
  · have h0 := arg 0 (by omega)
    have h1 := subL_mem (l := x.args) (List.getElem_mem (show 0 < x.args.length by omega))
    rw [txL_getD _ 0 (by omega)]
    have := opS_len (lvA x.args[0], txA x.args[0]) 6
    simp only [List.length_append] at *
    omega
  · have h0 := arg 0 (by omega)
    have h1 := arg 1 (by omega)
    have h2 := subL_two x.args l
    rw [txL_getD _ 0 (by omega), txL_getD _ 1 (by omega)]
    have e0 := opS_len (lvA x.args[0], txA x.args[0]) (if levI x.op == 3 then levI x.op + 1 else levI x.op)
    have e1 := opS_len (lvA x.args[1], txA x.args[1]) (levI x.op + 1)
    simp only [bnT, List.length_append, List.length_cons, List.length_nil] at *
    omega
  termination_by SizeOf.sizeOf x
  decreasing_by exact Ex.args_lt (List.getElem_mem _)
theorem prog166 : Tryz.prog.funcs[166]? = some Tryz.f166 := by kernel_rfl
theorem holds166 (x : Ex) (hop : x.kind = 6 → 0 ≤ x.op ∧ x.op < 16) : Holds Tryz.prog zG 166 [.agg [.int .i64 x.kind, .str x.name, .int .i16 x.value, .int .i64 x.op, .sl 6 (encEs x.args), .int .i64 x.pos]] [.c (.int .i64 (lvA x))] := by
  refine holds_of_body zT prog166 rfl rfl rfl (by simp [Tryz.f166]) ?_
  refine aw_ops zT fun K1 hK1 => ?_
  simp only [amset, amlib, zset, eq_self, ↓reduceIte, reduceCtorEq, Nat.reduceBEq, Nat.reduceEqDiff, Nat.reduceAdd, Nat.reduceMul, Nat.reduceLeDiff, Nat.reduceLT, Nat.reduceSub]
  refine hK1 _ ?_
  clear hK1
  refine aw_seq fun K2 hK2 => ?_
  refine aw_ops zT fun K3 hK3 => ?_
  simp only [amset, amlib, zset, eq_self, ↓reduceIte, reduceCtorEq, Nat.reduceBEq, Nat.reduceEqDiff, Nat.reduceAdd, Nat.reduceMul, Nat.reduceLeDiff, Nat.reduceLT, Nat.reduceSub]
  refine hK3 _ ?_
  clear hK3
  refine aw_block ?_
  refine aw_ops zT fun K4 hK4 => ?_
  simp only [amset, amlib, zset, eq_self, ↓reduceIte, reduceCtorEq, Nat.reduceBEq, Nat.reduceEqDiff, Nat.reduceAdd, Nat.reduceMul, Nat.reduceLeDiff, Nat.reduceLT, Nat.reduceSub]
  refine hK4 _ ?_
  clear hK4
  refine aw_cond rfl (fun h0 => ?_) (fun h0 => ?_)
  · skip
    have ho := hop (by simpa using h0)
    have hlev := lev_at x.op ho
    refine aw_ops zT fun K5 hK5 => ?_
    simp only [amset, amlib, zset, hlev, eq_self, ↓reduceIte, reduceCtorEq, Nat.reduceBEq, Nat.reduceEqDiff, Nat.reduceAdd, Nat.reduceMul, Nat.reduceLeDiff, Nat.reduceLT, Nat.reduceSub]
    refine ⟨⟨by omega, by omega⟩, ?_⟩
    refine hK5 _ ?_
    clear hK5
    refine aw_ret ?_
    show resOf zG _ [.tmp 2] = some _
    simp only [amset, amlib, zset, eq_self, ↓reduceIte, reduceCtorEq, Nat.reduceBEq, Nat.reduceEqDiff, Nat.reduceAdd, Nat.reduceMul, Nat.reduceLeDiff, Nat.reduceLT, Nat.reduceSub]
    simp only [lvA, h0, Bool.true_or, Bool.or_true, Bool.false_or, Bool.or_false, Bool.true_and, Bool.and_true, Bool.false_and, Bool.and_false, Bool.not_true, Bool.not_false, if_true, if_false, ↓reduceIte, Bool.false_eq_true]
  · skip
    refine aw_ops zT fun K6 hK6 => ?_
    simp only [amset, amlib, zset, eq_self, ↓reduceIte, reduceCtorEq, Nat.reduceBEq, Nat.reduceEqDiff, Nat.reduceAdd, Nat.reduceMul, Nat.reduceLeDiff, Nat.reduceLT, Nat.reduceSub]
    refine hK6 _ ?_
    clear hK6
    refine aw_cond rfl (fun h1 => ?_) (fun h1 => ?_)
    · skip
      refine aw_ops zT fun K7 hK7 => ?_
      simp only [amset, amlib, zset, eq_self, ↓reduceIte, reduceCtorEq, Nat.reduceBEq, Nat.reduceEqDiff, Nat.reduceAdd, Nat.reduceMul, Nat.reduceLeDiff, Nat.reduceLT, Nat.reduceSub]
      refine hK7 _ ?_
      clear hK7
      refine aw_ret ?_
      show resOf zG _ [.tmp 2] = some _
      simp only [amset, amlib, zset, eq_self, ↓reduceIte, reduceCtorEq, Nat.reduceBEq, Nat.reduceEqDiff, Nat.reduceAdd, Nat.reduceMul, Nat.reduceLeDiff, Nat.reduceLT, Nat.reduceSub]
      simp only [lvA, h0, h1, Bool.true_or, Bool.or_true, Bool.false_or, Bool.or_false, Bool.true_and, Bool.and_true, Bool.false_and, Bool.and_false, Bool.not_true, Bool.not_false, if_true, if_false, ↓reduceIte, Bool.false_eq_true]
    · skip
      refine aw_skip ?_
      simp only [thenQ, blkQ, if_true, reduceIte, Nat.reduceEqDiff, eq_self]
      refine hK2 _ ?_
      clear hK2
      refine aw_ops zT fun K8 hK8 => ?_
      simp only [amset, amlib, zset, eq_self, ↓reduceIte, reduceCtorEq, Nat.reduceBEq, Nat.reduceEqDiff, Nat.reduceAdd, Nat.reduceMul, Nat.reduceLeDiff, Nat.reduceLT, Nat.reduceSub]
      refine hK8 _ ?_
      clear hK8
      refine aw_ret ?_
      show resOf zG _ [.tmp 2] = some _
      simp only [amset, amlib, zset, eq_self, ↓reduceIte, reduceCtorEq, Nat.reduceBEq, Nat.reduceEqDiff, Nat.reduceAdd, Nat.reduceMul, Nat.reduceLeDiff, Nat.reduceLT, Nat.reduceSub]
      simp only [lvA, h0, h1, Bool.true_or, Bool.or_true, Bool.false_or, Bool.or_false, Bool.true_and, Bool.and_true, Bool.false_and, Bool.and_false, Bool.not_true, Bool.not_false, if_true, if_false, ↓reduceIte, Bool.false_eq_true]
theorem prog165 : Tryz.prog.funcs[165]? = some Tryz.f165 := by kernel_rfl
theorem step165 (x : Ex) (least : Int) (hop : x.kind = 6 → 0 ≤ x.op ∧ x.op < 16) (hl : (txA x).length ≤ 64000000000000) (ih : Holds Tryz.prog zG 94 [.agg [.int .i64 x.kind, .str x.name, .int .i16 x.value, .int .i64 x.op, .sl 6 (encEs x.args), .int .i64 x.pos]] [.c (.str (txA x))]) : Holds Tryz.prog zG 165 [.agg [.int .i64 x.kind, .str x.name, .int .i16 x.value, .int .i64 x.op, .sl 6 (encEs x.args), .int .i64 x.pos], .c (.int .i64 least)] [.c (.str (opS (lvA x, txA x) least))] := by
  refine holds_of_body zT prog165 rfl rfl rfl (by simp [Tryz.f165]) ?_
  refine aw_ops zT fun K1 hK1 => ?_
  simp only [amset, amlib, zset, eq_self, ↓reduceIte, reduceCtorEq, Nat.reduceBEq, Nat.reduceEqDiff, Nat.reduceAdd, Nat.reduceMul, Nat.reduceLeDiff, Nat.reduceLT, Nat.reduceSub]
  refine hK1 _ ?_
  clear hK1
  refine aw_seq fun K2 hK2 => ?_
  refine aw_ops zT fun K3 hK3 => ?_
  simp only [amset, amlib, zset, eq_self, ↓reduceIte, reduceCtorEq, Nat.reduceBEq, Nat.reduceEqDiff, Nat.reduceAdd, Nat.reduceMul, Nat.reduceLeDiff, Nat.reduceLT, Nat.reduceSub]
  refine ⟨_, holds166 x hop, ?_⟩
  simp only [later]
  simp only [amset, amlib, zset, eq_self, ↓reduceIte, reduceCtorEq, Nat.reduceBEq, Nat.reduceEqDiff, Nat.reduceAdd, Nat.reduceMul, Nat.reduceLeDiff, Nat.reduceLT, Nat.reduceSub]
  refine hK3 _ ?_
  clear hK3
  refine aw_cond rfl (fun h0 => ?_) (fun h0 => ?_)
  · skip
    refine aw_ops zT fun K4 hK4 => ?_
    simp only [amset, amlib, zset, eq_self, ↓reduceIte, reduceCtorEq, Nat.reduceBEq, Nat.reduceEqDiff, Nat.reduceAdd, Nat.reduceMul, Nat.reduceLeDiff, Nat.reduceLT, Nat.reduceSub]
    refine ⟨_, ih, ?_⟩
    simp only [later]
    simp only [amset, amlib, zset, eq_self, ↓reduceIte, reduceCtorEq, Nat.reduceBEq, Nat.reduceEqDiff, Nat.reduceAdd, Nat.reduceMul, Nat.reduceLeDiff, Nat.reduceLT, Nat.reduceSub]
    refine ⟨by omega, ?_⟩
    refine ⟨by omega, ?_⟩
    refine hK4 _ ?_
    clear hK4
    refine aw_ret ?_
    show resOf zG _ [.tmp 4] = some _
    simp only [amset, amlib, zset, eq_self, ↓reduceIte, reduceCtorEq, Nat.reduceBEq, Nat.reduceEqDiff, Nat.reduceAdd, Nat.reduceMul, Nat.reduceLeDiff, Nat.reduceLT, Nat.reduceSub]
    simp only [opS, h0, Bool.true_or, Bool.or_true, Bool.false_or, Bool.or_false, Bool.true_and, Bool.and_true, Bool.false_and, Bool.and_false, Bool.not_true, Bool.not_false, if_true, if_false, ↓reduceIte, Bool.false_eq_true, List.cons_append, List.nil_append]
  · skip
    refine aw_skip ?_
    simp only [thenQ, blkQ, if_true, reduceIte, Nat.reduceEqDiff, eq_self]
    refine hK2 _ ?_
    clear hK2
    refine aw_ops zT fun K5 hK5 => ?_
    simp only [amset, amlib, zset, eq_self, ↓reduceIte, reduceCtorEq, Nat.reduceBEq, Nat.reduceEqDiff, Nat.reduceAdd, Nat.reduceMul, Nat.reduceLeDiff, Nat.reduceLT, Nat.reduceSub]
    refine ⟨_, ih, ?_⟩
    simp only [later]
    simp only [amset, amlib, zset, eq_self, ↓reduceIte, reduceCtorEq, Nat.reduceBEq, Nat.reduceEqDiff, Nat.reduceAdd, Nat.reduceMul, Nat.reduceLeDiff, Nat.reduceLT, Nat.reduceSub]
    refine hK5 _ ?_
    clear hK5
    refine aw_ret ?_
    show resOf zG _ [.tmp 4] = some _
    simp only [amset, amlib, zset, eq_self, ↓reduceIte, reduceCtorEq, Nat.reduceBEq, Nat.reduceEqDiff, Nat.reduceAdd, Nat.reduceMul, Nat.reduceLeDiff, Nat.reduceLT, Nat.reduceSub]
    simp only [opS, h0, Bool.true_or, Bool.or_true, Bool.false_or, Bool.or_false, Bool.true_and, Bool.and_true, Bool.false_and, Bool.and_false, Bool.not_true, Bool.not_false, if_true, if_false, ↓reduceIte, Bool.false_eq_true, List.cons_append, List.nil_append]
theorem prog94 : Tryz.prog.funcs[94]? = some Tryz.f94 := by kernel_rfl
theorem step94 (x : Ex) (hx : wfA x = true) (hv : i16r x.value) (hw : wdL x.args) (hs : (subE x).length ≤ 1000000000000) (ih : ∀ y ∈ x.args, Holds Tryz.prog zG 94 [.agg [.int .i64 y.kind, .str y.name, .int .i16 y.value, .int .i64 y.op, .sl 6 (encEs y.args), .int .i64 y.pos]] [.c (.str (txA y))]) (ihop : ∀ y ∈ x.args, ∀ least : Int, Holds Tryz.prog zG 165 [.agg [.int .i64 y.kind, .str y.name, .int .i16 y.value, .int .i64 y.op, .sl 6 (encEs y.args), .int .i64 y.pos], .c (.int .i64 least)] [.c (.str (opS (lvA y, txA y) least))]) : Holds Tryz.prog zG 94 [.agg [.int .i64 x.kind, .str x.name, .int .i16 x.value, .int .i64 x.op, .sl 6 (encEs x.args), .int .i64 x.pos]] [.c (.str (txA x))] := by
  refine holds_of_body zT prog94 rfl rfl rfl (by simp [Tryz.f94]) ?_
  refine aw_ops zT fun K1 hK1 => ?_
  simp only [amset, amlib, zset, eq_self, ↓reduceIte, reduceCtorEq, Nat.reduceBEq, Nat.reduceEqDiff, Nat.reduceAdd, Nat.reduceMul, Nat.reduceLeDiff, Nat.reduceLT, Nat.reduceSub]
  refine hK1 _ ?_
  clear hK1
  refine aw_seq fun K2 hK2 => ?_
  refine aw_ops zT fun K3 hK3 => ?_
  simp only [amset, amlib, zset, eq_self, ↓reduceIte, reduceCtorEq, Nat.reduceBEq, Nat.reduceEqDiff, Nat.reduceAdd, Nat.reduceMul, Nat.reduceLeDiff, Nat.reduceLT, Nat.reduceSub]
  refine hK3 _ ?_
  clear hK3
  refine aw_block ?_
  refine aw_ops zT fun K4 hK4 => ?_
  simp only [amset, amlib, zset, eq_self, ↓reduceIte, reduceCtorEq, Nat.reduceBEq, Nat.reduceEqDiff, Nat.reduceAdd, Nat.reduceMul, Nat.reduceLeDiff, Nat.reduceLT, Nat.reduceSub]
  refine hK4 _ ?_
  clear hK4
  refine aw_cond rfl (fun h0 => ?_) (fun h0 => ?_)
  · skip
    have ev := i64_same (n := x.value) (by unfold i16r at hv; omega)
    refine aw_ops zT fun K5 hK5 => ?_
    simp only [amset, amlib, zset, ev, eq_self, ↓reduceIte, reduceCtorEq, Nat.reduceBEq, Nat.reduceEqDiff, Nat.reduceAdd, Nat.reduceMul, Nat.reduceLeDiff, Nat.reduceLT, Nat.reduceSub]
    refine ⟨_, holds86 x.value (by unfold i16r at hv; omega) (by unfold i16r at hv; omega), ?_⟩
    simp only [later]
    simp only [amset, amlib, zset, ev, eq_self, ↓reduceIte, reduceCtorEq, Nat.reduceBEq, Nat.reduceEqDiff, Nat.reduceAdd, Nat.reduceMul, Nat.reduceLeDiff, Nat.reduceLT, Nat.reduceSub]
    refine hK5 _ ?_
    clear hK5
    refine aw_ret ?_
    show resOf zG _ [.tmp 2] = some _
    simp only [amset, amlib, zset, eq_self, ↓reduceIte, reduceCtorEq, Nat.reduceBEq, Nat.reduceEqDiff, Nat.reduceAdd, Nat.reduceMul, Nat.reduceLeDiff, Nat.reduceLT, Nat.reduceSub]
    rw [txA_eq x]
    simp only [h0, ↓reduceIte, Bool.false_eq_true, bnT, List.append_assoc, List.cons_append, List.nil_append]
  · skip
    refine aw_ops zT fun K6 hK6 => ?_
    simp only [amset, amlib, zset, eq_self, ↓reduceIte, reduceCtorEq, Nat.reduceBEq, Nat.reduceEqDiff, Nat.reduceAdd, Nat.reduceMul, Nat.reduceLeDiff, Nat.reduceLT, Nat.reduceSub]
    refine hK6 _ ?_
    clear hK6
    refine aw_cond rfl (fun h1 => ?_) (fun h1 => ?_)
    · skip
      refine aw_ops zT fun K7 hK7 => ?_
      simp only [amset, amlib, zset, eq_self, ↓reduceIte, reduceCtorEq, Nat.reduceBEq, Nat.reduceEqDiff, Nat.reduceAdd, Nat.reduceMul, Nat.reduceLeDiff, Nat.reduceLT, Nat.reduceSub]
      refine hK7 _ ?_
      clear hK7
      refine aw_ret ?_
      show resOf zG _ [.tmp 2] = some _
      simp only [amset, amlib, zset, eq_self, ↓reduceIte, reduceCtorEq, Nat.reduceBEq, Nat.reduceEqDiff, Nat.reduceAdd, Nat.reduceMul, Nat.reduceLeDiff, Nat.reduceLT, Nat.reduceSub]
      rw [txA_eq x]
      simp only [h0, h1, ↓reduceIte, Bool.false_eq_true, bnT, List.append_assoc, List.cons_append, List.nil_append]
    · skip
      refine aw_ops zT fun K8 hK8 => ?_
      simp only [amset, amlib, zset, eq_self, ↓reduceIte, reduceCtorEq, Nat.reduceBEq, Nat.reduceEqDiff, Nat.reduceAdd, Nat.reduceMul, Nat.reduceLeDiff, Nat.reduceLT, Nat.reduceSub]
      refine hK8 _ ?_
      clear hK8
      refine aw_cond rfl (fun h2 => ?_) (fun h2 => ?_)
      · skip
        have hwf := wf_facts hx
        have hdl := sym_len x.op
        have hlr := lev_range x.op
        have hsz := subE_len x
        have hk : x.kind = 3 := by simpa using h2
        have ha : x.args.length = 1 := by omega
        have hnl : x.name.length ≤ 32 := ident_len (by rcases hwf.1 with ⟨k, r⟩ | ⟨k, r⟩ | ⟨k, r⟩ | ⟨k, l, r, _⟩ | ⟨k, r⟩ | ⟨k, r⟩ <;> first | exact r | omega)
        have hm0 : x.args[0] ∈ x.args := List.getElem_mem _
        have hget0 : (encEs x.args).getD (Int.toNat 0) [] = encE x.args[0] := encEs_getD _ 0 (by omega)
        have htx0 := txL_getD x.args 0 (by omega)
        have hn0 := txA_len x.args[0] (hwf.2 _ hm0) (wdE_eq x.args[0] ▸ wdL_mem hw hm0).1 (wdE_eq x.args[0] ▸ wdL_mem hw hm0).2
        have hq0 := subL_mem hm0
        have hol0 := fun l => opS_len' (lvA x.args[0]) (txA x.args[0]) l
        refine aw_draw zT prog_mixed fun K9 hK9 => ?_
        simp only [amset, amlib, zset, hget0, eq_self, ↓reduceIte, reduceCtorEq, Nat.reduceBEq, Nat.reduceEqDiff, Nat.reduceAdd, Nat.reduceMul, Nat.reduceLeDiff, Nat.reduceLT, Nat.reduceSub]
        refine ⟨by omega, ?_⟩
        refine ⟨⟨by omega, by omega⟩, ?_⟩
        refine ⟨_, ih _ (List.getElem_mem (h := by omega)), ?_⟩
        simp only [later]
        simp only [amset, amlib, zset, hget0, eq_self, ↓reduceIte, reduceCtorEq, Nat.reduceBEq, Nat.reduceEqDiff, Nat.reduceAdd, Nat.reduceMul, Nat.reduceLeDiff, Nat.reduceLT, Nat.reduceSub]
        refine ⟨by omega, ?_⟩
        refine ⟨by omega, ?_⟩
        refine ⟨by kernel_rfl, ?_⟩
        refine hK9 _ ?_
        clear hK9
        refine aw_ret ?_
        show resOf zG _ [.tmp 2] = some _
        simp only [amset, amlib, zset, eq_self, ↓reduceIte, reduceCtorEq, Nat.reduceBEq, Nat.reduceEqDiff, Nat.reduceAdd, Nat.reduceMul, Nat.reduceLeDiff, Nat.reduceLT, Nat.reduceSub]
        rw [txA_eq x]
        simp only [h0, h1, h2, htx0, ↓reduceIte, Bool.false_eq_true, bnT, List.append_assoc, List.cons_append, List.nil_append]
      · skip
        refine aw_ops zT fun K10 hK10 => ?_
        simp only [amset, amlib, zset, eq_self, ↓reduceIte, reduceCtorEq, Nat.reduceBEq, Nat.reduceEqDiff, Nat.reduceAdd, Nat.reduceMul, Nat.reduceLeDiff, Nat.reduceLT, Nat.reduceSub]
        refine hK10 _ ?_
        clear hK10
        refine aw_cond rfl (fun h3 => ?_) (fun h3 => ?_)
        · skip
          have hwf := wf_facts hx
          have hk : x.kind = 4 := by simpa using h3
          have hnl : x.name.length ≤ 32 := ident_len (by rcases hwf.1 with ⟨k, r⟩ | ⟨k, r⟩ | ⟨k, l, r, _⟩ | ⟨k, r⟩ | ⟨k, r⟩ | ⟨k, r⟩ <;> first | exact r | omega)
          refine aw_ops zT fun K11 hK11 => ?_
          simp only [amset, amlib, zset, eq_self, ↓reduceIte, reduceCtorEq, Nat.reduceBEq, Nat.reduceEqDiff, Nat.reduceAdd, Nat.reduceMul, Nat.reduceLeDiff, Nat.reduceLT, Nat.reduceSub]
          refine ⟨by omega, ?_⟩
          refine ⟨by omega, ?_⟩
          refine hK11 _ ?_
          clear hK11
          refine aw_ret ?_
          show resOf zG _ [.tmp 2] = some _
          simp only [amset, amlib, zset, eq_self, ↓reduceIte, reduceCtorEq, Nat.reduceBEq, Nat.reduceEqDiff, Nat.reduceAdd, Nat.reduceMul, Nat.reduceLeDiff, Nat.reduceLT, Nat.reduceSub]
          rw [txA_eq x]
          simp only [h0, h1, h2, h3, ↓reduceIte, Bool.false_eq_true, bnT, List.append_assoc, List.cons_append, List.nil_append]
        · skip
          refine aw_ops zT fun K12 hK12 => ?_
          simp only [amset, amlib, zset, eq_self, ↓reduceIte, reduceCtorEq, Nat.reduceBEq, Nat.reduceEqDiff, Nat.reduceAdd, Nat.reduceMul, Nat.reduceLeDiff, Nat.reduceLT, Nat.reduceSub]
          refine hK12 _ ?_
          clear hK12
          refine aw_cond rfl (fun h4 => ?_) (fun h4 => ?_)
          · skip
            have hwf := wf_facts hx
            have hdl := sym_len x.op
            have hlr := lev_range x.op
            have hsz := subE_len x
            have hk : x.kind = 5 := by simpa using h4
            have ha : x.args.length = 1 := by omega
            have ho : 1 ≤ x.op ∧ x.op ≤ 2 := by omega
            have hsy := sym_at x.op (by omega)
            have hm0 : x.args[0] ∈ x.args := List.getElem_mem _
            have hget0 : (encEs x.args).getD (Int.toNat 0) [] = encE x.args[0] := encEs_getD _ 0 (by omega)
            have htx0 := txL_getD x.args 0 (by omega)
            have hn0 := txA_len x.args[0] (hwf.2 _ hm0) (wdE_eq x.args[0] ▸ wdL_mem hw hm0).1 (wdE_eq x.args[0] ▸ wdL_mem hw hm0).2
            have hq0 := subL_mem hm0
            have hol0 := fun l => opS_len' (lvA x.args[0]) (txA x.args[0]) l
            have hol := hol0 6
            refine aw_draw zT prog_mixed fun K13 hK13 => ?_
            simp only [amset, amlib, zset, hget0, hsy, eq_self, ↓reduceIte, reduceCtorEq, Nat.reduceBEq, Nat.reduceEqDiff, Nat.reduceAdd, Nat.reduceMul, Nat.reduceLeDiff, Nat.reduceLT, Nat.reduceSub]
            refine ⟨⟨by omega, by omega⟩, ?_⟩
            refine ⟨⟨by omega, by omega⟩, ?_⟩
            refine ⟨_, ihop _ (List.getElem_mem (h := by omega)) _, ?_⟩
            simp only [later]
            simp only [amset, amlib, zset, hget0, hsy, eq_self, ↓reduceIte, reduceCtorEq, Nat.reduceBEq, Nat.reduceEqDiff, Nat.reduceAdd, Nat.reduceMul, Nat.reduceLeDiff, Nat.reduceLT, Nat.reduceSub]
            refine ⟨by omega, ?_⟩
            refine ⟨by kernel_rfl, ?_⟩
            refine hK13 _ ?_
            clear hK13
            refine aw_ret ?_
            show resOf zG _ [.tmp 2] = some _
            simp only [amset, amlib, zset, eq_self, ↓reduceIte, reduceCtorEq, Nat.reduceBEq, Nat.reduceEqDiff, Nat.reduceAdd, Nat.reduceMul, Nat.reduceLeDiff, Nat.reduceLT, Nat.reduceSub]
            rw [txA_eq x]
            simp only [h0, h1, h2, h3, h4, htx0, ↓reduceIte, Bool.false_eq_true, bnT, List.append_assoc, List.cons_append, List.nil_append]
          · skip
            refine aw_skip ?_
            simp only [thenQ, blkQ, if_true, reduceIte, Nat.reduceEqDiff, eq_self]
            refine hK2 _ ?_
            clear hK2
            have hwf := wf_facts hx
            have hdl := sym_len x.op
            have hlr := lev_range x.op
            have hsz := subE_len x
            simp only [beq_eq_false_iff_ne] at h0 h1 h2 h3 h4
            have hk : x.kind = 6 := by omega
            have hlv : lvA x = levI x.op := by simp [lvA, hk]
            have ha : x.args.length = 2 := by omega
            have ho : 3 ≤ x.op ∧ x.op ≤ 15 := by omega
            have hm0 : x.args[0] ∈ x.args := List.getElem_mem _
            have hget0 : (encEs x.args).getD (Int.toNat 0) [] = encE x.args[0] := encEs_getD _ 0 (by omega)
            have htx0 := txL_getD x.args 0 (by omega)
            have hn0 := txA_len x.args[0] (hwf.2 _ hm0) (wdE_eq x.args[0] ▸ wdL_mem hw hm0).1 (wdE_eq x.args[0] ▸ wdL_mem hw hm0).2
            have hq0 := subL_mem hm0
            have hol0 := fun l => opS_len' (lvA x.args[0]) (txA x.args[0]) l
            have hm1 : x.args[1] ∈ x.args := List.getElem_mem _
            have hget1 : (encEs x.args).getD (Int.toNat 1) [] = encE x.args[1] := encEs_getD _ 1 (by omega)
            have htx1 := txL_getD x.args 1 (by omega)
            have hn1 := txA_len x.args[1] (hwf.2 _ hm1) (wdE_eq x.args[1] ▸ wdL_mem hw hm1).1 (wdE_eq x.args[1] ▸ wdL_mem hw hm1).2
            have hq1 := subL_mem hm1
            have hol1 := fun l => opS_len' (lvA x.args[1]) (txA x.args[1]) l
            have hsy := sym_at x.op (by omega)
            have hlev8 : gLevels.drop (Int.toNat 8 * 1) = .int .i64 3 :: gLevels.drop 9 := rfl
            refine aw_ops zT fun K14 hK14 => ?_
            simp only [amset, amlib, zset, eq_self, ↓reduceIte, reduceCtorEq, Nat.reduceBEq, Nat.reduceEqDiff, Nat.reduceAdd, Nat.reduceMul, Nat.reduceLeDiff, Nat.reduceLT, Nat.reduceSub]
            refine ⟨_, holds166 x (fun _ => by omega), ?_⟩
            simp only [later]
            simp only [amset, amlib, zset, eq_self, ↓reduceIte, reduceCtorEq, Nat.reduceBEq, Nat.reduceEqDiff, Nat.reduceAdd, Nat.reduceMul, Nat.reduceLeDiff, Nat.reduceLT, Nat.reduceSub]
            refine hK14 _ ?_
            clear hK14
            refine aw_ops zT fun K15 hK15 => ?_
            simp only [amset, amlib, zset, hlv, eq_self, ↓reduceIte, reduceCtorEq, Nat.reduceBEq, Nat.reduceEqDiff, Nat.reduceAdd, Nat.reduceMul, Nat.reduceLeDiff, Nat.reduceLT, Nat.reduceSub]
            refine hK15 _ ?_
            clear hK15
            refine aw_seq fun K16 hK16 => ?_
            refine aw_ops zT fun K17 hK17 => ?_
            simp only [amset, amlib, zset, hlev8, hlv, eq_self, ↓reduceIte, reduceCtorEq, Nat.reduceBEq, Nat.reduceEqDiff, Nat.reduceAdd, Nat.reduceMul, Nat.reduceLeDiff, Nat.reduceLT, Nat.reduceSub]
            refine ⟨⟨by omega, by omega⟩, ?_⟩
            refine hK17 _ ?_
            clear hK17
            refine aw_cond rfl (fun h5 => ?_) (fun h5 => ?_)
            · skip
              refine aw_region zT ?_
              simp only [amset, amlib, zset, eq_self, ↓reduceIte, reduceCtorEq, Nat.reduceBEq, Nat.reduceEqDiff, Nat.reduceAdd, Nat.reduceMul, Nat.reduceLeDiff, Nat.reduceLT, Nat.reduceSub]
              refine ⟨⟨by omega, by omega⟩, ?_⟩
              refine hK16 _ ?_
              clear hK16
              refine aw_draw zT prog_mixed fun K18 hK18 => ?_
              simp only [amset, amlib, zset, hget0, hget1, hsy, hlv, eq_self, ↓reduceIte, reduceCtorEq, Nat.reduceBEq, Nat.reduceEqDiff, Nat.reduceAdd, Nat.reduceMul, Nat.reduceLeDiff, Nat.reduceLT, Nat.reduceSub]
              refine ⟨⟨by omega, by omega⟩, ?_⟩
              refine ⟨_, ihop _ (List.getElem_mem (h := by omega)) _, ?_⟩
              simp only [later]
              simp only [amset, amlib, zset, hget0, hget1, hsy, hlv, eq_self, ↓reduceIte, reduceCtorEq, Nat.reduceBEq, Nat.reduceEqDiff, Nat.reduceAdd, Nat.reduceMul, Nat.reduceLeDiff, Nat.reduceLT, Nat.reduceSub]
              refine ⟨by have := hol0 (levI x.op); have := hol0 (levI x.op + 1); have := hol1 (levI x.op + 1); omega, ?_⟩
              refine ⟨⟨by omega, by omega⟩, ?_⟩
              refine ⟨by have := hol0 (levI x.op); have := hol0 (levI x.op + 1); have := hol1 (levI x.op + 1); omega, ?_⟩
              refine ⟨by have := hol0 (levI x.op); have := hol0 (levI x.op + 1); have := hol1 (levI x.op + 1); omega, ?_⟩
              refine ⟨⟨by omega, by omega⟩, ?_⟩
              refine ⟨⟨by omega, by omega⟩, ?_⟩
              refine ⟨_, ihop _ (List.getElem_mem (h := by omega)) _, ?_⟩
              simp only [later]
              simp only [amset, amlib, zset, hget0, hget1, hsy, hlv, eq_self, ↓reduceIte, reduceCtorEq, Nat.reduceBEq, Nat.reduceEqDiff, Nat.reduceAdd, Nat.reduceMul, Nat.reduceLeDiff, Nat.reduceLT, Nat.reduceSub]
              refine ⟨by have := hol0 (levI x.op); have := hol0 (levI x.op + 1); have := hol1 (levI x.op + 1); omega, ?_⟩
              refine ⟨by kernel_rfl, ?_⟩
              refine hK18 _ ?_
              clear hK18
              refine aw_ret ?_
              show resOf zG _ [.tmp 2] = some _
              simp only [amset, amlib, zset, eq_self, ↓reduceIte, reduceCtorEq, Nat.reduceBEq, Nat.reduceEqDiff, Nat.reduceAdd, Nat.reduceMul, Nat.reduceLeDiff, Nat.reduceLT, Nat.reduceSub]
              rw [txA_eq x]
              simp only [(show (x.kind == 1) = false by simp [hk]), (show (x.kind == 2) = false by simp [hk]), (show (x.kind == 3) = false by simp [hk]), (show (x.kind == 4) = false by simp [hk]), (show (x.kind == 5) = false by simp [hk]), h5, htx0, htx1, ↓reduceIte, Bool.false_eq_true, bnT, List.append_assoc, List.cons_append, List.nil_append]
            · skip
              refine aw_skip ?_
              simp only [thenQ, blkQ, if_true, reduceIte, Nat.reduceEqDiff, eq_self]
              refine hK16 _ ?_
              clear hK16
              refine aw_draw zT prog_mixed fun K19 hK19 => ?_
              simp only [amset, amlib, zset, hget0, hget1, hsy, hlv, eq_self, ↓reduceIte, reduceCtorEq, Nat.reduceBEq, Nat.reduceEqDiff, Nat.reduceAdd, Nat.reduceMul, Nat.reduceLeDiff, Nat.reduceLT, Nat.reduceSub]
              refine ⟨⟨by omega, by omega⟩, ?_⟩
              refine ⟨_, ihop _ (List.getElem_mem (h := by omega)) _, ?_⟩
              simp only [later]
              simp only [amset, amlib, zset, hget0, hget1, hsy, hlv, eq_self, ↓reduceIte, reduceCtorEq, Nat.reduceBEq, Nat.reduceEqDiff, Nat.reduceAdd, Nat.reduceMul, Nat.reduceLeDiff, Nat.reduceLT, Nat.reduceSub]
              refine ⟨by have := hol0 (levI x.op); have := hol0 (levI x.op + 1); have := hol1 (levI x.op + 1); omega, ?_⟩
              refine ⟨⟨by omega, by omega⟩, ?_⟩
              refine ⟨by have := hol0 (levI x.op); have := hol0 (levI x.op + 1); have := hol1 (levI x.op + 1); omega, ?_⟩
              refine ⟨by have := hol0 (levI x.op); have := hol0 (levI x.op + 1); have := hol1 (levI x.op + 1); omega, ?_⟩
              refine ⟨⟨by omega, by omega⟩, ?_⟩
              refine ⟨⟨by omega, by omega⟩, ?_⟩
              refine ⟨_, ihop _ (List.getElem_mem (h := by omega)) _, ?_⟩
              simp only [later]
              simp only [amset, amlib, zset, hget0, hget1, hsy, hlv, eq_self, ↓reduceIte, reduceCtorEq, Nat.reduceBEq, Nat.reduceEqDiff, Nat.reduceAdd, Nat.reduceMul, Nat.reduceLeDiff, Nat.reduceLT, Nat.reduceSub]
              refine ⟨by have := hol0 (levI x.op); have := hol0 (levI x.op + 1); have := hol1 (levI x.op + 1); omega, ?_⟩
              refine ⟨by kernel_rfl, ?_⟩
              refine hK19 _ ?_
              clear hK19
              refine aw_ret ?_
              show resOf zG _ [.tmp 2] = some _
              simp only [amset, amlib, zset, eq_self, ↓reduceIte, reduceCtorEq, Nat.reduceBEq, Nat.reduceEqDiff, Nat.reduceAdd, Nat.reduceMul, Nat.reduceLeDiff, Nat.reduceLT, Nat.reduceSub]
              rw [txA_eq x]
              simp only [(show (x.kind == 1) = false by simp [hk]), (show (x.kind == 2) = false by simp [hk]), (show (x.kind == 3) = false by simp [hk]), (show (x.kind == 4) = false by simp [hk]), (show (x.kind == 5) = false by simp [hk]), h5, htx0, htx1, ↓reduceIte, Bool.false_eq_true, bnT, List.append_assoc, List.cons_append, List.nil_append]
theorem holds94 (x : Ex) (hx : wfA x = true) (hv : i16r x.value) (hw : wdL x.args) (hs : (subE x).length ≤ 1000000000000) : Holds Tryz.prog zG 94 [.agg [.int .i64 x.kind, .str x.name, .int .i16 x.value, .int .i64 x.op, .sl 6 (encEs x.args), .int .i64 x.pos]] [.c (.str (txA x))] :=
  have hwf := wf_facts hx
  have ih : ∀ y ∈ x.args, Holds Tryz.prog zG 94 [.agg [.int .i64 y.kind, .str y.name, .int .i16 y.value, .int .i64 y.op, .sl 6 (encEs y.args), .int .i64 y.pos]] [.c (.str (txA y))] := fun y hy => holds94 y (hwf.2 y hy) (wdE_eq y ▸ wdL_mem hw hy).1 (wdE_eq y ▸ wdL_mem hw hy).2 (by have := subL_mem hy; have := subE_len x; omega)
  step94 x hx hv hw hs ih fun y hy least => step165 y least (fun hk => by have := (wf_facts (hwf.2 y hy)).1; omega) (by have := txA_len y (hwf.2 y hy) (wdE_eq y ▸ wdL_mem hw hy).1 (wdE_eq y ▸ wdL_mem hw hy).2; have := subL_mem hy; have := subE_len x; omega) (ih y hy)
  termination_by SizeOf.sizeOf x
  decreasing_by exact Ex.args_lt hy
theorem txA_ne (x : Ex) (h : wfA x = true) : (txA x == []) = false := by
  have hk := (wf_facts h).1
  rw [txA_eq]
  have hd : Lib.itoa x.value ≠ [] := by
    intro e
    unfold Lib.itoa Lib.decDigits at e
    split at e
    · cases e
    · split at e <;> simp at e
  have hi : ident x.name = true → x.name ≠ [] := by
    intro hi e
    rw [ident_eq, e] at hi
    simp at hi
  rcases hk with ⟨k, l, r⟩ | ⟨k, l, r, r2⟩ | ⟨k, l, r, r2⟩ | ⟨k, l, r, r2⟩ | ⟨k, l, r, r2⟩ | ⟨k, l, r, r2⟩ <;> simp only [k, Int.reduceBEq, ↓reduceIte, Bool.false_eq_true]
  · simpa using hd
  · simpa using hi r
  · simp
  · simp
  · simp
    intro hs
    exfalso
    have : ∀ o : Int, 1 ≤ o ∧ o ≤ 2 → symI o ≠ [] := by
      intro o ho
      have : o = 1 ∨ o = 2 := by omega
      rcases this with rfl | rfl <;> decide
    exact this _ r hs
  · simp [bnT]
theorem prog34 : Tryz.prog.funcs[34]? = some Tryz.f34 := by kernel_rfl
theorem holds34 (x : Ex) (hv : i16r x.value) (hw : wdL x.args) (hs : (subE x).length ≤ 1000000000000) : Holds Tryz.prog zG 34 [.agg [.int .i64 x.kind, .str x.name, .int .i16 x.value, .int .i64 x.op, .sl 6 (encEs x.args), .int .i64 x.pos]] [.c (.str (if wfA x then txA x else []))] := by
  refine holds_of_body zT prog34 rfl rfl rfl (by simp [Tryz.f34]) ?_
  refine aw_ops zT fun K1 hK1 => ?_
  simp only [amset, amlib, zset, eq_self, ↓reduceIte, reduceCtorEq, Nat.reduceBEq, Nat.reduceEqDiff, Nat.reduceAdd, Nat.reduceMul, Nat.reduceLeDiff, Nat.reduceLT, Nat.reduceSub]
  refine hK1 _ ?_
  clear hK1
  refine aw_seq fun K2 hK2 => ?_
  refine aw_ops zT fun K3 hK3 => ?_
  simp only [amset, amlib, zset, eq_self, ↓reduceIte, reduceCtorEq, Nat.reduceBEq, Nat.reduceEqDiff, Nat.reduceAdd, Nat.reduceMul, Nat.reduceLeDiff, Nat.reduceLT, Nat.reduceSub]
  refine ⟨_, holds93 x, ?_⟩
  simp only [later]
  simp only [amset, amlib, zset, eq_self, ↓reduceIte, reduceCtorEq, Nat.reduceBEq, Nat.reduceEqDiff, Nat.reduceAdd, Nat.reduceMul, Nat.reduceLeDiff, Nat.reduceLT, Nat.reduceSub]
  refine hK3 _ ?_
  clear hK3
  refine aw_cond rfl (fun h0 => ?_) (fun h0 => ?_)
  · skip
    refine aw_ops zT fun K4 hK4 => ?_
    simp only [amset, amlib, zset, eq_self, ↓reduceIte, reduceCtorEq, Nat.reduceBEq, Nat.reduceEqDiff, Nat.reduceAdd, Nat.reduceMul, Nat.reduceLeDiff, Nat.reduceLT, Nat.reduceSub]
    refine hK4 _ ?_
    clear hK4
    refine aw_ret ?_
    show resOf zG _ [.tmp 2] = some _
    simp only [amset, amlib, zset, eq_self, ↓reduceIte, reduceCtorEq, Nat.reduceBEq, Nat.reduceEqDiff, Nat.reduceAdd, Nat.reduceMul, Nat.reduceLeDiff, Nat.reduceLT, Nat.reduceSub]
    have h1 : wfA x = !(!wfA x) := by simp
    rw [h1, h0]
    rfl
  · skip
    refine aw_skip ?_
    simp only [thenQ, blkQ, if_true, reduceIte, Nat.reduceEqDiff, eq_self]
    refine hK2 _ ?_
    clear hK2
    refine aw_ops zT fun K5 hK5 => ?_
    simp only [amset, amlib, zset, eq_self, ↓reduceIte, reduceCtorEq, Nat.reduceBEq, Nat.reduceEqDiff, Nat.reduceAdd, Nat.reduceMul, Nat.reduceLeDiff, Nat.reduceLT, Nat.reduceSub]
    refine ⟨_, holds94 x (by simpa using h0) hv hw hs, ?_⟩
    simp only [later]
    simp only [amset, amlib, zset, eq_self, ↓reduceIte, reduceCtorEq, Nat.reduceBEq, Nat.reduceEqDiff, Nat.reduceAdd, Nat.reduceMul, Nat.reduceLeDiff, Nat.reduceLT, Nat.reduceSub]
    refine hK5 _ ?_
    clear hK5
    refine aw_ret ?_
    show resOf zG _ [.tmp 2] = some _
    simp only [amset, amlib, zset, eq_self, ↓reduceIte, reduceCtorEq, Nat.reduceBEq, Nat.reduceEqDiff, Nat.reduceAdd, Nat.reduceMul, Nat.reduceLeDiff, Nat.reduceLT, Nat.reduceSub]
    have h1 : wfA x = !(!wfA x) := by simp
    rw [h1, h0]
    rfl
end Go.Proofs.Am
set_option maxRecDepth 100000
set_option maxHeartbeats 4000000
namespace Go.Proofs.Am
theorem look_mid (a b : List Cn) (y : Cn) (q : List UInt8) (h : look a q = none) (hy : y.name = q) : look (a ++ y :: b) q = some y.value := by
  induction a with
  | nil => simp [look, hy]
  | cons c r ih =>
    simp only [look] at h
    split at h
    · cases h
    · rename_i hc
      simp only [List.cons_append, look, if_neg hc]
      exact ih h
theorem prog77 : Tryz.prog.funcs[77]? = some Tryz.f77 := by kernel_rfl
theorem step77 (p : Pg) (x : Ex) (hlen : 2 ≤ x.args.length) (hop : (x.op == 14 || x.op == 15) = true) (ih : ∀ y ∈ x.args, Holds Tryz.prog zG 28 [.agg [.sl 3 (encCs p.consts), .sl 4 (encGs p.globals), .sl 1 (encStrs p.sensors), .sl 1 (encStrs p.outputs), .sl 3 (encHs p.channels), .sl 8 (encTs p.tasks)], .agg [.int .i64 y.kind, .str y.name, .int .i16 y.value, .int .i64 y.op, .sl 6 (encEs y.args), .int .i64 y.pos]] [.c (.int .i16 ((cnE (look p.consts) y).getD 0)), .c (.bool (cnE (look p.consts) y).isSome)]) : Holds Tryz.prog zG 77 [.agg [.sl 3 (encCs p.consts), .sl 4 (encGs p.globals), .sl 1 (encStrs p.sensors), .sl 1 (encStrs p.outputs), .sl 3 (encHs p.channels), .sl 8 (encTs p.tasks)], .agg [.int .i64 x.kind, .str x.name, .int .i16 x.value, .int .i64 x.op, .sl 6 (encEs x.args), .int .i64 x.pos]] [.c (.int .i16 ((bnS x.op ((cnL (look p.consts) x.args).getD 0 none) ((cnL (look p.consts) x.args).getD 1 none)).getD 0)), .c (.bool (bnS x.op ((cnL (look p.consts) x.args).getD 0 none) ((cnL (look p.consts) x.args).getD 1 none)).isSome)] := by
  refine holds_of_body zT prog77 rfl rfl rfl (by simp [Tryz.f77]) ?_
  refine aw_ops zT fun K1 hK1 => ?_
  simp only [amset, amlib, zset, eq_self, ↓reduceIte, reduceCtorEq, Nat.reduceBEq, Nat.reduceEqDiff, Nat.reduceAdd, Nat.reduceMul, Nat.reduceLeDiff, Nat.reduceLT, Nat.reduceSub]
  refine hK1 _ ?_
  clear hK1
  have hget : (encEs x.args).getD (Int.toNat 0) [] = encE x.args[0] := encEs_getD _ 0 (by omega)
  have hcn : (cnL (look p.consts) x.args).getD 0 none = cnE (look p.consts) x.args[0] := cnL_getD _ _ 0 (by omega)
  have hget1 : (encEs x.args).getD (Int.toNat 1) [] = encE x.args[1] := encEs_getD _ 1 (by omega)
  have hcn1 : (cnL (look p.consts) x.args).getD 1 none = cnE (look p.consts) x.args[1] := cnL_getD _ _ 1 (by omega)
  refine aw_draw zT prog_mixed fun K2 hK2 => ?_
  simp only [amset, amlib, zset, hget, eq_self, ↓reduceIte, reduceCtorEq, Nat.reduceBEq, Nat.reduceEqDiff, Nat.reduceAdd, Nat.reduceMul, Nat.reduceLeDiff, Nat.reduceLT, Nat.reduceSub]
  refine ⟨⟨by omega, by omega⟩, ?_⟩
  refine ⟨_, ih _ (List.getElem_mem (h := by omega)), ?_⟩
  simp only [later]
  simp only [amset, amlib, zset, eq_self, ↓reduceIte, reduceCtorEq, Nat.reduceBEq, Nat.reduceEqDiff, Nat.reduceAdd, Nat.reduceMul, Nat.reduceLeDiff, Nat.reduceLT, Nat.reduceSub]
  refine ⟨by kernel_rfl, ?_⟩
  refine hK2 _ ?_
  clear hK2
  refine aw_seq fun K3 hK3 => ?_
  refine aw_ops zT fun K4 hK4 => ?_
  simp only [amset, amlib, zset, eq_self, ↓reduceIte, reduceCtorEq, Nat.reduceBEq, Nat.reduceEqDiff, Nat.reduceAdd, Nat.reduceMul, Nat.reduceLeDiff, Nat.reduceLT, Nat.reduceSub]
  refine hK4 _ ?_
  clear hK4
  refine aw_cond rfl (fun h0 => ?_) (fun h0 => ?_)
  · skip
    refine aw_ops zT fun K5 hK5 => ?_
    simp only [amset, amlib, zset, eq_self, ↓reduceIte, reduceCtorEq, Nat.reduceBEq, Nat.reduceEqDiff, Nat.reduceAdd, Nat.reduceMul, Nat.reduceLeDiff, Nat.reduceLT, Nat.reduceSub]
    refine hK5 _ ?_
    clear hK5
    refine aw_ret ?_
    show resOf zG _ [.tmp 4, .tmp 5] = some _
    simp only [amset, amlib, zset, eq_self, ↓reduceIte, reduceCtorEq, Nat.reduceBEq, Nat.reduceEqDiff, Nat.reduceAdd, Nat.reduceMul, Nat.reduceLeDiff, Nat.reduceLT, Nat.reduceSub]
    rw [hcn, hcn1]
    have ho : (x.op == 15) = !(x.op == 14) := by simp at hop; rcases hop with h | h <;> rw [h] <;> rfl
    revert ho h0
    unfold bnS
    generalize (x.op == 14) = o14
    generalize (x.op == 15) = o15
    generalize cnE (look p.consts) x.args[0] = u
    generalize cnE (look p.consts) x.args[1] = v
    cases u <;> cases v <;> cases o14 <;> cases o15 <;> simp +contextual [tr, Bool.cond_eq_ite]
  · skip
    refine aw_skip ?_
    simp only [thenQ, blkQ, if_true, reduceIte, Nat.reduceEqDiff, eq_self]
    refine hK3 _ ?_
    clear hK3
    refine aw_seq fun K6 hK6 => ?_
    refine aw_ops zT fun K7 hK7 => ?_
    simp only [amset, amlib, zset, eq_self, ↓reduceIte, reduceCtorEq, Nat.reduceBEq, Nat.reduceEqDiff, Nat.reduceAdd, Nat.reduceMul, Nat.reduceLeDiff, Nat.reduceLT, Nat.reduceSub]
    refine hK7 _ ?_
    clear hK7
    refine aw_cond rfl (fun h1 => ?_) (fun h1 => ?_)
    · skip
      refine aw_ops zT fun K8 hK8 => ?_
      simp only [amset, amlib, zset, eq_self, ↓reduceIte, reduceCtorEq, Nat.reduceBEq, Nat.reduceEqDiff, Nat.reduceAdd, Nat.reduceMul, Nat.reduceLeDiff, Nat.reduceLT, Nat.reduceSub]
      refine ⟨_, holds153 _, ?_⟩
      simp only [later]
      simp only [amset, amlib, zset, eq_self, ↓reduceIte, reduceCtorEq, Nat.reduceBEq, Nat.reduceEqDiff, Nat.reduceAdd, Nat.reduceMul, Nat.reduceLeDiff, Nat.reduceLT, Nat.reduceSub]
      refine hK8 _ ?_
      clear hK8
      refine aw_ret ?_
      show resOf zG _ [.tmp 4, .tmp 5] = some _
      simp only [amset, amlib, zset, eq_self, ↓reduceIte, reduceCtorEq, Nat.reduceBEq, Nat.reduceEqDiff, Nat.reduceAdd, Nat.reduceMul, Nat.reduceLeDiff, Nat.reduceLT, Nat.reduceSub]
      rw [hcn, hcn1]
      have ho : (x.op == 15) = !(x.op == 14) := by simp at hop; rcases hop with h | h <;> rw [h] <;> rfl
      revert ho h0 h1
      unfold bnS
      generalize (x.op == 14) = o14
      generalize (x.op == 15) = o15
      generalize cnE (look p.consts) x.args[0] = u
      generalize cnE (look p.consts) x.args[1] = v
      cases u <;> cases v <;> cases o14 <;> cases o15 <;> simp +contextual [tr, Bool.cond_eq_ite]
    · skip
      refine aw_skip ?_
      simp only [thenQ, blkQ, if_true, reduceIte, Nat.reduceEqDiff, eq_self]
      refine hK6 _ ?_
      clear hK6
      refine aw_draw zT prog_mixed fun K9 hK9 => ?_
      simp only [amset, amlib, zset, hget1, eq_self, ↓reduceIte, reduceCtorEq, Nat.reduceBEq, Nat.reduceEqDiff, Nat.reduceAdd, Nat.reduceMul, Nat.reduceLeDiff, Nat.reduceLT, Nat.reduceSub]
      refine ⟨⟨by omega, by omega⟩, ?_⟩
      refine ⟨_, ih _ (List.getElem_mem (h := by omega)), ?_⟩
      simp only [later]
      simp only [amset, amlib, zset, eq_self, ↓reduceIte, reduceCtorEq, Nat.reduceBEq, Nat.reduceEqDiff, Nat.reduceAdd, Nat.reduceMul, Nat.reduceLeDiff, Nat.reduceLT, Nat.reduceSub]
      refine ⟨by kernel_rfl, ?_⟩
      refine hK9 _ ?_
      clear hK9
      refine aw_ops zT fun K10 hK10 => ?_
      cases e0 : (cnE (look p.consts) x.args[1]).isSome with
      | true =>
        simp only [amset, amlib, zset, e0, eq_self, ↓reduceIte, reduceCtorEq, Nat.reduceBEq, Nat.reduceEqDiff, Nat.reduceAdd, Nat.reduceMul, Nat.reduceLeDiff, Nat.reduceLT, Nat.reduceSub]
        refine ⟨_, holds153 _, ?_⟩
        simp only [later]
        simp only [amset, amlib, zset, e0, eq_self, ↓reduceIte, reduceCtorEq, Nat.reduceBEq, Nat.reduceEqDiff, Nat.reduceAdd, Nat.reduceMul, Nat.reduceLeDiff, Nat.reduceLT, Nat.reduceSub]
        refine hK10 _ ?_
        clear hK10
        refine aw_ret ?_
        show resOf zG _ [.tmp 4, .tmp 5] = some _
        simp only [amset, amlib, zset, eq_self, ↓reduceIte, reduceCtorEq, Nat.reduceBEq, Nat.reduceEqDiff, Nat.reduceAdd, Nat.reduceMul, Nat.reduceLeDiff, Nat.reduceLT, Nat.reduceSub]
        rw [hcn, hcn1]
        have ho : (x.op == 15) = !(x.op == 14) := by simp at hop; rcases hop with h | h <;> rw [h] <;> rfl
        revert ho e0 h0 h1
        unfold bnS
        generalize (x.op == 14) = o14
        generalize (x.op == 15) = o15
        generalize cnE (look p.consts) x.args[0] = u
        generalize cnE (look p.consts) x.args[1] = v
        cases u <;> cases v <;> cases o14 <;> cases o15 <;> simp +contextual [tr, Bool.cond_eq_ite]
      | false =>
        simp only [amset, amlib, zset, e0, eq_self, ↓reduceIte, reduceCtorEq, Nat.reduceBEq, Nat.reduceEqDiff, Nat.reduceAdd, Nat.reduceMul, Nat.reduceLeDiff, Nat.reduceLT, Nat.reduceSub]
        refine ⟨_, holds153 _, ?_⟩
        simp only [later]
        simp only [amset, amlib, zset, e0, eq_self, ↓reduceIte, reduceCtorEq, Nat.reduceBEq, Nat.reduceEqDiff, Nat.reduceAdd, Nat.reduceMul, Nat.reduceLeDiff, Nat.reduceLT, Nat.reduceSub]
        refine hK10 _ ?_
        clear hK10
        refine aw_ret ?_
        show resOf zG _ [.tmp 4, .tmp 5] = some _
        simp only [amset, amlib, zset, eq_self, ↓reduceIte, reduceCtorEq, Nat.reduceBEq, Nat.reduceEqDiff, Nat.reduceAdd, Nat.reduceMul, Nat.reduceLeDiff, Nat.reduceLT, Nat.reduceSub]
        rw [hcn, hcn1]
        have ho : (x.op == 15) = !(x.op == 14) := by simp at hop; rcases hop with h | h <;> rw [h] <;> rfl
        revert ho e0 h0 h1
        unfold bnS
        generalize (x.op == 14) = o14
        generalize (x.op == 15) = o15
        generalize cnE (look p.consts) x.args[0] = u
        generalize cnE (look p.consts) x.args[1] = v
        cases u <;> cases v <;> cases o14 <;> cases o15 <;> simp +contextual [tr, Bool.cond_eq_ite]
theorem prog28 : Tryz.prog.funcs[28]? = some Tryz.f28 := by kernel_rfl
theorem step28 (p : Pg) (hp : ∀ c ∈ p.consts, i16r c.value) (x : Ex) (hx : okE x) (hw : wdE x) (ih : ∀ y ∈ x.args, Holds Tryz.prog zG 28 [.agg [.sl 3 (encCs p.consts), .sl 4 (encGs p.globals), .sl 1 (encStrs p.sensors), .sl 1 (encStrs p.outputs), .sl 3 (encHs p.channels), .sl 8 (encTs p.tasks)], .agg [.int .i64 y.kind, .str y.name, .int .i16 y.value, .int .i64 y.op, .sl 6 (encEs y.args), .int .i64 y.pos]] [.c (.int .i16 ((cnE (look p.consts) y).getD 0)), .c (.bool (cnE (look p.consts) y).isSome)]) (hlk : lkOk (look p.consts)) (ihb : 2 ≤ x.args.length → (x.op == 14 || x.op == 15) = true → Holds Tryz.prog zG 77 [.agg [.sl 3 (encCs p.consts), .sl 4 (encGs p.globals), .sl 1 (encStrs p.sensors), .sl 1 (encStrs p.outputs), .sl 3 (encHs p.channels), .sl 8 (encTs p.tasks)], .agg [.int .i64 x.kind, .str x.name, .int .i16 x.value, .int .i64 x.op, .sl 6 (encEs x.args), .int .i64 x.pos]] [.c (.int .i16 ((bnS x.op ((cnL (look p.consts) x.args).getD 0 none) ((cnL (look p.consts) x.args).getD 1 none)).getD 0)), .c (.bool (bnS x.op ((cnL (look p.consts) x.args).getD 0 none) ((cnL (look p.consts) x.args).getD 1 none)).isSome)]) : Holds Tryz.prog zG 28 [.agg [.sl 3 (encCs p.consts), .sl 4 (encGs p.globals), .sl 1 (encStrs p.sensors), .sl 1 (encStrs p.outputs), .sl 3 (encHs p.channels), .sl 8 (encTs p.tasks)], .agg [.int .i64 x.kind, .str x.name, .int .i16 x.value, .int .i64 x.op, .sl 6 (encEs x.args), .int .i64 x.pos]] [.c (.int .i16 ((cnE (look p.consts) x).getD 0)), .c (.bool (cnE (look p.consts) x).isSome)] := by
  refine holds_of_body zT prog28 rfl rfl rfl (by simp [Tryz.f28]) ?_
  refine aw_ops zT fun K1 hK1 => ?_
  simp only [amset, amlib, zset, eq_self, ↓reduceIte, reduceCtorEq, Nat.reduceBEq, Nat.reduceEqDiff, Nat.reduceAdd, Nat.reduceMul, Nat.reduceLeDiff, Nat.reduceLT, Nat.reduceSub]
  refine hK1 _ ?_
  clear hK1
  refine aw_seq fun K2 hK2 => ?_
  refine aw_ops zT fun K3 hK3 => ?_
  simp only [amset, amlib, zset, eq_self, ↓reduceIte, reduceCtorEq, Nat.reduceBEq, Nat.reduceEqDiff, Nat.reduceAdd, Nat.reduceMul, Nat.reduceLeDiff, Nat.reduceLT, Nat.reduceSub]
  refine hK3 _ ?_
  clear hK3
  refine aw_block ?_
  refine aw_ops zT fun K4 hK4 => ?_
  simp only [amset, amlib, zset, eq_self, ↓reduceIte, reduceCtorEq, Nat.reduceBEq, Nat.reduceEqDiff, Nat.reduceAdd, Nat.reduceMul, Nat.reduceLeDiff, Nat.reduceLT, Nat.reduceSub]
  refine hK4 _ ?_
  clear hK4
  refine aw_cond rfl (fun h0 => ?_) (fun h0 => ?_)
  · skip
    refine aw_ops zT fun K5 hK5 => ?_
    simp only [amset, amlib, zset, eq_self, ↓reduceIte, reduceCtorEq, Nat.reduceBEq, Nat.reduceEqDiff, Nat.reduceAdd, Nat.reduceMul, Nat.reduceLeDiff, Nat.reduceLT, Nat.reduceSub]
    refine hK5 _ ?_
    clear hK5
    refine aw_ret ?_
    show resOf zG _ [.tmp 4, .tmp 5] = some _
    simp only [amset, amlib, zset, eq_self, ↓reduceIte, reduceCtorEq, Nat.reduceBEq, Nat.reduceEqDiff, Nat.reduceAdd, Nat.reduceMul, Nat.reduceLeDiff, Nat.reduceLT, Nat.reduceSub]
    rw [cnE_eq _ x]
    simp only [h0, ↓reduceIte, Bool.false_eq_true]
    rfl
  · skip
    refine aw_ops zT fun K6 hK6 => ?_
    simp only [amset, amlib, zset, eq_self, ↓reduceIte, reduceCtorEq, Nat.reduceBEq, Nat.reduceEqDiff, Nat.reduceAdd, Nat.reduceMul, Nat.reduceLeDiff, Nat.reduceLT, Nat.reduceSub]
    refine hK6 _ ?_
    clear hK6
    refine aw_cond rfl (fun h1 => ?_) (fun h1 => ?_)
    · skip
      refine aw_ops zT fun K7 hK7 => ?_
      simp only [amset, amlib, zset, eq_self, ↓reduceIte, reduceCtorEq, Nat.reduceBEq, Nat.reduceEqDiff, Nat.reduceAdd, Nat.reduceMul, Nat.reduceLeDiff, Nat.reduceLT, Nat.reduceSub]
      intros
      refine hK7 _ ?_
      clear hK7
      refine aw_block ?_
      refine aw_range (α := Cn) (p.consts) (fun dn => look dn x.name = none) (fun dn => [(29, .cell (.c (.int .i64 dn.length)))]) (fun dn => []) [] [4, 5, 7, 29, 30, 31, 32, 33, 34, 35, 36, 37, 38, 39, 40] [7] rfl ?_ ?_ ?_ ?_
      · simp only [amset, amlib, zset, eq_self, ↓reduceIte, reduceCtorEq, Nat.reduceBEq, Nat.reduceEqDiff, Nat.reduceAdd, Nat.reduceMul, Nat.reduceLeDiff, Nat.reduceLT, Nat.reduceSub] <;> simp [*]
      · simp only [amset, amlib, zset, eq_self, ↓reduceIte, reduceCtorEq, Nat.reduceBEq, Nat.reduceEqDiff, Nat.reduceAdd, Nat.reduceMul, Nat.reduceLeDiff, Nat.reduceLT, Nat.reduceSub] <;> simp [*]
      · intro hI R
        refine aw_norm (by simp only [amset, amlib, zset, eq_self, ↓reduceIte, reduceCtorEq, Nat.reduceBEq, Nat.reduceEqDiff, Nat.reduceAdd, Nat.reduceMul, Nat.reduceLeDiff, Nat.reduceLT, Nat.reduceSub]; exact rfl) ?_
        refine aw_ops zT fun K8 hK8 => ?_
        simp only [amset, amlib, zset, eq_self, ↓reduceIte, reduceCtorEq, Nat.reduceBEq, Nat.reduceEqDiff, Nat.reduceAdd, Nat.reduceMul, Nat.reduceLeDiff, Nat.reduceLT, Nat.reduceSub]
        refine hK8 _ ?_
        clear hK8
        refine aw_seq fun K9 hK9 => ?_
        refine aw_cond (t := false) (by simp [evalO, S.get, amLook]) (fun h => nomatch h) (fun _ => ?_)
        refine aw_exit ?_
        simp only [thenQ, blkQ, if_true, reduceIte, Nat.reduceEqDiff, eq_self]
        refine hK2 _ ?_
        clear hK2
        refine aw_ops zT fun K10 hK10 => ?_
        simp only [amset, amlib, zset, eq_self, ↓reduceIte, reduceCtorEq, Nat.reduceBEq, Nat.reduceEqDiff, Nat.reduceAdd, Nat.reduceMul, Nat.reduceLeDiff, Nat.reduceLT, Nat.reduceSub]
        refine hK10 _ ?_
        clear hK10
        refine aw_ret ?_
        show resOf zG _ [.tmp 4, .tmp 5] = some _
        simp only [amset, amlib, zset, eq_self, ↓reduceIte, reduceCtorEq, Nat.reduceBEq, Nat.reduceEqDiff, Nat.reduceAdd, Nat.reduceMul, Nat.reduceLeDiff, Nat.reduceLT, Nat.reduceSub]
        rw [cnE_eq _ x]
        simp only [h0, h1, ↓reduceIte, Bool.false_eq_true]
        rw [hI]
        rfl
      · intro dn y td harg hI R hR
        have hl : (p.consts).length = dn.length + (td.length + 1) := by rw [harg]; simp
        have hmem : y ∈ p.consts := by rw [harg]; simp
        refine aw_norm (by simp only [amset, amlib, zset, eq_self, ↓reduceIte, reduceCtorEq, Nat.reduceBEq, Nat.reduceEqDiff, Nat.reduceAdd, Nat.reduceMul, Nat.reduceLeDiff, Nat.reduceLT, Nat.reduceSub]; exact rfl) ?_
        have hget : (encCs (p.consts)).getD dn.length [] = encC y := by rw [harg]; exact encCs_mid dn td y
        refine aw_ops zT fun K11 hK11 => ?_
        simp only [amset, amlib, zset, eq_self, ↓reduceIte, reduceCtorEq, Nat.reduceBEq, Nat.reduceEqDiff, Nat.reduceAdd, Nat.reduceMul, Nat.reduceLeDiff, Nat.reduceLT, Nat.reduceSub]
        refine hK11 _ ?_
        clear hK11
        refine aw_seq fun K12 hK12 => ?_
        refine aw_cond (t := true) (by simp [evalO, S.get, amLook]; omega) (fun _ => ?_) (fun h => nomatch h)
        refine aw_skip ?_
        simp only [thenQ, blkQ, if_true, reduceIte, Nat.reduceEqDiff, eq_self]
        refine hK12 _ ?_
        clear hK12
        refine aw_seq fun K13 hK13 => ?_
        refine aw_block ?_
        refine aw_ops zT fun K14 hK14 => ?_
        simp only [amset, amlib, zset, hget, eq_self, ↓reduceIte, reduceCtorEq, Nat.reduceBEq, Nat.reduceEqDiff, Nat.reduceAdd, Nat.reduceMul, Nat.reduceLeDiff, Nat.reduceLT, Nat.reduceSub]
        refine ⟨⟨by omega, by omega⟩, ?_⟩
        refine hK14 _ ?_
        clear hK14
        refine aw_ops zT fun K15 hK15 => ?_
        simp only [amset, amlib, zset, eq_self, ↓reduceIte, reduceCtorEq, Nat.reduceBEq, Nat.reduceEqDiff, Nat.reduceAdd, Nat.reduceMul, Nat.reduceLeDiff, Nat.reduceLT, Nat.reduceSub]
        refine hK15 _ ?_
        clear hK15
        refine aw_cond rfl (fun h2 => ?_) (fun h2 => ?_)
        · skip
          refine aw_ops zT fun K16 hK16 => ?_
          simp only [amset, amlib, zset, eq_self, ↓reduceIte, reduceCtorEq, Nat.reduceBEq, Nat.reduceEqDiff, Nat.reduceAdd, Nat.reduceMul, Nat.reduceLeDiff, Nat.reduceLT, Nat.reduceSub]
          refine hK16 _ ?_
          clear hK16
          refine aw_ret ?_
          show resOf zG _ [.tmp 4, .tmp 5] = some _
          simp only [amset, amlib, zset, eq_self, ↓reduceIte, reduceCtorEq, Nat.reduceBEq, Nat.reduceEqDiff, Nat.reduceAdd, Nat.reduceMul, Nat.reduceLeDiff, Nat.reduceLT, Nat.reduceSub]
          rw [cnE_eq _ x]
          simp only [h0, h1, ↓reduceIte, Bool.false_eq_true]
          rw [harg, look_mid dn td y x.name hI (by simpa using h2)]
          rfl
        · skip
          refine aw_skip ?_
          simp only [thenQ, blkQ, if_true, reduceIte, Nat.reduceEqDiff, eq_self]
          refine hK13 _ ?_
          clear hK13
          refine aw_region zT ?_
          simp only [amset, amlib, zset, eq_self, ↓reduceIte, reduceCtorEq, Nat.reduceBEq, Nat.reduceEqDiff, Nat.reduceAdd, Nat.reduceMul, Nat.reduceLeDiff, Nat.reduceLT, Nat.reduceSub]
          refine ⟨⟨by omega, by omega⟩, ?_⟩
          refine hR _ (by rw [look_snoc, hI]; simp at h2; simp [h2]) ?_
          refine Reach.to ?_ ?_
          · simp only [amset, amlib, zset, eq_self, ↓reduceIte, reduceCtorEq, Nat.reduceBEq, Nat.reduceEqDiff, Nat.reduceAdd, Nat.reduceMul, Nat.reduceLeDiff, Nat.reduceLT, Nat.reduceSub] <;> simp [*]
          · simp only [amset, amlib, zset, eq_self, ↓reduceIte, reduceCtorEq, Nat.reduceBEq, Nat.reduceEqDiff, Nat.reduceAdd, Nat.reduceMul, Nat.reduceLeDiff, Nat.reduceLT, Nat.reduceSub] <;> simp [*]
    · skip
      refine aw_ops zT fun K17 hK17 => ?_
      simp only [amset, amlib, zset, eq_self, ↓reduceIte, reduceCtorEq, Nat.reduceBEq, Nat.reduceEqDiff, Nat.reduceAdd, Nat.reduceMul, Nat.reduceLeDiff, Nat.reduceLT, Nat.reduceSub]
      refine hK17 _ ?_
      clear hK17
      refine aw_cond rfl (fun h3 => ?_) (fun h3 => ?_)
      · skip
        have hlen : 1 ≤ x.args.length := (okE_eq x ▸ hx).1.1 (by simpa using h3)
        have hget : (encEs x.args).getD (Int.toNat 0) [] = encE x.args[0] := encEs_getD _ 0 (by omega)
        have hcn : (cnL (look p.consts) x.args).getD 0 none = cnE (look p.consts) x.args[0] := cnL_getD _ _ 0 (by omega)
        refine aw_draw zT prog_mixed fun K18 hK18 => ?_
        simp only [amset, amlib, zset, hget, eq_self, ↓reduceIte, reduceCtorEq, Nat.reduceBEq, Nat.reduceEqDiff, Nat.reduceAdd, Nat.reduceMul, Nat.reduceLeDiff, Nat.reduceLT, Nat.reduceSub]
        refine ⟨⟨by omega, by omega⟩, ?_⟩
        refine ⟨_, ih _ (List.getElem_mem (h := by omega)), ?_⟩
        simp only [later]
        simp only [amset, amlib, zset, eq_self, ↓reduceIte, reduceCtorEq, Nat.reduceBEq, Nat.reduceEqDiff, Nat.reduceAdd, Nat.reduceMul, Nat.reduceLeDiff, Nat.reduceLT, Nat.reduceSub]
        refine ⟨by kernel_rfl, ?_⟩
        refine hK18 _ ?_
        clear hK18
        refine aw_ops zT fun K19 hK19 => ?_
        simp only [amset, amlib, zset, eq_self, ↓reduceIte, reduceCtorEq, Nat.reduceBEq, Nat.reduceEqDiff, Nat.reduceAdd, Nat.reduceMul, Nat.reduceLeDiff, Nat.reduceLT, Nat.reduceSub]
        refine hK19 _ ?_
        clear hK19
        refine aw_cond rfl (fun h4 => ?_) (fun h4 => ?_)
        · skip
          refine aw_ops zT fun K20 hK20 => ?_
          simp only [amset, amlib, zset, eq_self, ↓reduceIte, reduceCtorEq, Nat.reduceBEq, Nat.reduceEqDiff, Nat.reduceAdd, Nat.reduceMul, Nat.reduceLeDiff, Nat.reduceLT, Nat.reduceSub]
          refine ⟨_, holds76 _ _ (cnE_getD hlk _ (wdL_mem (wdE_eq x ▸ hw).2 (List.getElem_mem (h := by omega)))), ?_⟩
          simp only [later]
          simp only [amset, amlib, zset, eq_self, ↓reduceIte, reduceCtorEq, Nat.reduceBEq, Nat.reduceEqDiff, Nat.reduceAdd, Nat.reduceMul, Nat.reduceLeDiff, Nat.reduceLT, Nat.reduceSub]
          refine hK20 _ ?_
          clear hK20
          refine aw_ops zT fun K21 hK21 => ?_
          simp only [amset, amlib, zset, eq_self, ↓reduceIte, reduceCtorEq, Nat.reduceBEq, Nat.reduceEqDiff, Nat.reduceAdd, Nat.reduceMul, Nat.reduceLeDiff, Nat.reduceLT, Nat.reduceSub]
          refine hK21 _ ?_
          clear hK21
          refine aw_ret ?_
          show resOf zG _ [.tmp 4, .tmp 5] = some _
          simp only [amset, amlib, zset, eq_self, ↓reduceIte, reduceCtorEq, Nat.reduceBEq, Nat.reduceEqDiff, Nat.reduceAdd, Nat.reduceMul, Nat.reduceLeDiff, Nat.reduceLT, Nat.reduceSub]
          rw [cnE_eq _ x]
          simp only [h0, h1, h3, hcn, ↓reduceIte, Bool.false_eq_true]
          cases hv : cnE (look p.consts) x.args[0] with
          | none => rw [hv] at h4; cases h4
          | some v => rfl
        · skip
          refine aw_skip ?_
          simp only [thenQ, blkQ, if_true, reduceIte, Nat.reduceEqDiff, eq_self]
          refine hK2 _ ?_
          clear hK2
          refine aw_ops zT fun K22 hK22 => ?_
          simp only [amset, amlib, zset, eq_self, ↓reduceIte, reduceCtorEq, Nat.reduceBEq, Nat.reduceEqDiff, Nat.reduceAdd, Nat.reduceMul, Nat.reduceLeDiff, Nat.reduceLT, Nat.reduceSub]
          refine hK22 _ ?_
          clear hK22
          refine aw_ret ?_
          show resOf zG _ [.tmp 4, .tmp 5] = some _
          simp only [amset, amlib, zset, eq_self, ↓reduceIte, reduceCtorEq, Nat.reduceBEq, Nat.reduceEqDiff, Nat.reduceAdd, Nat.reduceMul, Nat.reduceLeDiff, Nat.reduceLT, Nat.reduceSub]
          rw [cnE_eq _ x]
          simp only [h0, h1, h3, hcn, ↓reduceIte, Bool.false_eq_true]
          cases hv : cnE (look p.consts) x.args[0] with
          | none => rfl
          | some v => rw [hv] at h4; cases h4
      · skip
        refine aw_ops zT fun K23 hK23 => ?_
        simp only [amset, amlib, zset, eq_self, ↓reduceIte, reduceCtorEq, Nat.reduceBEq, Nat.reduceEqDiff, Nat.reduceAdd, Nat.reduceMul, Nat.reduceLeDiff, Nat.reduceLT, Nat.reduceSub]
        refine hK23 _ ?_
        clear hK23
        refine aw_cond rfl (fun h5 => ?_) (fun h5 => ?_)
        · skip
          refine aw_seq fun K24 hK24 => ?_
          refine aw_ops zT fun K25 hK25 => ?_
          cases e0 : (x.op == 14) with
          | true =>
            have hlen : 2 ≤ x.args.length := (okE_eq x ▸ hx).1.2.1 (by simpa using h5)
            have hget : (encEs x.args).getD (Int.toNat 0) [] = encE x.args[0] := encEs_getD _ 0 (by omega)
            have hcn : (cnL (look p.consts) x.args).getD 0 none = cnE (look p.consts) x.args[0] := cnL_getD _ _ 0 (by omega)
            have hget1 : (encEs x.args).getD (Int.toNat 1) [] = encE x.args[1] := encEs_getD _ 1 (by omega)
            have hcn1 : (cnL (look p.consts) x.args).getD 1 none = cnE (look p.consts) x.args[1] := cnL_getD _ _ 1 (by omega)
            simp only [amset, amlib, zset, e0, eq_self, ↓reduceIte, reduceCtorEq, Nat.reduceBEq, Nat.reduceEqDiff, Nat.reduceAdd, Nat.reduceMul, Nat.reduceLeDiff, Nat.reduceLT, Nat.reduceSub]
            refine hK25 _ ?_
            clear hK25
            refine aw_cond (t := true) rfl (fun _ => ?_) (fun h => nomatch h)
            refine aw_ops zT fun K26 hK26 => ?_
            simp only [amset, amlib, zset, eq_self, ↓reduceIte, reduceCtorEq, Nat.reduceBEq, Nat.reduceEqDiff, Nat.reduceAdd, Nat.reduceMul, Nat.reduceLeDiff, Nat.reduceLT, Nat.reduceSub]
            refine ⟨_, ihb hlen (by simp only [e0, h0, h1, h3, h5, Bool.true_or, Bool.or_true]), ?_⟩
            simp only [later]
            simp only [amset, amlib, zset, eq_self, ↓reduceIte, reduceCtorEq, Nat.reduceBEq, Nat.reduceEqDiff, Nat.reduceAdd, Nat.reduceMul, Nat.reduceLeDiff, Nat.reduceLT, Nat.reduceSub]
            refine hK26 _ ?_
            clear hK26
            refine aw_ret ?_
            show resOf zG _ [.tmp 4, .tmp 5] = some _
            simp only [amset, amlib, zset, eq_self, ↓reduceIte, reduceCtorEq, Nat.reduceBEq, Nat.reduceEqDiff, Nat.reduceAdd, Nat.reduceMul, Nat.reduceLeDiff, Nat.reduceLT, Nat.reduceSub]
            rw [cnE_eq _ x]
            simp only [h0, h1, h3, h5, ↓reduceIte, Bool.false_eq_true]
          | false =>
            cases e1 : (x.op == 15) with
            | true =>
              have hlen : 2 ≤ x.args.length := (okE_eq x ▸ hx).1.2.1 (by simpa using h5)
              have hget : (encEs x.args).getD (Int.toNat 0) [] = encE x.args[0] := encEs_getD _ 0 (by omega)
              have hcn : (cnL (look p.consts) x.args).getD 0 none = cnE (look p.consts) x.args[0] := cnL_getD _ _ 0 (by omega)
              have hget1 : (encEs x.args).getD (Int.toNat 1) [] = encE x.args[1] := encEs_getD _ 1 (by omega)
              have hcn1 : (cnL (look p.consts) x.args).getD 1 none = cnE (look p.consts) x.args[1] := cnL_getD _ _ 1 (by omega)
              simp only [amset, amlib, zset, e0, e1, eq_self, ↓reduceIte, reduceCtorEq, Nat.reduceBEq, Nat.reduceEqDiff, Nat.reduceAdd, Nat.reduceMul, Nat.reduceLeDiff, Nat.reduceLT, Nat.reduceSub]
              refine hK25 _ ?_
              clear hK25
              refine aw_cond (t := true) rfl (fun _ => ?_) (fun h => nomatch h)
              refine aw_ops zT fun K27 hK27 => ?_
              simp only [amset, amlib, zset, eq_self, ↓reduceIte, reduceCtorEq, Nat.reduceBEq, Nat.reduceEqDiff, Nat.reduceAdd, Nat.reduceMul, Nat.reduceLeDiff, Nat.reduceLT, Nat.reduceSub]
              refine ⟨_, ihb hlen (by simp only [e0, e1, h0, h1, h3, h5, Bool.true_or, Bool.or_true]), ?_⟩
              simp only [later]
              simp only [amset, amlib, zset, eq_self, ↓reduceIte, reduceCtorEq, Nat.reduceBEq, Nat.reduceEqDiff, Nat.reduceAdd, Nat.reduceMul, Nat.reduceLeDiff, Nat.reduceLT, Nat.reduceSub]
              refine hK27 _ ?_
              clear hK27
              refine aw_ret ?_
              show resOf zG _ [.tmp 4, .tmp 5] = some _
              simp only [amset, amlib, zset, eq_self, ↓reduceIte, reduceCtorEq, Nat.reduceBEq, Nat.reduceEqDiff, Nat.reduceAdd, Nat.reduceMul, Nat.reduceLeDiff, Nat.reduceLT, Nat.reduceSub]
              rw [cnE_eq _ x]
              simp only [h0, h1, h3, h5, ↓reduceIte, Bool.false_eq_true]
            | false =>
              have hlen : 2 ≤ x.args.length := (okE_eq x ▸ hx).1.2.1 (by simpa using h5)
              have hget : (encEs x.args).getD (Int.toNat 0) [] = encE x.args[0] := encEs_getD _ 0 (by omega)
              have hcn : (cnL (look p.consts) x.args).getD 0 none = cnE (look p.consts) x.args[0] := cnL_getD _ _ 0 (by omega)
              have hget1 : (encEs x.args).getD (Int.toNat 1) [] = encE x.args[1] := encEs_getD _ 1 (by omega)
              have hcn1 : (cnL (look p.consts) x.args).getD 1 none = cnE (look p.consts) x.args[1] := cnL_getD _ _ 1 (by omega)
              simp only [amset, amlib, zset, e0, e1, eq_self, ↓reduceIte, reduceCtorEq, Nat.reduceBEq, Nat.reduceEqDiff, Nat.reduceAdd, Nat.reduceMul, Nat.reduceLeDiff, Nat.reduceLT, Nat.reduceSub]
              refine hK25 _ ?_
              clear hK25
              refine aw_cond (t := false) rfl (fun h => nomatch h) (fun _ => ?_)
              refine aw_skip ?_
              simp only [thenQ, blkQ, if_true, reduceIte, Nat.reduceEqDiff, eq_self]
              refine hK24 _ ?_
              clear hK24
              refine aw_draw zT prog_mixed fun K28 hK28 => ?_
              simp only [amset, amlib, zset, hget, eq_self, ↓reduceIte, reduceCtorEq, Nat.reduceBEq, Nat.reduceEqDiff, Nat.reduceAdd, Nat.reduceMul, Nat.reduceLeDiff, Nat.reduceLT, Nat.reduceSub]
              refine ⟨⟨by omega, by omega⟩, ?_⟩
              refine ⟨_, ih _ (List.getElem_mem (h := by omega)), ?_⟩
              simp only [later]
              simp only [amset, amlib, zset, eq_self, ↓reduceIte, reduceCtorEq, Nat.reduceBEq, Nat.reduceEqDiff, Nat.reduceAdd, Nat.reduceMul, Nat.reduceLeDiff, Nat.reduceLT, Nat.reduceSub]
              refine ⟨by kernel_rfl, ?_⟩
              refine hK28 _ ?_
              clear hK28
              refine aw_draw zT prog_mixed fun K29 hK29 => ?_
              simp only [amset, amlib, zset, hget1, eq_self, ↓reduceIte, reduceCtorEq, Nat.reduceBEq, Nat.reduceEqDiff, Nat.reduceAdd, Nat.reduceMul, Nat.reduceLeDiff, Nat.reduceLT, Nat.reduceSub]
              refine ⟨⟨by omega, by omega⟩, ?_⟩
              refine ⟨_, ih _ (List.getElem_mem (h := by omega)), ?_⟩
              simp only [later]
              simp only [amset, amlib, zset, eq_self, ↓reduceIte, reduceCtorEq, Nat.reduceBEq, Nat.reduceEqDiff, Nat.reduceAdd, Nat.reduceMul, Nat.reduceLeDiff, Nat.reduceLT, Nat.reduceSub]
              refine ⟨by kernel_rfl, ?_⟩
              refine hK29 _ ?_
              clear hK29
              refine aw_ops zT fun K30 hK30 => ?_
              cases g0 : (cnE (look p.consts) x.args[0]).isSome with
              | true =>
                simp only [amset, amlib, zset, e0, e1, g0, eq_self, ↓reduceIte, reduceCtorEq, Nat.reduceBEq, Nat.reduceEqDiff, Nat.reduceAdd, Nat.reduceMul, Nat.reduceLeDiff, Nat.reduceLT, Nat.reduceSub]
                refine hK30 _ ?_
                clear hK30
                refine aw_cond rfl (fun h6 => ?_) (fun h6 => ?_)
                · skip
                  refine aw_ops zT fun K31 hK31 => ?_
                  simp only [amset, amlib, zset, eq_self, ↓reduceIte, reduceCtorEq, Nat.reduceBEq, Nat.reduceEqDiff, Nat.reduceAdd, Nat.reduceMul, Nat.reduceLeDiff, Nat.reduceLT, Nat.reduceSub]
                  refine ⟨_, holds78 _ _ _ (cnE_getD hlk _ (wdL_mem (wdE_eq x ▸ hw).2 (List.getElem_mem (h := by omega)))) (cnE_getD hlk _ (wdL_mem (wdE_eq x ▸ hw).2 (List.getElem_mem (h := by omega)))), ?_⟩
                  simp only [later]
                  simp only [amset, amlib, zset, eq_self, ↓reduceIte, reduceCtorEq, Nat.reduceBEq, Nat.reduceEqDiff, Nat.reduceAdd, Nat.reduceMul, Nat.reduceLeDiff, Nat.reduceLT, Nat.reduceSub]
                  refine hK31 _ ?_
                  clear hK31
                  refine aw_ops zT fun K32 hK32 => ?_
                  simp only [amset, amlib, zset, eq_self, ↓reduceIte, reduceCtorEq, Nat.reduceBEq, Nat.reduceEqDiff, Nat.reduceAdd, Nat.reduceMul, Nat.reduceLeDiff, Nat.reduceLT, Nat.reduceSub]
                  refine hK32 _ ?_
                  clear hK32
                  refine aw_ret ?_
                  show resOf zG _ [.tmp 4, .tmp 5] = some _
                  simp only [amset, amlib, zset, eq_self, ↓reduceIte, reduceCtorEq, Nat.reduceBEq, Nat.reduceEqDiff, Nat.reduceAdd, Nat.reduceMul, Nat.reduceLeDiff, Nat.reduceLT, Nat.reduceSub]
                  rw [cnE_eq _ x]
                  simp only [h0, h1, h3, h5, hcn, hcn1, ↓reduceIte, Bool.false_eq_true]
                  revert e0 e1 g0 h0 h1 h3 h5 h6
                  unfold bnS
                  generalize cnE (look p.consts) x.args[0] = u
                  generalize cnE (look p.consts) x.args[1] = v
                  cases u <;> cases v <;> simp +contextual
                · skip
                  refine aw_skip ?_
                  simp only [thenQ, blkQ, if_true, reduceIte, Nat.reduceEqDiff, eq_self]
                  refine hK2 _ ?_
                  clear hK2
                  refine aw_ops zT fun K33 hK33 => ?_
                  simp only [amset, amlib, zset, eq_self, ↓reduceIte, reduceCtorEq, Nat.reduceBEq, Nat.reduceEqDiff, Nat.reduceAdd, Nat.reduceMul, Nat.reduceLeDiff, Nat.reduceLT, Nat.reduceSub]
                  refine hK33 _ ?_
                  clear hK33
                  refine aw_ret ?_
                  show resOf zG _ [.tmp 4, .tmp 5] = some _
                  simp only [amset, amlib, zset, eq_self, ↓reduceIte, reduceCtorEq, Nat.reduceBEq, Nat.reduceEqDiff, Nat.reduceAdd, Nat.reduceMul, Nat.reduceLeDiff, Nat.reduceLT, Nat.reduceSub]
                  rw [cnE_eq _ x]
                  simp only [h0, h1, h3, h5, hcn, hcn1, ↓reduceIte, Bool.false_eq_true]
                  revert e0 e1 g0 h0 h1 h3 h5 h6
                  unfold bnS
                  generalize cnE (look p.consts) x.args[0] = u
                  generalize cnE (look p.consts) x.args[1] = v
                  cases u <;> cases v <;> simp +contextual
              | false =>
                simp only [amset, amlib, zset, e0, e1, g0, eq_self, ↓reduceIte, reduceCtorEq, Nat.reduceBEq, Nat.reduceEqDiff, Nat.reduceAdd, Nat.reduceMul, Nat.reduceLeDiff, Nat.reduceLT, Nat.reduceSub]
                refine hK30 _ ?_
                clear hK30
                refine aw_cond (t := false) rfl (fun h => nomatch h) (fun _ => ?_)
                refine aw_skip ?_
                simp only [thenQ, blkQ, if_true, reduceIte, Nat.reduceEqDiff, eq_self]
                refine hK2 _ ?_
                clear hK2
                refine aw_ops zT fun K34 hK34 => ?_
                simp only [amset, amlib, zset, eq_self, ↓reduceIte, reduceCtorEq, Nat.reduceBEq, Nat.reduceEqDiff, Nat.reduceAdd, Nat.reduceMul, Nat.reduceLeDiff, Nat.reduceLT, Nat.reduceSub]
                refine hK34 _ ?_
                clear hK34
                refine aw_ret ?_
                show resOf zG _ [.tmp 4, .tmp 5] = some _
                simp only [amset, amlib, zset, eq_self, ↓reduceIte, reduceCtorEq, Nat.reduceBEq, Nat.reduceEqDiff, Nat.reduceAdd, Nat.reduceMul, Nat.reduceLeDiff, Nat.reduceLT, Nat.reduceSub]
                rw [cnE_eq _ x]
                simp only [h0, h1, h3, h5, hcn, hcn1, ↓reduceIte, Bool.false_eq_true]
                revert e0 e1 g0 h0 h1 h3 h5
                unfold bnS
                generalize cnE (look p.consts) x.args[0] = u
                generalize cnE (look p.consts) x.args[1] = v
                cases u <;> cases v <;> simp +contextual
        · skip
          refine aw_skip ?_
          simp only [thenQ, blkQ, if_true, reduceIte, Nat.reduceEqDiff, eq_self]
          refine hK2 _ ?_
          clear hK2
          refine aw_ops zT fun K35 hK35 => ?_
          simp only [amset, amlib, zset, eq_self, ↓reduceIte, reduceCtorEq, Nat.reduceBEq, Nat.reduceEqDiff, Nat.reduceAdd, Nat.reduceMul, Nat.reduceLeDiff, Nat.reduceLT, Nat.reduceSub]
          refine hK35 _ ?_
          clear hK35
          refine aw_ret ?_
          show resOf zG _ [.tmp 4, .tmp 5] = some _
          simp only [amset, amlib, zset, eq_self, ↓reduceIte, reduceCtorEq, Nat.reduceBEq, Nat.reduceEqDiff, Nat.reduceAdd, Nat.reduceMul, Nat.reduceLeDiff, Nat.reduceLT, Nat.reduceSub]
          rw [cnE_eq _ x]
          simp only [h0, h1, h3, h5, ↓reduceIte, Bool.false_eq_true]
          rfl
theorem holds28 (p : Pg) (hp : ∀ c ∈ p.consts, i16r c.value) (x : Ex) (hx : okE x) (hw : wdE x) : Holds Tryz.prog zG 28 [.agg [.sl 3 (encCs p.consts), .sl 4 (encGs p.globals), .sl 1 (encStrs p.sensors), .sl 1 (encStrs p.outputs), .sl 3 (encHs p.channels), .sl 8 (encTs p.tasks)], .agg [.int .i64 x.kind, .str x.name, .int .i16 x.value, .int .i64 x.op, .sl 6 (encEs x.args), .int .i64 x.pos]] [.c (.int .i16 ((cnE (look p.consts) x).getD 0)), .c (.bool (cnE (look p.consts) x).isSome)] :=
  have ih : ∀ y ∈ x.args, Holds Tryz.prog zG 28 [.agg [.sl 3 (encCs p.consts), .sl 4 (encGs p.globals), .sl 1 (encStrs p.sensors), .sl 1 (encStrs p.outputs), .sl 3 (encHs p.channels), .sl 8 (encTs p.tasks)], .agg [.int .i64 y.kind, .str y.name, .int .i16 y.value, .int .i64 y.op, .sl 6 (encEs y.args), .int .i64 y.pos]] [.c (.int .i16 ((cnE (look p.consts) y).getD 0)), .c (.bool (cnE (look p.consts) y).isSome)] := fun y hy => holds28 p hp y (okL_mem (okE_eq x ▸ hx).2 hy) (wdL_mem (wdE_eq x ▸ hw).2 hy)
  step28 p hp x hx hw ih (look_ok hp) fun hl ho => step77 p x hl ho ih
  termination_by SizeOf.sizeOf x
  decreasing_by exact Ex.args_lt hy
end Go.Proofs.Am
set_option maxRecDepth 100000
set_option maxHeartbeats 4000000
namespace Go.Proofs.Am
mutual
def rxE (lk : List UInt8 → Option Int) : Ex → Ex
  | .mk k n v o a p => match cnE lk (.mk k n v o a p) with
    | some c => litE c
    | none => if (k == 6 && (o == 14 || o == 15)) && ((cnL lk a).getD 0 none).isSome then binE' 9 ((rxL lk a).getD 1 (numE 0)) (numE 0) else .mk k n v o (rxL lk a) p
def rxL (lk : List UInt8 → Option Int) : List Ex → List Ex
  | [] => []
  | x :: r => rxE lk x :: rxL lk r
end
theorem rxE_eq (lk : List UInt8 → Option Int) (x : Ex) : rxE lk x = match cnE lk x with
    | some c => litE c
    | none => if (x.kind == 6 && (x.op == 14 || x.op == 15)) && ((cnL lk x.args).getD 0 none).isSome then binE' 9 ((rxL lk x.args).getD 1 (numE 0)) (numE 0) else .mk x.kind x.name x.value x.op (rxL lk x.args) x.pos := by
  cases x; rw [rxE]; rfl
theorem rxL_map (lk : List UInt8 → Option Int) (l : List Ex) : rxL lk l = l.map (rxE lk) := by
  induction l with
  | nil => rfl
  | cons x r ih => simp [rxL, ih]
theorem rxL_append (lk : List UInt8 → Option Int) (a b : List Ex) : rxL lk (a ++ b) = rxL lk a ++ rxL lk b := by simp [rxL_map]
theorem rxL_length (lk : List UInt8 → Option Int) (a : List Ex) : (rxL lk a).length = a.length := by simp [rxL_map]
theorem encEs_getD' (l : List Ex) (n : Nat) (d : Ex) (h : n < l.length) : (encEs l).getD n [] = encE (l.getD n d) := by
  rw [encEs_getD l n h, List.getD_eq_getElem?_getD, List.getElem?_eq_getElem h]; rfl
theorem prog65 : Tryz.prog.funcs[65]? = some Tryz.f65 := by kernel_rfl
theorem step65 (p : Pg) (hp : ∀ c ∈ p.consts, i16r c.value) (x : Ex) (hx : okE x) (hw : wdE x) (hs : (subE x).length ≤ 1000000000000) (ih : ∀ y ∈ x.args, Holds Tryz.prog zG 65 [.agg [.sl 3 (encCs p.consts), .sl 4 (encGs p.globals), .sl 1 (encStrs p.sensors), .sl 1 (encStrs p.outputs), .sl 3 (encHs p.channels), .sl 8 (encTs p.tasks)], .agg [.int .i64 y.kind, .str y.name, .int .i16 y.value, .int .i64 y.op, .sl 6 (encEs y.args), .int .i64 y.pos]] [.agg [.int .i64 (rxE (look p.consts) y).kind, .str (rxE (look p.consts) y).name, .int .i16 (rxE (look p.consts) y).value, .int .i64 (rxE (look p.consts) y).op, .sl 6 (encEs (rxE (look p.consts) y).args), .int .i64 (rxE (look p.consts) y).pos]]) : Holds Tryz.prog zG 65 [.agg [.sl 3 (encCs p.consts), .sl 4 (encGs p.globals), .sl 1 (encStrs p.sensors), .sl 1 (encStrs p.outputs), .sl 3 (encHs p.channels), .sl 8 (encTs p.tasks)], .agg [.int .i64 x.kind, .str x.name, .int .i16 x.value, .int .i64 x.op, .sl 6 (encEs x.args), .int .i64 x.pos]] [.agg [.int .i64 (rxE (look p.consts) x).kind, .str (rxE (look p.consts) x).name, .int .i16 (rxE (look p.consts) x).value, .int .i64 (rxE (look p.consts) x).op, .sl 6 (encEs (rxE (look p.consts) x).args), .int .i64 (rxE (look p.consts) x).pos]] := by
  refine holds_of_body zT prog65 rfl rfl rfl (by simp [Tryz.f65]) ?_
  refine aw_ops zT fun K1 hK1 => ?_
  simp only [amset, amlib, zset, rxL_length, eq_self, ↓reduceIte, reduceCtorEq, Nat.reduceBEq, Nat.reduceEqDiff, Nat.reduceAdd, Nat.reduceMul, Nat.reduceLeDiff, Nat.reduceLT, Nat.reduceSub]
  refine hK1 _ ?_
  clear hK1
  refine aw_seq fun K2 hK2 => ?_
  refine aw_ops zT fun K3 hK3 => ?_
  simp only [amset, amlib, zset, rxL_length, eq_self, ↓reduceIte, reduceCtorEq, Nat.reduceBEq, Nat.reduceEqDiff, Nat.reduceAdd, Nat.reduceMul, Nat.reduceLeDiff, Nat.reduceLT, Nat.reduceSub]
  refine ⟨_, holds28 p hp x hx hw, ?_⟩
  simp only [later]
  simp only [amset, amlib, zset, rxL_length, eq_self, ↓reduceIte, reduceCtorEq, Nat.reduceBEq, Nat.reduceEqDiff, Nat.reduceAdd, Nat.reduceMul, Nat.reduceLeDiff, Nat.reduceLT, Nat.reduceSub]
  refine hK3 _ ?_
  clear hK3
  refine aw_ops zT fun K4 hK4 => ?_
  simp only [amset, amlib, zset, rxL_length, eq_self, ↓reduceIte, reduceCtorEq, Nat.reduceBEq, Nat.reduceEqDiff, Nat.reduceAdd, Nat.reduceMul, Nat.reduceLeDiff, Nat.reduceLT, Nat.reduceSub]
  refine hK4 _ ?_
  clear hK4
  refine aw_cond rfl (fun h0 => ?_) (fun h0 => ?_)
  · skip
    refine aw_ops zT fun K5 hK5 => ?_
    simp only [amset, amlib, zset, rxL_length, eq_self, ↓reduceIte, reduceCtorEq, Nat.reduceBEq, Nat.reduceEqDiff, Nat.reduceAdd, Nat.reduceMul, Nat.reduceLeDiff, Nat.reduceLT, Nat.reduceSub]
    refine ⟨_, holds142 _ (cnE_getD (look_ok hp) x hw), ?_⟩
    simp only [later]
    simp only [amset, amlib, zset, rxL_length, eq_self, ↓reduceIte, reduceCtorEq, Nat.reduceBEq, Nat.reduceEqDiff, Nat.reduceAdd, Nat.reduceMul, Nat.reduceLeDiff, Nat.reduceLT, Nat.reduceSub]
    refine hK5 _ ?_
    clear hK5
    refine aw_ret ?_
    show resOf zG _ [.cell 4 32] = some _
    simp only [amset, amlib, zset, rxL_length, eq_self, ↓reduceIte, reduceCtorEq, Nat.reduceBEq, Nat.reduceEqDiff, Nat.reduceAdd, Nat.reduceMul, Nat.reduceLeDiff, Nat.reduceLT, Nat.reduceSub]
    have e : rxE (look p.consts) x = litE ((cnE (look p.consts) x).getD 0) := by
      rw [rxE_eq]
      cases hv : cnE (look p.consts) x with
      | none => rw [hv] at h0; cases h0
      | some v => rfl
    rw [e]
  · skip
    refine aw_skip ?_
    simp only [thenQ, blkQ, if_true, reduceIte, Nat.reduceEqDiff, eq_self]
    refine hK2 _ ?_
    clear hK2
    refine aw_ops zT fun K6 hK6 => ?_
    simp only [amset, amlib, zset, rxL_length, eq_self, ↓reduceIte, reduceCtorEq, Nat.reduceBEq, Nat.reduceEqDiff, Nat.reduceAdd, Nat.reduceMul, Nat.reduceLeDiff, Nat.reduceLT, Nat.reduceSub]
    refine hK6 _ ?_
    clear hK6
    refine aw_seq fun K7 hK7 => ?_
    refine aw_ops zT fun K8 hK8 => ?_
    simp only [amset, amlib, zset, rxL_length, eq_self, ↓reduceIte, reduceCtorEq, Nat.reduceBEq, Nat.reduceEqDiff, Nat.reduceAdd, Nat.reduceMul, Nat.reduceLeDiff, Nat.reduceLT, Nat.reduceSub]
    intros
    refine hK8 _ ?_
    clear hK8
    refine aw_block ?_
    refine aw_retag 7 0 1003 (by simp only [amset, amlib, zset, rxL_length, eq_self, ↓reduceIte, reduceCtorEq, Nat.reduceBEq, Nat.reduceEqDiff, Nat.reduceAdd, Nat.reduceMul, Nat.reduceLeDiff, Nat.reduceLT, Nat.reduceSub]) ?_
    refine aw_norm (by simp only [amset, amlib, zset, rxL_length, eq_self, ↓reduceIte, reduceCtorEq, Nat.reduceBEq, Nat.reduceEqDiff, Nat.reduceAdd, Nat.reduceMul, Nat.reduceLeDiff, Nat.reduceLT, Nat.reduceSub]; exact rfl) ?_
    refine aw_range (α := Ex) (x.args) (fun dn => True) (fun dn => [(7, .cell (.own 1003 0 32 6 (encEs (rxL (look p.consts) dn)))), (24, .cell (.c (.int .i64 dn.length)))]) (fun dn => []) [1003] [7, 9, 24, 25, 26, 27, 28, 29, 30, 31, 32, 33, 34] [9] trivial ?_ ?_ ?_ ?_
    · simp only [amset, amlib, zset, rxL_length, eq_self, ↓reduceIte, reduceCtorEq, Nat.reduceBEq, Nat.reduceEqDiff, Nat.reduceAdd, Nat.reduceMul, Nat.reduceLeDiff, Nat.reduceLT, Nat.reduceSub] <;> simp [rxL, rxL_append, encEs_append, encEs_nil, encEs_cons, encE_eq]
    · simp only [amset, amlib, zset, rxL_length, eq_self, ↓reduceIte, reduceCtorEq, Nat.reduceBEq, Nat.reduceEqDiff, Nat.reduceAdd, Nat.reduceMul, Nat.reduceLeDiff, Nat.reduceLT, Nat.reduceSub] <;> simp [rxL, rxL_append, encEs_append, encEs_nil, encEs_cons, encE_eq]
    · intro hI R
      refine aw_norm (by simp only [amset, amlib, zset, rxL_length, eq_self, ↓reduceIte, reduceCtorEq, Nat.reduceBEq, Nat.reduceEqDiff, Nat.reduceAdd, Nat.reduceMul, Nat.reduceLeDiff, Nat.reduceLT, Nat.reduceSub]; exact rfl) ?_
      refine aw_ops zT fun K9 hK9 => ?_
      simp only [amset, amlib, zset, rxL_length, eq_self, ↓reduceIte, reduceCtorEq, Nat.reduceBEq, Nat.reduceEqDiff, Nat.reduceAdd, Nat.reduceMul, Nat.reduceLeDiff, Nat.reduceLT, Nat.reduceSub]
      refine hK9 _ ?_
      clear hK9
      refine aw_seq fun K10 hK10 => ?_
      refine aw_cond (t := false) (by simp [evalO, S.get, amLook]) (fun h => nomatch h) (fun _ => ?_)
      refine aw_exit ?_
      simp only [thenQ, blkQ, if_true, reduceIte, Nat.reduceEqDiff, eq_self]
      refine hK7 _ ?_
      clear hK7
      refine aw_seq fun K11 hK11 => ?_
      refine aw_freeze 1003 ?_
      refine aw_norm (by simp only [amset, amlib, zset, rxL_length, eq_self, ↓reduceIte, reduceCtorEq, Nat.reduceBEq, Nat.reduceEqDiff, Nat.reduceAdd, Nat.reduceMul, Nat.reduceLeDiff, Nat.reduceLT, Nat.reduceSub]; exact rfl) ?_
      refine aw_ops zT fun K12 hK12 => ?_
      cases g0 : (x.kind == 6) with
      | true =>
        cases g1 : (x.op == 14) with
        | true =>
          simp only [amset, amlib, zset, g0, g1, rxL_length, eq_self, ↓reduceIte, reduceCtorEq, Nat.reduceBEq, Nat.reduceEqDiff, Nat.reduceAdd, Nat.reduceMul, Nat.reduceLeDiff, Nat.reduceLT, Nat.reduceSub]
          refine hK12 _ ?_
          clear hK12
          refine aw_cond (t := true) rfl (fun _ => ?_) (fun h => nomatch h)
          have ha : 2 ≤ x.args.length := (okE_eq x ▸ hx).1.2.1 (by simpa using g0)
          have hget : (encEs x.args).getD (Int.toNat 0) [] = encE x.args[0] := encEs_getD _ 0 (by omega)
          have hcn : (cnL (look p.consts) x.args).getD 0 none = cnE (look p.consts) x.args[0] := cnL_getD _ _ 0 (by omega)
          have hget1 : (encEs (rxL (look p.consts) x.args)).getD (Int.toNat 1) [] = encE ((rxL (look p.consts) x.args).getD 1 (numE 0)) := encEs_getD' _ 1 _ (by rw [rxL_length]; omega)
          refine aw_draw zT prog_mixed fun K13 hK13 => ?_
          simp only [amset, amlib, zset, hget, g0, g1, h0, rxL_length, eq_self, ↓reduceIte, reduceCtorEq, Nat.reduceBEq, Nat.reduceEqDiff, Nat.reduceAdd, Nat.reduceMul, Nat.reduceLeDiff, Nat.reduceLT, Nat.reduceSub]
          refine ⟨⟨by omega, by omega⟩, ?_⟩
          refine ⟨_, holds28 p hp x.args[0] (okL_mem (okE_eq x ▸ hx).2 (List.getElem_mem _)) (wdL_mem (wdE_eq x ▸ hw).2 (List.getElem_mem _)), ?_⟩
          simp only [later]
          simp only [amset, amlib, zset, rxL_length, eq_self, ↓reduceIte, reduceCtorEq, Nat.reduceBEq, Nat.reduceEqDiff, Nat.reduceAdd, Nat.reduceMul, Nat.reduceLeDiff, Nat.reduceLT, Nat.reduceSub]
          refine ⟨by kernel_rfl, ?_⟩
          refine hK13 _ ?_
          clear hK13
          refine aw_ops zT fun K14 hK14 => ?_
          simp only [amset, amlib, zset, rxL_length, eq_self, ↓reduceIte, reduceCtorEq, Nat.reduceBEq, Nat.reduceEqDiff, Nat.reduceAdd, Nat.reduceMul, Nat.reduceLeDiff, Nat.reduceLT, Nat.reduceSub]
          refine hK14 _ ?_
          clear hK14
          refine aw_cond rfl (fun h1 => ?_) (fun h1 => ?_)
          · skip
            refine aw_draw zT prog_mixed fun K15 hK15 => ?_
            simp only [amset, amlib, zset, hget1, g0, g1, h0, h1, rxL_length, eq_self, ↓reduceIte, reduceCtorEq, Nat.reduceBEq, Nat.reduceEqDiff, Nat.reduceAdd, Nat.reduceMul, Nat.reduceLeDiff, Nat.reduceLT, Nat.reduceSub]
            refine ⟨⟨by omega, by omega⟩, ?_⟩
            refine ⟨_, holds144 0, ?_⟩
            simp only [later]
            simp only [amset, amlib, zset, rxL_length, eq_self, ↓reduceIte, reduceCtorEq, Nat.reduceBEq, Nat.reduceEqDiff, Nat.reduceAdd, Nat.reduceMul, Nat.reduceLeDiff, Nat.reduceLT, Nat.reduceSub]
            refine ⟨_, holds143 9 ((rxL (look p.consts) x.args).getD 1 (numE 0)) (numE 0), ?_⟩
            simp only [later]
            simp only [amset, amlib, zset, rxL_length, eq_self, ↓reduceIte, reduceCtorEq, Nat.reduceBEq, Nat.reduceEqDiff, Nat.reduceAdd, Nat.reduceMul, Nat.reduceLeDiff, Nat.reduceLT, Nat.reduceSub]
            refine ⟨by kernel_rfl, ?_⟩
            refine hK15 _ ?_
            clear hK15
            refine aw_ret ?_
            show resOf zG _ [.cell 4 32] = some _
            simp only [amset, amlib, zset, rxL_length, eq_self, ↓reduceIte, reduceCtorEq, Nat.reduceBEq, Nat.reduceEqDiff, Nat.reduceAdd, Nat.reduceMul, Nat.reduceLeDiff, Nat.reduceLT, Nat.reduceSub]
            have hn : cnE (look p.consts) x = none := by
              cases hv : cnE (look p.consts) x with
              | none => rfl
              | some v => rw [hv] at h0; cases h0
            have e : rxE (look p.consts) x = binE' 9 ((rxL (look p.consts) x.args).getD 1 (numE 0)) (numE 0) := by
              rw [rxE_eq, hn, hcn]
              simp only [g0, g1, h0, h1, Bool.true_or, Bool.or_true, Bool.and_true, Bool.true_and, ↓reduceIte]
            rw [e]
          · skip
            refine aw_skip ?_
            simp only [thenQ, blkQ, if_true, reduceIte, Nat.reduceEqDiff, eq_self]
            refine hK11 _ ?_
            clear hK11
            refine aw_ops zT fun K16 hK16 => ?_
            simp only [amset, amlib, zset, rxL_length, eq_self, ↓reduceIte, reduceCtorEq, Nat.reduceBEq, Nat.reduceEqDiff, Nat.reduceAdd, Nat.reduceMul, Nat.reduceLeDiff, Nat.reduceLT, Nat.reduceSub]
            refine hK16 _ ?_
            clear hK16
            refine aw_ops zT fun K17 hK17 => ?_
            simp only [amset, amlib, zset, rxL_length, eq_self, ↓reduceIte, reduceCtorEq, Nat.reduceBEq, Nat.reduceEqDiff, Nat.reduceAdd, Nat.reduceMul, Nat.reduceLeDiff, Nat.reduceLT, Nat.reduceSub]
            refine hK17 _ ?_
            clear hK17
            refine aw_ret ?_
            show resOf zG _ [.cell 4 32] = some _
            simp only [amset, amlib, zset, rxL_length, eq_self, ↓reduceIte, reduceCtorEq, Nat.reduceBEq, Nat.reduceEqDiff, Nat.reduceAdd, Nat.reduceMul, Nat.reduceLeDiff, Nat.reduceLT, Nat.reduceSub]
            have hn : cnE (look p.consts) x = none := by
              cases hv : cnE (look p.consts) x with
              | none => rfl
              | some v => rw [hv] at h0; cases h0
            have e : rxE (look p.consts) x = .mk x.kind x.name x.value x.op (rxL (look p.consts) x.args) x.pos := by
              rw [rxE_eq, hn]
              simp only [g0, g1, h0, h1, hcn, Bool.true_or, Bool.or_true, Bool.false_or, Bool.or_false, Bool.true_and, Bool.and_true, Bool.false_and, Bool.and_false, Bool.not_true, Bool.not_false, if_true, if_false, ↓reduceIte, Bool.false_eq_true]
            rw [e]
            rfl
        | false =>
          cases g2 : (x.op == 15) with
          | true =>
            simp only [amset, amlib, zset, g0, g1, g2, rxL_length, eq_self, ↓reduceIte, reduceCtorEq, Nat.reduceBEq, Nat.reduceEqDiff, Nat.reduceAdd, Nat.reduceMul, Nat.reduceLeDiff, Nat.reduceLT, Nat.reduceSub]
            refine hK12 _ ?_
            clear hK12
            refine aw_cond (t := true) rfl (fun _ => ?_) (fun h => nomatch h)
            have ha : 2 ≤ x.args.length := (okE_eq x ▸ hx).1.2.1 (by simpa using g0)
            have hget : (encEs x.args).getD (Int.toNat 0) [] = encE x.args[0] := encEs_getD _ 0 (by omega)
            have hcn : (cnL (look p.consts) x.args).getD 0 none = cnE (look p.consts) x.args[0] := cnL_getD _ _ 0 (by omega)
            have hget1 : (encEs (rxL (look p.consts) x.args)).getD (Int.toNat 1) [] = encE ((rxL (look p.consts) x.args).getD 1 (numE 0)) := encEs_getD' _ 1 _ (by rw [rxL_length]; omega)
            refine aw_draw zT prog_mixed fun K18 hK18 => ?_
            simp only [amset, amlib, zset, hget, g0, g1, g2, h0, rxL_length, eq_self, ↓reduceIte, reduceCtorEq, Nat.reduceBEq, Nat.reduceEqDiff, Nat.reduceAdd, Nat.reduceMul, Nat.reduceLeDiff, Nat.reduceLT, Nat.reduceSub]
            refine ⟨⟨by omega, by omega⟩, ?_⟩
            refine ⟨_, holds28 p hp x.args[0] (okL_mem (okE_eq x ▸ hx).2 (List.getElem_mem _)) (wdL_mem (wdE_eq x ▸ hw).2 (List.getElem_mem _)), ?_⟩
            simp only [later]
            simp only [amset, amlib, zset, rxL_length, eq_self, ↓reduceIte, reduceCtorEq, Nat.reduceBEq, Nat.reduceEqDiff, Nat.reduceAdd, Nat.reduceMul, Nat.reduceLeDiff, Nat.reduceLT, Nat.reduceSub]
            refine ⟨by kernel_rfl, ?_⟩
            refine hK18 _ ?_
            clear hK18
            refine aw_ops zT fun K19 hK19 => ?_
            simp only [amset, amlib, zset, rxL_length, eq_self, ↓reduceIte, reduceCtorEq, Nat.reduceBEq, Nat.reduceEqDiff, Nat.reduceAdd, Nat.reduceMul, Nat.reduceLeDiff, Nat.reduceLT, Nat.reduceSub]
            refine hK19 _ ?_
            clear hK19
            refine aw_cond rfl (fun h1 => ?_) (fun h1 => ?_)
            · skip
              refine aw_draw zT prog_mixed fun K20 hK20 => ?_
              simp only [amset, amlib, zset, hget1, g0, g1, g2, h0, h1, rxL_length, eq_self, ↓reduceIte, reduceCtorEq, Nat.reduceBEq, Nat.reduceEqDiff, Nat.reduceAdd, Nat.reduceMul, Nat.reduceLeDiff, Nat.reduceLT, Nat.reduceSub]
              refine ⟨⟨by omega, by omega⟩, ?_⟩
              refine ⟨_, holds144 0, ?_⟩
              simp only [later]
              simp only [amset, amlib, zset, rxL_length, eq_self, ↓reduceIte, reduceCtorEq, Nat.reduceBEq, Nat.reduceEqDiff, Nat.reduceAdd, Nat.reduceMul, Nat.reduceLeDiff, Nat.reduceLT, Nat.reduceSub]
              refine ⟨_, holds143 9 ((rxL (look p.consts) x.args).getD 1 (numE 0)) (numE 0), ?_⟩
              simp only [later]
              simp only [amset, amlib, zset, rxL_length, eq_self, ↓reduceIte, reduceCtorEq, Nat.reduceBEq, Nat.reduceEqDiff, Nat.reduceAdd, Nat.reduceMul, Nat.reduceLeDiff, Nat.reduceLT, Nat.reduceSub]
              refine ⟨by kernel_rfl, ?_⟩
              refine hK20 _ ?_
              clear hK20
              refine aw_ret ?_
              show resOf zG _ [.cell 4 32] = some _
              simp only [amset, amlib, zset, rxL_length, eq_self, ↓reduceIte, reduceCtorEq, Nat.reduceBEq, Nat.reduceEqDiff, Nat.reduceAdd, Nat.reduceMul, Nat.reduceLeDiff, Nat.reduceLT, Nat.reduceSub]
              have hn : cnE (look p.consts) x = none := by
                cases hv : cnE (look p.consts) x with
                | none => rfl
                | some v => rw [hv] at h0; cases h0
              have e : rxE (look p.consts) x = binE' 9 ((rxL (look p.consts) x.args).getD 1 (numE 0)) (numE 0) := by
                rw [rxE_eq, hn, hcn]
                simp only [g0, g1, g2, h0, h1, Bool.true_or, Bool.or_true, Bool.and_true, Bool.true_and, ↓reduceIte]
              rw [e]
            · skip
              refine aw_skip ?_
              simp only [thenQ, blkQ, if_true, reduceIte, Nat.reduceEqDiff, eq_self]
              refine hK11 _ ?_
              clear hK11
              refine aw_ops zT fun K21 hK21 => ?_
              simp only [amset, amlib, zset, rxL_length, eq_self, ↓reduceIte, reduceCtorEq, Nat.reduceBEq, Nat.reduceEqDiff, Nat.reduceAdd, Nat.reduceMul, Nat.reduceLeDiff, Nat.reduceLT, Nat.reduceSub]
              refine hK21 _ ?_
              clear hK21
              refine aw_ops zT fun K22 hK22 => ?_
              simp only [amset, amlib, zset, rxL_length, eq_self, ↓reduceIte, reduceCtorEq, Nat.reduceBEq, Nat.reduceEqDiff, Nat.reduceAdd, Nat.reduceMul, Nat.reduceLeDiff, Nat.reduceLT, Nat.reduceSub]
              refine hK22 _ ?_
              clear hK22
              refine aw_ret ?_
              show resOf zG _ [.cell 4 32] = some _
              simp only [amset, amlib, zset, rxL_length, eq_self, ↓reduceIte, reduceCtorEq, Nat.reduceBEq, Nat.reduceEqDiff, Nat.reduceAdd, Nat.reduceMul, Nat.reduceLeDiff, Nat.reduceLT, Nat.reduceSub]
              have hn : cnE (look p.consts) x = none := by
                cases hv : cnE (look p.consts) x with
                | none => rfl
                | some v => rw [hv] at h0; cases h0
              have e : rxE (look p.consts) x = .mk x.kind x.name x.value x.op (rxL (look p.consts) x.args) x.pos := by
                rw [rxE_eq, hn]
                simp only [g0, g1, g2, h0, h1, hcn, Bool.true_or, Bool.or_true, Bool.false_or, Bool.or_false, Bool.true_and, Bool.and_true, Bool.false_and, Bool.and_false, Bool.not_true, Bool.not_false, if_true, if_false, ↓reduceIte, Bool.false_eq_true]
              rw [e]
              rfl
          | false =>
            simp only [amset, amlib, zset, g0, g1, g2, rxL_length, eq_self, ↓reduceIte, reduceCtorEq, Nat.reduceBEq, Nat.reduceEqDiff, Nat.reduceAdd, Nat.reduceMul, Nat.reduceLeDiff, Nat.reduceLT, Nat.reduceSub]
            refine hK12 _ ?_
            clear hK12
            refine aw_cond (t := false) rfl (fun h => nomatch h) (fun _ => ?_)
            refine aw_skip ?_
            simp only [thenQ, blkQ, if_true, reduceIte, Nat.reduceEqDiff, eq_self]
            refine hK11 _ ?_
            clear hK11
            refine aw_ops zT fun K23 hK23 => ?_
            simp only [amset, amlib, zset, rxL_length, eq_self, ↓reduceIte, reduceCtorEq, Nat.reduceBEq, Nat.reduceEqDiff, Nat.reduceAdd, Nat.reduceMul, Nat.reduceLeDiff, Nat.reduceLT, Nat.reduceSub]
            refine hK23 _ ?_
            clear hK23
            refine aw_ops zT fun K24 hK24 => ?_
            simp only [amset, amlib, zset, rxL_length, eq_self, ↓reduceIte, reduceCtorEq, Nat.reduceBEq, Nat.reduceEqDiff, Nat.reduceAdd, Nat.reduceMul, Nat.reduceLeDiff, Nat.reduceLT, Nat.reduceSub]
            refine hK24 _ ?_
            clear hK24
            refine aw_ret ?_
            show resOf zG _ [.cell 4 32] = some _
            simp only [amset, amlib, zset, rxL_length, eq_self, ↓reduceIte, reduceCtorEq, Nat.reduceBEq, Nat.reduceEqDiff, Nat.reduceAdd, Nat.reduceMul, Nat.reduceLeDiff, Nat.reduceLT, Nat.reduceSub]
            have hn : cnE (look p.consts) x = none := by
              cases hv : cnE (look p.consts) x with
              | none => rfl
              | some v => rw [hv] at h0; cases h0
            have e : rxE (look p.consts) x = .mk x.kind x.name x.value x.op (rxL (look p.consts) x.args) x.pos := by
              rw [rxE_eq, hn]
              simp only [g0, g1, g2, h0, Bool.true_or, Bool.or_true, Bool.false_or, Bool.or_false, Bool.true_and, Bool.and_true, Bool.false_and, Bool.and_false, Bool.not_true, Bool.not_false, if_true, if_false, ↓reduceIte, Bool.false_eq_true]
            rw [e]
            rfl
      | false =>
        simp only [amset, amlib, zset, g0, rxL_length, eq_self, ↓reduceIte, reduceCtorEq, Nat.reduceBEq, Nat.reduceEqDiff, Nat.reduceAdd, Nat.reduceMul, Nat.reduceLeDiff, Nat.reduceLT, Nat.reduceSub]
        refine hK12 _ ?_
        clear hK12
        refine aw_cond (t := false) rfl (fun h => nomatch h) (fun _ => ?_)
        refine aw_skip ?_
        simp only [thenQ, blkQ, if_true, reduceIte, Nat.reduceEqDiff, eq_self]
        refine hK11 _ ?_
        clear hK11
        refine aw_ops zT fun K25 hK25 => ?_
        simp only [amset, amlib, zset, rxL_length, eq_self, ↓reduceIte, reduceCtorEq, Nat.reduceBEq, Nat.reduceEqDiff, Nat.reduceAdd, Nat.reduceMul, Nat.reduceLeDiff, Nat.reduceLT, Nat.reduceSub]
        refine hK25 _ ?_
        clear hK25
        refine aw_ops zT fun K26 hK26 => ?_
        simp only [amset, amlib, zset, rxL_length, eq_self, ↓reduceIte, reduceCtorEq, Nat.reduceBEq, Nat.reduceEqDiff, Nat.reduceAdd, Nat.reduceMul, Nat.reduceLeDiff, Nat.reduceLT, Nat.reduceSub]
        refine hK26 _ ?_
        clear hK26
        refine aw_ret ?_
        show resOf zG _ [.cell 4 32] = some _
        simp only [amset, amlib, zset, rxL_length, eq_self, ↓reduceIte, reduceCtorEq, Nat.reduceBEq, Nat.reduceEqDiff, Nat.reduceAdd, Nat.reduceMul, Nat.reduceLeDiff, Nat.reduceLT, Nat.reduceSub]
        have hn : cnE (look p.consts) x = none := by
          cases hv : cnE (look p.consts) x with
          | none => rfl
          | some v => rw [hv] at h0; cases h0
        have e : rxE (look p.consts) x = .mk x.kind x.name x.value x.op (rxL (look p.consts) x.args) x.pos := by
          rw [rxE_eq, hn]
          simp only [g0, h0, Bool.true_or, Bool.or_true, Bool.false_or, Bool.or_false, Bool.true_and, Bool.and_true, Bool.false_and, Bool.and_false, Bool.not_true, Bool.not_false, if_true, if_false, ↓reduceIte, Bool.false_eq_true]
        rw [e]
        rfl
    · intro dn y td harg hI R hR
      have hl : (x.args).length = dn.length + (td.length + 1) := by rw [harg]; simp
      have hmem : y ∈ x.args := by rw [harg]; simp
      refine aw_norm (by simp only [amset, amlib, zset, rxL_length, eq_self, ↓reduceIte, reduceCtorEq, Nat.reduceBEq, Nat.reduceEqDiff, Nat.reduceAdd, Nat.reduceMul, Nat.reduceLeDiff, Nat.reduceLT, Nat.reduceSub]; exact rfl) ?_
      have hget : (encEs (x.args)).getD dn.length [] = encE y := by rw [harg]; exact encEs_mid dn td y
      refine aw_ops zT fun K27 hK27 => ?_
      simp only [amset, amlib, zset, rxL_length, eq_self, ↓reduceIte, reduceCtorEq, Nat.reduceBEq, Nat.reduceEqDiff, Nat.reduceAdd, Nat.reduceMul, Nat.reduceLeDiff, Nat.reduceLT, Nat.reduceSub]
      refine hK27 _ ?_
      clear hK27
      refine aw_seq fun K28 hK28 => ?_
      refine aw_cond (t := true) (by simp [evalO, S.get, amLook]; omega) (fun _ => ?_) (fun h => nomatch h)
      refine aw_skip ?_
      simp only [thenQ, blkQ, if_true, reduceIte, Nat.reduceEqDiff, eq_self]
      refine hK28 _ ?_
      clear hK28
      refine aw_seq fun K29 hK29 => ?_
      refine aw_block ?_
      refine aw_ops zT fun K30 hK30 => ?_
      simp only [amset, amlib, zset, hget, rxL_length, eq_self, ↓reduceIte, reduceCtorEq, Nat.reduceBEq, Nat.reduceEqDiff, Nat.reduceAdd, Nat.reduceMul, Nat.reduceLeDiff, Nat.reduceLT, Nat.reduceSub]
      refine ⟨⟨by omega, by omega⟩, ?_⟩
      refine hK30 _ ?_
      clear hK30
      refine aw_region zT ?_
      simp only [amset, amlib, zset, rxL_length, eq_self, ↓reduceIte, reduceCtorEq, Nat.reduceBEq, Nat.reduceEqDiff, Nat.reduceAdd, Nat.reduceMul, Nat.reduceLeDiff, Nat.reduceLT, Nat.reduceSub]
      refine ⟨_, ih y hmem, ?_⟩
      simp only [later]
      simp only [amset, amlib, zset, rxL_length, eq_self, ↓reduceIte, reduceCtorEq, Nat.reduceBEq, Nat.reduceEqDiff, Nat.reduceAdd, Nat.reduceMul, Nat.reduceLeDiff, Nat.reduceLT, Nat.reduceSub]
      refine ⟨⟨by simp, by have := subL_len x.args; have := subE_len x; omega⟩, ?_⟩
      refine hK29 _ ?_
      clear hK29
      refine aw_region zT ?_
      simp only [amset, amlib, zset, rxL_length, eq_self, ↓reduceIte, reduceCtorEq, Nat.reduceBEq, Nat.reduceEqDiff, Nat.reduceAdd, Nat.reduceMul, Nat.reduceLeDiff, Nat.reduceLT, Nat.reduceSub]
      refine ⟨⟨by omega, by omega⟩, ?_⟩
      refine hR _ trivial ?_
      refine Reach.trans (Reach.retag 33 0 1003 ?_) (Reach.to ?_ ?_)
      · simp only [amset, amlib, zset, rxL_length, eq_self, ↓reduceIte, reduceCtorEq, Nat.reduceBEq, Nat.reduceEqDiff, Nat.reduceAdd, Nat.reduceMul, Nat.reduceLeDiff, Nat.reduceLT, Nat.reduceSub]
      · simp only [amset, amlib, zset, rxL_length, eq_self, ↓reduceIte, reduceCtorEq, Nat.reduceBEq, Nat.reduceEqDiff, Nat.reduceAdd, Nat.reduceMul, Nat.reduceLeDiff, Nat.reduceLT, Nat.reduceSub] <;> simp [rxL, rxL_append, encEs_append, encEs_nil, encEs_cons, encE_eq]
      · simp only [amset, amlib, zset, rxL_length, eq_self, ↓reduceIte, reduceCtorEq, Nat.reduceBEq, Nat.reduceEqDiff, Nat.reduceAdd, Nat.reduceMul, Nat.reduceLeDiff, Nat.reduceLT, Nat.reduceSub] <;> simp [rxL, rxL_append, encEs_append, encEs_nil, encEs_cons, encE_eq]
theorem holds65 (p : Pg) (hp : ∀ c ∈ p.consts, i16r c.value) (x : Ex) (hx : okE x) (hw : wdE x) (hs : (subE x).length ≤ 1000000000000) : Holds Tryz.prog zG 65 [.agg [.sl 3 (encCs p.consts), .sl 4 (encGs p.globals), .sl 1 (encStrs p.sensors), .sl 1 (encStrs p.outputs), .sl 3 (encHs p.channels), .sl 8 (encTs p.tasks)], .agg [.int .i64 x.kind, .str x.name, .int .i16 x.value, .int .i64 x.op, .sl 6 (encEs x.args), .int .i64 x.pos]] [.agg [.int .i64 (rxE (look p.consts) x).kind, .str (rxE (look p.consts) x).name, .int .i16 (rxE (look p.consts) x).value, .int .i64 (rxE (look p.consts) x).op, .sl 6 (encEs (rxE (look p.consts) x).args), .int .i64 (rxE (look p.consts) x).pos]] := step65 p hp x hx hw hs fun y hy => holds65 p hp y (okL_mem (okE_eq x ▸ hx).2 hy) (wdL_mem (wdE_eq x ▸ hw).2 hy) (by have := subL_mem hy; have := subE_len x; omega)
  termination_by SizeOf.sizeOf x
  decreasing_by exact Ex.args_lt hy
end Go.Proofs.Am
set_option maxRecDepth 100000
set_option maxHeartbeats 4000000
namespace Go.Proofs.Am
mutual
def strE : Ex → Ex
  | .mk k n v o a _ => .mk k n v o (strL a) 0
def strL : List Ex → List Ex
  | [] => []
  | x :: r => strE x :: strL r
end
theorem strE_eq (x : Ex) : strE x = .mk x.kind x.name x.value x.op (strL x.args) 0 := by cases x; rfl
theorem strL_map (l : List Ex) : strL l = l.map strE := by
  induction l with
  | nil => rfl
  | cons x r ih => simp [strL, ih]
theorem strL_append (a b : List Ex) : strL (a ++ b) = strL a ++ strL b := by simp [strL_map]
theorem strL_length (a : List Ex) : (strL a).length = a.length := by simp [strL_map]
theorem prog66 : Tryz.prog.funcs[66]? = some Tryz.f66 := by kernel_rfl
theorem step66 (x : Ex) (hs : (subE x).length ≤ 1000000000000) (ih : ∀ y ∈ x.args, Holds Tryz.prog zG 66 [.agg [.int .i64 y.kind, .str y.name, .int .i16 y.value, .int .i64 y.op, .sl 6 (encEs y.args), .int .i64 y.pos]] [.agg [.int .i64 (strE y).kind, .str (strE y).name, .int .i16 (strE y).value, .int .i64 (strE y).op, .sl 6 (encEs (strE y).args), .int .i64 (strE y).pos]]) : Holds Tryz.prog zG 66 [.agg [.int .i64 x.kind, .str x.name, .int .i16 x.value, .int .i64 x.op, .sl 6 (encEs x.args), .int .i64 x.pos]] [.agg [.int .i64 (strE x).kind, .str (strE x).name, .int .i16 (strE x).value, .int .i64 (strE x).op, .sl 6 (encEs (strE x).args), .int .i64 (strE x).pos]] := by
  refine holds_of_body zT prog66 rfl rfl rfl (by simp [Tryz.f66]) ?_
  refine aw_ops zT fun K1 hK1 => ?_
  simp only [amset, amlib, zset, strL_length, eq_self, ↓reduceIte, reduceCtorEq, Nat.reduceBEq, Nat.reduceEqDiff, Nat.reduceAdd, Nat.reduceMul, Nat.reduceLeDiff, Nat.reduceLT, Nat.reduceSub]
  refine hK1 _ ?_
  clear hK1
  refine aw_ops zT fun K2 hK2 => ?_
  simp only [amset, amlib, zset, strL_length, eq_self, ↓reduceIte, reduceCtorEq, Nat.reduceBEq, Nat.reduceEqDiff, Nat.reduceAdd, Nat.reduceMul, Nat.reduceLeDiff, Nat.reduceLT, Nat.reduceSub]
  refine hK2 _ ?_
  clear hK2
  refine aw_ops zT fun K3 hK3 => ?_
  simp only [amset, amlib, zset, strL_length, eq_self, ↓reduceIte, reduceCtorEq, Nat.reduceBEq, Nat.reduceEqDiff, Nat.reduceAdd, Nat.reduceMul, Nat.reduceLeDiff, Nat.reduceLT, Nat.reduceSub]
  refine hK3 _ ?_
  clear hK3
  refine aw_seq fun K4 hK4 => ?_
  refine aw_ops zT fun K5 hK5 => ?_
  simp only [amset, amlib, zset, strL_length, eq_self, ↓reduceIte, reduceCtorEq, Nat.reduceBEq, Nat.reduceEqDiff, Nat.reduceAdd, Nat.reduceMul, Nat.reduceLeDiff, Nat.reduceLT, Nat.reduceSub]
  intros
  refine hK5 _ ?_
  clear hK5
  refine aw_block ?_
  refine aw_retag 3 0 1003 (by simp only [amset, amlib, zset, strL_length, eq_self, ↓reduceIte, reduceCtorEq, Nat.reduceBEq, Nat.reduceEqDiff, Nat.reduceAdd, Nat.reduceMul, Nat.reduceLeDiff, Nat.reduceLT, Nat.reduceSub]) ?_
  refine aw_norm (by simp only [amset, amlib, zset, strL_length, eq_self, ↓reduceIte, reduceCtorEq, Nat.reduceBEq, Nat.reduceEqDiff, Nat.reduceAdd, Nat.reduceMul, Nat.reduceLeDiff, Nat.reduceLT, Nat.reduceSub]; exact rfl) ?_
  refine aw_range (α := Ex) (x.args) (fun dn => True) (fun dn => [(3, .cell (.own 1003 0 32 6 (encEs (strL dn)))), (10, .cell (.c (.int .i64 dn.length)))]) (fun dn => []) [1003] [3, 5, 10, 11, 12, 13, 14, 15, 16, 17, 18, 19] [5] trivial ?_ ?_ ?_ ?_
  · simp only [amset, amlib, zset, strL_length, eq_self, ↓reduceIte, reduceCtorEq, Nat.reduceBEq, Nat.reduceEqDiff, Nat.reduceAdd, Nat.reduceMul, Nat.reduceLeDiff, Nat.reduceLT, Nat.reduceSub] <;> simp [strL, strL_append, encEs_append, encEs_nil, encEs_cons, encE_eq]
  · simp only [amset, amlib, zset, strL_length, eq_self, ↓reduceIte, reduceCtorEq, Nat.reduceBEq, Nat.reduceEqDiff, Nat.reduceAdd, Nat.reduceMul, Nat.reduceLeDiff, Nat.reduceLT, Nat.reduceSub] <;> simp [strL, strL_append, encEs_append, encEs_nil, encEs_cons, encE_eq]
  · intro hI R
    refine aw_norm (by simp only [amset, amlib, zset, strL_length, eq_self, ↓reduceIte, reduceCtorEq, Nat.reduceBEq, Nat.reduceEqDiff, Nat.reduceAdd, Nat.reduceMul, Nat.reduceLeDiff, Nat.reduceLT, Nat.reduceSub]; exact rfl) ?_
    refine aw_ops zT fun K6 hK6 => ?_
    simp only [amset, amlib, zset, strL_length, eq_self, ↓reduceIte, reduceCtorEq, Nat.reduceBEq, Nat.reduceEqDiff, Nat.reduceAdd, Nat.reduceMul, Nat.reduceLeDiff, Nat.reduceLT, Nat.reduceSub]
    refine hK6 _ ?_
    clear hK6
    refine aw_seq fun K7 hK7 => ?_
    refine aw_cond (t := false) (by simp [evalO, S.get, amLook]) (fun h => nomatch h) (fun _ => ?_)
    refine aw_exit ?_
    simp only [thenQ, blkQ, if_true, reduceIte, Nat.reduceEqDiff, eq_self]
    refine hK4 _ ?_
    clear hK4
    refine aw_ops zT fun K8 hK8 => ?_
    simp only [amset, amlib, zset, strL_length, eq_self, ↓reduceIte, reduceCtorEq, Nat.reduceBEq, Nat.reduceEqDiff, Nat.reduceAdd, Nat.reduceMul, Nat.reduceLeDiff, Nat.reduceLT, Nat.reduceSub]
    refine hK8 _ ?_
    clear hK8
    refine aw_ops zT fun K9 hK9 => ?_
    simp only [amset, amlib, zset, strL_length, eq_self, ↓reduceIte, reduceCtorEq, Nat.reduceBEq, Nat.reduceEqDiff, Nat.reduceAdd, Nat.reduceMul, Nat.reduceLeDiff, Nat.reduceLT, Nat.reduceSub]
    refine hK9 _ ?_
    clear hK9
    refine aw_ret ?_
    show resOf zG _ [.cell 2 32] = some _
    simp only [amset, amlib, zset, strL_length, eq_self, ↓reduceIte, reduceCtorEq, Nat.reduceBEq, Nat.reduceEqDiff, Nat.reduceAdd, Nat.reduceMul, Nat.reduceLeDiff, Nat.reduceLT, Nat.reduceSub]
    rw [strE_eq]
    rfl
  · intro dn y td harg hI R hR
    have hl : (x.args).length = dn.length + (td.length + 1) := by rw [harg]; simp
    have hmem : y ∈ x.args := by rw [harg]; simp
    refine aw_norm (by simp only [amset, amlib, zset, strL_length, eq_self, ↓reduceIte, reduceCtorEq, Nat.reduceBEq, Nat.reduceEqDiff, Nat.reduceAdd, Nat.reduceMul, Nat.reduceLeDiff, Nat.reduceLT, Nat.reduceSub]; exact rfl) ?_
    have hget : (encEs (x.args)).getD dn.length [] = encE y := by rw [harg]; exact encEs_mid dn td y
    refine aw_ops zT fun K10 hK10 => ?_
    simp only [amset, amlib, zset, strL_length, eq_self, ↓reduceIte, reduceCtorEq, Nat.reduceBEq, Nat.reduceEqDiff, Nat.reduceAdd, Nat.reduceMul, Nat.reduceLeDiff, Nat.reduceLT, Nat.reduceSub]
    refine hK10 _ ?_
    clear hK10
    refine aw_seq fun K11 hK11 => ?_
    refine aw_cond (t := true) (by simp [evalO, S.get, amLook]; omega) (fun _ => ?_) (fun h => nomatch h)
    refine aw_skip ?_
    simp only [thenQ, blkQ, if_true, reduceIte, Nat.reduceEqDiff, eq_self]
    refine hK11 _ ?_
    clear hK11
    refine aw_seq fun K12 hK12 => ?_
    refine aw_block ?_
    refine aw_ops zT fun K13 hK13 => ?_
    simp only [amset, amlib, zset, hget, strL_length, eq_self, ↓reduceIte, reduceCtorEq, Nat.reduceBEq, Nat.reduceEqDiff, Nat.reduceAdd, Nat.reduceMul, Nat.reduceLeDiff, Nat.reduceLT, Nat.reduceSub]
    refine ⟨⟨by omega, by omega⟩, ?_⟩
    refine hK13 _ ?_
    clear hK13
    refine aw_region zT ?_
    simp only [amset, amlib, zset, strL_length, eq_self, ↓reduceIte, reduceCtorEq, Nat.reduceBEq, Nat.reduceEqDiff, Nat.reduceAdd, Nat.reduceMul, Nat.reduceLeDiff, Nat.reduceLT, Nat.reduceSub]
    refine ⟨_, ih y hmem, ?_⟩
    simp only [later]
    simp only [amset, amlib, zset, strL_length, eq_self, ↓reduceIte, reduceCtorEq, Nat.reduceBEq, Nat.reduceEqDiff, Nat.reduceAdd, Nat.reduceMul, Nat.reduceLeDiff, Nat.reduceLT, Nat.reduceSub]
    refine ⟨⟨by simp, by have := subL_len x.args; have := subE_len x; omega⟩, ?_⟩
    refine hK12 _ ?_
    clear hK12
    refine aw_region zT ?_
    simp only [amset, amlib, zset, strL_length, eq_self, ↓reduceIte, reduceCtorEq, Nat.reduceBEq, Nat.reduceEqDiff, Nat.reduceAdd, Nat.reduceMul, Nat.reduceLeDiff, Nat.reduceLT, Nat.reduceSub]
    refine ⟨⟨by omega, by omega⟩, ?_⟩
    refine hR _ trivial ?_
    refine Reach.trans (Reach.retag 18 0 1003 ?_) (Reach.to ?_ ?_)
    · simp only [amset, amlib, zset, strL_length, eq_self, ↓reduceIte, reduceCtorEq, Nat.reduceBEq, Nat.reduceEqDiff, Nat.reduceAdd, Nat.reduceMul, Nat.reduceLeDiff, Nat.reduceLT, Nat.reduceSub]
    · simp only [amset, amlib, zset, strL_length, eq_self, ↓reduceIte, reduceCtorEq, Nat.reduceBEq, Nat.reduceEqDiff, Nat.reduceAdd, Nat.reduceMul, Nat.reduceLeDiff, Nat.reduceLT, Nat.reduceSub] <;> simp [strL, strL_append, encEs_append, encEs_nil, encEs_cons, encE_eq]
    · simp only [amset, amlib, zset, strL_length, eq_self, ↓reduceIte, reduceCtorEq, Nat.reduceBEq, Nat.reduceEqDiff, Nat.reduceAdd, Nat.reduceMul, Nat.reduceLeDiff, Nat.reduceLT, Nat.reduceSub] <;> simp [strL, strL_append, encEs_append, encEs_nil, encEs_cons, encE_eq]
theorem holds66 (x : Ex) (hs : (subE x).length ≤ 1000000000000) : Holds Tryz.prog zG 66 [.agg [.int .i64 x.kind, .str x.name, .int .i16 x.value, .int .i64 x.op, .sl 6 (encEs x.args), .int .i64 x.pos]] [.agg [.int .i64 (strE x).kind, .str (strE x).name, .int .i16 (strE x).value, .int .i64 (strE x).op, .sl 6 (encEs (strE x).args), .int .i64 (strE x).pos]] := step66 x hs fun y hy => holds66 y (by have := subL_mem hy; have := subE_len x; omega)
  termination_by SizeOf.sizeOf x
  decreasing_by exact Ex.args_lt hy
end Go.Proofs.Am
set_option maxRecDepth 100000
set_option maxHeartbeats 4000000
namespace Go.Proofs.Am
mutual
def stmS : St → List St
  | .mk k n v a b e p => .mk k n v a b e p :: (stmL b ++ stmL e)
def stmL : List St → List St
  | [] => []
  | x :: r => stmS x ++ stmL r
end
theorem stmS_eq (x : St) : stmS x = x :: (stmL x.body ++ stmL x.els) := by cases x; rfl
theorem stmL_append (a b : List St) : stmL (a ++ b) = stmL a ++ stmL b := by
  induction a with
  | nil => rfl
  | cons x r ih => simp [stmL, ih]
theorem sizeOf_body {x : St} {l : List St} (h : x ∈ l) : SizeOf.sizeOf x.body < SizeOf.sizeOf l := by
  have := List.sizeOf_lt_of_mem h
  cases x
  simp [St.body] at *
  omega
theorem sizeOf_els {x : St} {l : List St} (h : x ∈ l) : SizeOf.sizeOf x.els < SizeOf.sizeOf l := by
  have := List.sizeOf_lt_of_mem h
  cases x
  simp [St.els] at *
  omega
theorem prog46 : Tryz.prog.funcs[46]? = some Tryz.f46 := by kernel_rfl
theorem step46 (l : List St) (hb : (stmL l).length ≤ 1000000000000) (ih : ∀ m : List St, SizeOf.sizeOf m < SizeOf.sizeOf l → (stmL m).length ≤ 1000000000000 → Holds Tryz.prog zG 46 [.c (.sl 7 (encSs m))] [.c (.sl 7 (encSs (stmL m)))]) : Holds Tryz.prog zG 46 [.c (.sl 7 (encSs l))] [.c (.sl 7 (encSs (stmL l)))] := by
  refine holds_of_body zT prog46 rfl rfl rfl (by simp [Tryz.f46]) ?_
  refine aw_ops zT fun K1 hK1 => ?_
  simp only [amset, amlib, zset, eq_self, ↓reduceIte, reduceCtorEq, Nat.reduceBEq, Nat.reduceEqDiff, Nat.reduceAdd, Nat.reduceMul, Nat.reduceLeDiff, Nat.reduceLT, Nat.reduceSub]
  refine hK1 _ ?_
  clear hK1
  refine aw_ops zT fun K2 hK2 => ?_
  simp only [amset, amlib, zset, eq_self, ↓reduceIte, reduceCtorEq, Nat.reduceBEq, Nat.reduceEqDiff, Nat.reduceAdd, Nat.reduceMul, Nat.reduceLeDiff, Nat.reduceLT, Nat.reduceSub]
  refine hK2 _ ?_
  clear hK2
  refine aw_seq fun K3 hK3 => ?_
  refine aw_ops zT fun K4 hK4 => ?_
  simp only [amset, amlib, zset, eq_self, ↓reduceIte, reduceCtorEq, Nat.reduceBEq, Nat.reduceEqDiff, Nat.reduceAdd, Nat.reduceMul, Nat.reduceLeDiff, Nat.reduceLT, Nat.reduceSub]
  intros
  refine hK4 _ ?_
  clear hK4
  refine aw_block ?_
  refine aw_retag 3 0 1003 (by simp only [amset, amlib, zset, eq_self, ↓reduceIte, reduceCtorEq, Nat.reduceBEq, Nat.reduceEqDiff, Nat.reduceAdd, Nat.reduceMul, Nat.reduceLeDiff, Nat.reduceLT, Nat.reduceSub]) ?_
  refine aw_norm (by simp only [amset, amlib, zset, eq_self, ↓reduceIte, reduceCtorEq, Nat.reduceBEq, Nat.reduceEqDiff, Nat.reduceAdd, Nat.reduceMul, Nat.reduceLeDiff, Nat.reduceLT, Nat.reduceSub]; exact rfl) ?_
  refine aw_range (α := St) (l) (fun dn => True) (fun dn => [(3, .cell (.own 1003 0 56 7 (encSs (stmL dn)))), (8, .cell (.c (.int .i64 dn.length)))]) (fun dn => []) [1003] [3, 5, 8, 9, 10, 11, 12, 13, 14, 15, 16, 17, 18, 19, 20, 21, 22, 23, 24, 25, 26] [5] trivial ?_ ?_ ?_ ?_
  · simp only [amset, amlib, zset, eq_self, ↓reduceIte, reduceCtorEq, Nat.reduceBEq, Nat.reduceEqDiff, Nat.reduceAdd, Nat.reduceMul, Nat.reduceLeDiff, Nat.reduceLT, Nat.reduceSub] <;> simp [stmL, stmL_append, stmS_eq, encSs_cons, encSs_append, encSs_nil, encS_eq]
  · simp only [amset, amlib, zset, eq_self, ↓reduceIte, reduceCtorEq, Nat.reduceBEq, Nat.reduceEqDiff, Nat.reduceAdd, Nat.reduceMul, Nat.reduceLeDiff, Nat.reduceLT, Nat.reduceSub] <;> simp [stmL, stmL_append, stmS_eq, encSs_cons, encSs_append, encSs_nil, encS_eq]
  · intro hI R
    refine aw_norm (by simp only [amset, amlib, zset, eq_self, ↓reduceIte, reduceCtorEq, Nat.reduceBEq, Nat.reduceEqDiff, Nat.reduceAdd, Nat.reduceMul, Nat.reduceLeDiff, Nat.reduceLT, Nat.reduceSub]; exact rfl) ?_
    refine aw_ops zT fun K5 hK5 => ?_
    simp only [amset, amlib, zset, eq_self, ↓reduceIte, reduceCtorEq, Nat.reduceBEq, Nat.reduceEqDiff, Nat.reduceAdd, Nat.reduceMul, Nat.reduceLeDiff, Nat.reduceLT, Nat.reduceSub]
    refine hK5 _ ?_
    clear hK5
    refine aw_seq fun K6 hK6 => ?_
    refine aw_cond (t := false) (by simp [evalO, S.get, amLook]) (fun h => nomatch h) (fun _ => ?_)
    refine aw_exit ?_
    simp only [thenQ, blkQ, if_true, reduceIte, Nat.reduceEqDiff, eq_self]
    refine hK3 _ ?_
    clear hK3
    refine aw_ops zT fun K7 hK7 => ?_
    simp only [amset, amlib, zset, eq_self, ↓reduceIte, reduceCtorEq, Nat.reduceBEq, Nat.reduceEqDiff, Nat.reduceAdd, Nat.reduceMul, Nat.reduceLeDiff, Nat.reduceLT, Nat.reduceSub]
    refine hK7 _ ?_
    clear hK7
    refine aw_ret ?_
    show resOf zG _ [.tmp 2] = some _
    simp only [amset, amlib, zset, eq_self, ↓reduceIte, reduceCtorEq, Nat.reduceBEq, Nat.reduceEqDiff, Nat.reduceAdd, Nat.reduceMul, Nat.reduceLeDiff, Nat.reduceLT, Nat.reduceSub]
  · intro dn y td harg hI R hR
    have hl : (l).length = dn.length + (td.length + 1) := by rw [harg]; simp
    have hmem : y ∈ l := by rw [harg]; simp
    refine aw_norm (by simp only [amset, amlib, zset, eq_self, ↓reduceIte, reduceCtorEq, Nat.reduceBEq, Nat.reduceEqDiff, Nat.reduceAdd, Nat.reduceMul, Nat.reduceLeDiff, Nat.reduceLT, Nat.reduceSub]; exact rfl) ?_
    have hget : (encSs (l)).getD dn.length [] = encS y := by rw [harg]; exact encSs_mid dn td y
    have h1 : (stmL l).length = (stmL dn).length + (1 + (stmL y.body).length + (stmL y.els).length) + (stmL td).length := by
      rw [harg, stmL_append]
      simp [stmL, stmS_eq]
      omega
    refine aw_ops zT fun K8 hK8 => ?_
    simp only [amset, amlib, zset, eq_self, ↓reduceIte, reduceCtorEq, Nat.reduceBEq, Nat.reduceEqDiff, Nat.reduceAdd, Nat.reduceMul, Nat.reduceLeDiff, Nat.reduceLT, Nat.reduceSub]
    refine hK8 _ ?_
    clear hK8
    refine aw_seq fun K9 hK9 => ?_
    refine aw_cond (t := true) (by simp [evalO, S.get, amLook]; omega) (fun _ => ?_) (fun h => nomatch h)
    refine aw_skip ?_
    simp only [thenQ, blkQ, if_true, reduceIte, Nat.reduceEqDiff, eq_self]
    refine hK9 _ ?_
    clear hK9
    refine aw_seq fun K10 hK10 => ?_
    refine aw_block ?_
    refine aw_ops zT fun K11 hK11 => ?_
    simp only [amset, amlib, zset, hget, eq_self, ↓reduceIte, reduceCtorEq, Nat.reduceBEq, Nat.reduceEqDiff, Nat.reduceAdd, Nat.reduceMul, Nat.reduceLeDiff, Nat.reduceLT, Nat.reduceSub]
    refine ⟨⟨by omega, by omega⟩, ?_⟩
    refine hK11 _ ?_
    clear hK11
    refine aw_ops zT fun K12 hK12 => ?_
    simp only [amset, amlib, zset, eq_self, ↓reduceIte, reduceCtorEq, Nat.reduceBEq, Nat.reduceEqDiff, Nat.reduceAdd, Nat.reduceMul, Nat.reduceLeDiff, Nat.reduceLT, Nat.reduceSub]
    refine ⟨⟨by simp, by omega⟩, ?_⟩
    refine hK12 _ ?_
    clear hK12
    refine aw_ops zT fun K13 hK13 => ?_
    simp only [amset, amlib, zset, eq_self, ↓reduceIte, reduceCtorEq, Nat.reduceBEq, Nat.reduceEqDiff, Nat.reduceAdd, Nat.reduceMul, Nat.reduceLeDiff, Nat.reduceLT, Nat.reduceSub]
    refine ⟨_, ih y.body (sizeOf_body hmem) (by omega), ?_⟩
    simp only [later]
    simp only [amset, amlib, zset, eq_self, ↓reduceIte, reduceCtorEq, Nat.reduceBEq, Nat.reduceEqDiff, Nat.reduceAdd, Nat.reduceMul, Nat.reduceLeDiff, Nat.reduceLT, Nat.reduceSub]
    refine ⟨⟨encSs_rows _, by omega⟩, ?_⟩
    refine hK13 _ ?_
    clear hK13
    refine aw_region zT ?_
    simp only [amset, amlib, zset, eq_self, ↓reduceIte, reduceCtorEq, Nat.reduceBEq, Nat.reduceEqDiff, Nat.reduceAdd, Nat.reduceMul, Nat.reduceLeDiff, Nat.reduceLT, Nat.reduceSub]
    refine ⟨_, ih y.els (sizeOf_els hmem) (by omega), ?_⟩
    simp only [later]
    simp only [amset, amlib, zset, eq_self, ↓reduceIte, reduceCtorEq, Nat.reduceBEq, Nat.reduceEqDiff, Nat.reduceAdd, Nat.reduceMul, Nat.reduceLeDiff, Nat.reduceLT, Nat.reduceSub]
    refine ⟨⟨encSs_rows _, by omega⟩, ?_⟩
    refine hK10 _ ?_
    clear hK10
    refine aw_region zT ?_
    simp only [amset, amlib, zset, eq_self, ↓reduceIte, reduceCtorEq, Nat.reduceBEq, Nat.reduceEqDiff, Nat.reduceAdd, Nat.reduceMul, Nat.reduceLeDiff, Nat.reduceLT, Nat.reduceSub]
    refine ⟨⟨by omega, by omega⟩, ?_⟩
    refine hR _ trivial ?_
    refine Reach.trans (Reach.retag 25 0 1003 ?_) (Reach.to ?_ ?_)
    · simp only [amset, amlib, zset, eq_self, ↓reduceIte, reduceCtorEq, Nat.reduceBEq, Nat.reduceEqDiff, Nat.reduceAdd, Nat.reduceMul, Nat.reduceLeDiff, Nat.reduceLT, Nat.reduceSub]
    · simp only [amset, amlib, zset, eq_self, ↓reduceIte, reduceCtorEq, Nat.reduceBEq, Nat.reduceEqDiff, Nat.reduceAdd, Nat.reduceMul, Nat.reduceLeDiff, Nat.reduceLT, Nat.reduceSub] <;> simp [stmL, stmL_append, stmS_eq, encSs_cons, encSs_append, encSs_nil, encS_eq]
    · simp only [amset, amlib, zset, eq_self, ↓reduceIte, reduceCtorEq, Nat.reduceBEq, Nat.reduceEqDiff, Nat.reduceAdd, Nat.reduceMul, Nat.reduceLeDiff, Nat.reduceLT, Nat.reduceSub] <;> simp [stmL, stmL_append, stmS_eq, encSs_cons, encSs_append, encSs_nil, encS_eq]
theorem holds46 (l : List St) (hb : (stmL l).length ≤ 1000000000000) : Holds Tryz.prog zG 46 [.c (.sl 7 (encSs l))] [.c (.sl 7 (encSs (stmL l)))] := step46 l hb fun m hm hb => holds46 m hb
  termination_by SizeOf.sizeOf l
  decreasing_by exact hm
end Go.Proofs.Am
set_option maxRecDepth 100000
set_option maxHeartbeats 4000000
namespace Go.Proofs.Am
mutual
def prE : Ex → Bool
  | .mk k _ _ _ a _ => (k != 4) && prL a
def prL : List Ex → Bool
  | [] => true
  | x :: r => prE x && prL r
end
theorem prL_any (l : List Ex) : (!(l.any fun y => !prE y)) = prL l := by
  induction l with
  | nil => rfl
  | cons y r ih => rw [List.any_cons, Bool.not_or, ih, prL, Bool.not_not]
theorem prE_eq (x : Ex) : prE x = ((x.kind != 4) && !(x.args.any fun y => !prE y)) := by
  rw [prL_any]; cases x; rfl
def cdS (lk : List UInt8 → Option Int) (x : St) (c : Ex) : List St := match cnE lk c with
  | none => if ((x.body.length : Int) == 0) && ((x.els.length : Int) == 0) && prE c then [] else [x]
  | some v => if (((if v == 0 then x.els else x.body).length : Int) == 0) then [] else [.mk 5 [] 1 [] (if v == 0 then x.els else x.body) [] 0]
theorem prog80 : Tryz.prog.funcs[80]? = some Tryz.f80 := by kernel_rfl
theorem step80 (x : Ex) (ih : Holds Tryz.prog zG 29 [.agg [.int .i64 x.kind, .str x.name, .int .i16 x.value, .int .i64 x.op, .sl 6 (encEs x.args), .int .i64 x.pos]] [.c (.bool (prE x))]) : Holds Tryz.prog zG 80 [.agg [.int .i64 x.kind, .str x.name, .int .i16 x.value, .int .i64 x.op, .sl 6 (encEs x.args), .int .i64 x.pos]] [.c (.bool (!prE x))] := by
  refine holds_of_body zT prog80 rfl rfl rfl (by simp [Tryz.f80]) ?_
  refine aw_ops zT fun K1 hK1 => ?_
  simp only [amset, amlib, zset, eq_self, ↓reduceIte, reduceCtorEq, Nat.reduceBEq, Nat.reduceEqDiff, Nat.reduceAdd, Nat.reduceMul, Nat.reduceLeDiff, Nat.reduceLT, Nat.reduceSub]
  refine hK1 _ ?_
  clear hK1
  refine aw_ops zT fun K2 hK2 => ?_
  simp only [amset, amlib, zset, eq_self, ↓reduceIte, reduceCtorEq, Nat.reduceBEq, Nat.reduceEqDiff, Nat.reduceAdd, Nat.reduceMul, Nat.reduceLeDiff, Nat.reduceLT, Nat.reduceSub]
  refine ⟨_, ih, ?_⟩
  simp only [later]
  simp only [amset, amlib, zset, eq_self, ↓reduceIte, reduceCtorEq, Nat.reduceBEq, Nat.reduceEqDiff, Nat.reduceAdd, Nat.reduceMul, Nat.reduceLeDiff, Nat.reduceLT, Nat.reduceSub]
  refine hK2 _ ?_
  clear hK2
  refine aw_ret ?_
  show resOf zG _ [.tmp 2] = some _
  simp only [amset, amlib, zset, eq_self, ↓reduceIte, reduceCtorEq, Nat.reduceBEq, Nat.reduceEqDiff, Nat.reduceAdd, Nat.reduceMul, Nat.reduceLeDiff, Nat.reduceLT, Nat.reduceSub]
theorem prog29 : Tryz.prog.funcs[29]? = some Tryz.f29 := by kernel_rfl
theorem step29 (x : Ex) (ih : ∀ y ∈ x.args, Holds Tryz.prog zG 80 [.agg [.int .i64 y.kind, .str y.name, .int .i16 y.value, .int .i64 y.op, .sl 6 (encEs y.args), .int .i64 y.pos]] [.c (.bool (!prE y))]) : Holds Tryz.prog zG 29 [.agg [.int .i64 x.kind, .str x.name, .int .i16 x.value, .int .i64 x.op, .sl 6 (encEs x.args), .int .i64 x.pos]] [.c (.bool (prE x))] := by
  refine holds_of_body zT prog29 rfl rfl rfl (by simp [Tryz.f29]) ?_
  refine aw_ops zT fun K1 hK1 => ?_
  simp only [amset, amlib, zset, eq_self, ↓reduceIte, reduceCtorEq, Nat.reduceBEq, Nat.reduceEqDiff, Nat.reduceAdd, Nat.reduceMul, Nat.reduceLeDiff, Nat.reduceLT, Nat.reduceSub]
  refine hK1 _ ?_
  clear hK1
  refine aw_ops zT fun K2 hK2 => ?_
  cases e0 : (x.kind != 4) with
  | true =>
    simp only [amset, amlib, zset, e0, eq_self, ↓reduceIte, reduceCtorEq, Nat.reduceBEq, Nat.reduceEqDiff, Nat.reduceAdd, Nat.reduceMul, Nat.reduceLeDiff, Nat.reduceLT, Nat.reduceSub]
    refine ⟨_, holds79 80 (fun y => !prE y) x.args ih, ?_⟩
    simp only [later]
    simp only [amset, amlib, zset, e0, eq_self, ↓reduceIte, reduceCtorEq, Nat.reduceBEq, Nat.reduceEqDiff, Nat.reduceAdd, Nat.reduceMul, Nat.reduceLeDiff, Nat.reduceLT, Nat.reduceSub]
    refine hK2 _ ?_
    clear hK2
    refine aw_ret ?_
    show resOf zG _ [.tmp 2] = some _
    simp only [amset, amlib, zset, eq_self, ↓reduceIte, reduceCtorEq, Nat.reduceBEq, Nat.reduceEqDiff, Nat.reduceAdd, Nat.reduceMul, Nat.reduceLeDiff, Nat.reduceLT, Nat.reduceSub]
    rw [prE_eq]
    simp only [e0, Bool.true_or, Bool.or_true, Bool.false_or, Bool.or_false, Bool.true_and, Bool.and_true, Bool.false_and, Bool.and_false, Bool.not_true, Bool.not_false, if_true, if_false, ↓reduceIte, Bool.false_eq_true]
  | false =>
    simp only [amset, amlib, zset, e0, eq_self, ↓reduceIte, reduceCtorEq, Nat.reduceBEq, Nat.reduceEqDiff, Nat.reduceAdd, Nat.reduceMul, Nat.reduceLeDiff, Nat.reduceLT, Nat.reduceSub]
    refine hK2 _ ?_
    clear hK2
    refine aw_ret ?_
    show resOf zG _ [.tmp 2] = some _
    simp only [amset, amlib, zset, eq_self, ↓reduceIte, reduceCtorEq, Nat.reduceBEq, Nat.reduceEqDiff, Nat.reduceAdd, Nat.reduceMul, Nat.reduceLeDiff, Nat.reduceLT, Nat.reduceSub]
    rw [prE_eq]
    simp only [e0, Bool.true_or, Bool.or_true, Bool.false_or, Bool.or_false, Bool.true_and, Bool.and_true, Bool.false_and, Bool.and_false, Bool.not_true, Bool.not_false, if_true, if_false, ↓reduceIte, Bool.false_eq_true]
theorem holds29 (x : Ex) : Holds Tryz.prog zG 29 [.agg [.int .i64 x.kind, .str x.name, .int .i16 x.value, .int .i64 x.op, .sl 6 (encEs x.args), .int .i64 x.pos]] [.c (.bool (prE x))] := step29 x fun y hy => step80 y (holds29 y)
  termination_by SizeOf.sizeOf x
  decreasing_by exact Ex.args_lt hy
theorem prog193 : Tryz.prog.funcs[193]? = some Tryz.f193 := by kernel_rfl
theorem holds193 (es : List (List UInt8 × Int)) (x : St) (c : Ex) (hc : okE c) : Holds Tryz.prog zG 193 [.agg [.map .i16 es], .agg [.int .i64 x.kind, .str x.name, .int .i64 x.n, .sl 6 (encEs x.args), .sl 7 (encSs x.body), .sl 7 (encSs x.els), .int .i64 x.pos], .agg [.int .i64 c.kind, .str c.name, .int .i16 c.value, .int .i64 c.op, .sl 6 (encEs c.args), .int .i64 c.pos]] [.c (.sl 7 (encSs (cdS (fun q => amFind q es) x c)))] := by
  refine holds_of_body zT prog193 rfl rfl rfl (by simp [Tryz.f193]) ?_
  refine aw_ops zT fun K1 hK1 => ?_
  simp only [amset, amlib, zset, eq_self, ↓reduceIte, reduceCtorEq, Nat.reduceBEq, Nat.reduceEqDiff, Nat.reduceAdd, Nat.reduceMul, Nat.reduceLeDiff, Nat.reduceLT, Nat.reduceSub]
  refine hK1 _ ?_
  clear hK1
  refine aw_ops zT fun K2 hK2 => ?_
  simp only [amset, amlib, zset, eq_self, ↓reduceIte, reduceCtorEq, Nat.reduceBEq, Nat.reduceEqDiff, Nat.reduceAdd, Nat.reduceMul, Nat.reduceLeDiff, Nat.reduceLT, Nat.reduceSub]
  refine ⟨_, holds75 es c hc, ?_⟩
  simp only [later]
  simp only [amset, amlib, zset, eq_self, ↓reduceIte, reduceCtorEq, Nat.reduceBEq, Nat.reduceEqDiff, Nat.reduceAdd, Nat.reduceMul, Nat.reduceLeDiff, Nat.reduceLT, Nat.reduceSub]
  refine hK2 _ ?_
  clear hK2
  refine aw_seq fun K3 hK3 => ?_
  refine aw_ops zT fun K4 hK4 => ?_
  simp only [amset, amlib, zset, eq_self, ↓reduceIte, reduceCtorEq, Nat.reduceBEq, Nat.reduceEqDiff, Nat.reduceAdd, Nat.reduceMul, Nat.reduceLeDiff, Nat.reduceLT, Nat.reduceSub]
  refine hK4 _ ?_
  clear hK4
  refine aw_cond rfl (fun h0 => ?_) (fun h0 => ?_)
  · skip
    refine aw_seq fun K5 hK5 => ?_
    refine aw_ops zT fun K6 hK6 => ?_
    cases b0 : ((x.body.length : Int) == 0) with
    | true =>
      cases b1 : ((x.els.length : Int) == 0) with
      | true =>
        cases b2 : prE c with
        | true =>
          simp only [amset, amlib, zset, b0, b1, b2, eq_self, ↓reduceIte, reduceCtorEq, Nat.reduceBEq, Nat.reduceEqDiff, Nat.reduceAdd, Nat.reduceMul, Nat.reduceLeDiff, Nat.reduceLT, Nat.reduceSub]
          intros
          intros
          refine ⟨_, holds29 c, ?_⟩
          simp only [later]
          simp only [amset, amlib, zset, b0, b1, b2, eq_self, ↓reduceIte, reduceCtorEq, Nat.reduceBEq, Nat.reduceEqDiff, Nat.reduceAdd, Nat.reduceMul, Nat.reduceLeDiff, Nat.reduceLT, Nat.reduceSub]
          refine hK6 _ ?_
          clear hK6
          refine aw_cond (t := true) rfl (fun _ => ?_) (fun h => nomatch h)
          refine aw_ops zT fun K7 hK7 => ?_
          simp only [amset, amlib, zset, eq_self, ↓reduceIte, reduceCtorEq, Nat.reduceBEq, Nat.reduceEqDiff, Nat.reduceAdd, Nat.reduceMul, Nat.reduceLeDiff, Nat.reduceLT, Nat.reduceSub]
          refine hK7 _ ?_
          clear hK7
          refine aw_ret ?_
          show resOf zG _ [.tmp 6] = some _
          simp only [amset, amlib, zset, eq_self, ↓reduceIte, reduceCtorEq, Nat.reduceBEq, Nat.reduceEqDiff, Nat.reduceAdd, Nat.reduceMul, Nat.reduceLeDiff, Nat.reduceLT, Nat.reduceSub]
          have hv : cnE (fun q => amFind q es) c = none := by
            cases hv : cnE (fun q => amFind q es) c with
            | none => rfl
            | some v => rw [hv] at h0; cases h0
          have e : cdS (fun q => amFind q es) x c = [] := by unfold cdS; rw [hv]; simp only [b0, b1, b2, h0, Bool.true_or, Bool.or_true, Bool.false_or, Bool.or_false, Bool.true_and, Bool.and_true, Bool.false_and, Bool.and_false, Bool.not_true, Bool.not_false, if_true, if_false, ↓reduceIte, Bool.false_eq_true]
          rw [e]
          rfl
        | false =>
          simp only [amset, amlib, zset, b0, b1, b2, eq_self, ↓reduceIte, reduceCtorEq, Nat.reduceBEq, Nat.reduceEqDiff, Nat.reduceAdd, Nat.reduceMul, Nat.reduceLeDiff, Nat.reduceLT, Nat.reduceSub]
          intros
          intros
          refine ⟨_, holds29 c, ?_⟩
          simp only [later]
          simp only [amset, amlib, zset, b0, b1, b2, eq_self, ↓reduceIte, reduceCtorEq, Nat.reduceBEq, Nat.reduceEqDiff, Nat.reduceAdd, Nat.reduceMul, Nat.reduceLeDiff, Nat.reduceLT, Nat.reduceSub]
          refine hK6 _ ?_
          clear hK6
          refine aw_cond (t := false) rfl (fun h => nomatch h) (fun _ => ?_)
          refine aw_skip ?_
          simp only [thenQ, blkQ, if_true, reduceIte, Nat.reduceEqDiff, eq_self]
          refine hK5 _ ?_
          clear hK5
          refine aw_ops zT fun K8 hK8 => ?_
          simp only [amset, amlib, zset, eq_self, ↓reduceIte, reduceCtorEq, Nat.reduceBEq, Nat.reduceEqDiff, Nat.reduceAdd, Nat.reduceMul, Nat.reduceLeDiff, Nat.reduceLT, Nat.reduceSub]
          refine hK8 _ ?_
          clear hK8
          refine aw_ret ?_
          show resOf zG _ [.tmp 6] = some _
          simp only [amset, amlib, zset, eq_self, ↓reduceIte, reduceCtorEq, Nat.reduceBEq, Nat.reduceEqDiff, Nat.reduceAdd, Nat.reduceMul, Nat.reduceLeDiff, Nat.reduceLT, Nat.reduceSub]
          have hv : cnE (fun q => amFind q es) c = none := by
            cases hv : cnE (fun q => amFind q es) c with
            | none => rfl
            | some v => rw [hv] at h0; cases h0
          have e : cdS (fun q => amFind q es) x c = [x] := by unfold cdS; rw [hv]; simp only [b0, b1, b2, h0, Bool.true_or, Bool.or_true, Bool.false_or, Bool.or_false, Bool.true_and, Bool.and_true, Bool.false_and, Bool.and_false, Bool.not_true, Bool.not_false, if_true, if_false, ↓reduceIte, Bool.false_eq_true]
          rw [e]
          simp only [encSs, encS_eq]
      | false =>
        simp only [amset, amlib, zset, b0, b1, eq_self, ↓reduceIte, reduceCtorEq, Nat.reduceBEq, Nat.reduceEqDiff, Nat.reduceAdd, Nat.reduceMul, Nat.reduceLeDiff, Nat.reduceLT, Nat.reduceSub]
        intros
        intros
        refine hK6 _ ?_
        clear hK6
        refine aw_cond (t := false) rfl (fun h => nomatch h) (fun _ => ?_)
        refine aw_skip ?_
        simp only [thenQ, blkQ, if_true, reduceIte, Nat.reduceEqDiff, eq_self]
        refine hK5 _ ?_
        clear hK5
        refine aw_ops zT fun K9 hK9 => ?_
        simp only [amset, amlib, zset, eq_self, ↓reduceIte, reduceCtorEq, Nat.reduceBEq, Nat.reduceEqDiff, Nat.reduceAdd, Nat.reduceMul, Nat.reduceLeDiff, Nat.reduceLT, Nat.reduceSub]
        refine hK9 _ ?_
        clear hK9
        refine aw_ret ?_
        show resOf zG _ [.tmp 6] = some _
        simp only [amset, amlib, zset, eq_self, ↓reduceIte, reduceCtorEq, Nat.reduceBEq, Nat.reduceEqDiff, Nat.reduceAdd, Nat.reduceMul, Nat.reduceLeDiff, Nat.reduceLT, Nat.reduceSub]
        have hv : cnE (fun q => amFind q es) c = none := by
          cases hv : cnE (fun q => amFind q es) c with
          | none => rfl
          | some v => rw [hv] at h0; cases h0
        have e : cdS (fun q => amFind q es) x c = [x] := by unfold cdS; rw [hv]; simp only [b0, b1, h0, Bool.true_or, Bool.or_true, Bool.false_or, Bool.or_false, Bool.true_and, Bool.and_true, Bool.false_and, Bool.and_false, Bool.not_true, Bool.not_false, if_true, if_false, ↓reduceIte, Bool.false_eq_true]
        rw [e]
        simp only [encSs, encS_eq]
    | false =>
      simp only [amset, amlib, zset, b0, eq_self, ↓reduceIte, reduceCtorEq, Nat.reduceBEq, Nat.reduceEqDiff, Nat.reduceAdd, Nat.reduceMul, Nat.reduceLeDiff, Nat.reduceLT, Nat.reduceSub]
      intros
      refine hK6 _ ?_
      clear hK6
      refine aw_cond (t := false) rfl (fun h => nomatch h) (fun _ => ?_)
      refine aw_skip ?_
      simp only [thenQ, blkQ, if_true, reduceIte, Nat.reduceEqDiff, eq_self]
      refine hK5 _ ?_
      clear hK5
      refine aw_ops zT fun K10 hK10 => ?_
      simp only [amset, amlib, zset, eq_self, ↓reduceIte, reduceCtorEq, Nat.reduceBEq, Nat.reduceEqDiff, Nat.reduceAdd, Nat.reduceMul, Nat.reduceLeDiff, Nat.reduceLT, Nat.reduceSub]
      refine hK10 _ ?_
      clear hK10
      refine aw_ret ?_
      show resOf zG _ [.tmp 6] = some _
      simp only [amset, amlib, zset, eq_self, ↓reduceIte, reduceCtorEq, Nat.reduceBEq, Nat.reduceEqDiff, Nat.reduceAdd, Nat.reduceMul, Nat.reduceLeDiff, Nat.reduceLT, Nat.reduceSub]
      have hv : cnE (fun q => amFind q es) c = none := by
        cases hv : cnE (fun q => amFind q es) c with
        | none => rfl
        | some v => rw [hv] at h0; cases h0
      have e : cdS (fun q => amFind q es) x c = [x] := by unfold cdS; rw [hv]; simp only [b0, h0, Bool.true_or, Bool.or_true, Bool.false_or, Bool.or_false, Bool.true_and, Bool.and_true, Bool.false_and, Bool.and_false, Bool.not_true, Bool.not_false, if_true, if_false, ↓reduceIte, Bool.false_eq_true]
      rw [e]
      simp only [encSs, encS_eq]
  · skip
    refine aw_skip ?_
    simp only [thenQ, blkQ, if_true, reduceIte, Nat.reduceEqDiff, eq_self]
    refine hK3 _ ?_
    clear hK3
    refine aw_ops zT fun K11 hK11 => ?_
    simp only [amset, amlib, zset, eq_self, ↓reduceIte, reduceCtorEq, Nat.reduceBEq, Nat.reduceEqDiff, Nat.reduceAdd, Nat.reduceMul, Nat.reduceLeDiff, Nat.reduceLT, Nat.reduceSub]
    refine hK11 _ ?_
    clear hK11
    refine aw_seq fun K12 hK12 => ?_
    refine aw_ops zT fun K13 hK13 => ?_
    simp only [amset, amlib, zset, eq_self, ↓reduceIte, reduceCtorEq, Nat.reduceBEq, Nat.reduceEqDiff, Nat.reduceAdd, Nat.reduceMul, Nat.reduceLeDiff, Nat.reduceLT, Nat.reduceSub]
    refine hK13 _ ?_
    clear hK13
    refine aw_cond rfl (fun h1 => ?_) (fun h1 => ?_)
    · skip
      refine aw_region zT ?_
      simp only [amset, amlib, zset, eq_self, ↓reduceIte, reduceCtorEq, Nat.reduceBEq, Nat.reduceEqDiff, Nat.reduceAdd, Nat.reduceMul, Nat.reduceLeDiff, Nat.reduceLT, Nat.reduceSub]
      refine hK12 _ ?_
      clear hK12
      refine aw_seq fun K14 hK14 => ?_
      refine aw_ops zT fun K15 hK15 => ?_
      simp only [amset, amlib, zset, eq_self, ↓reduceIte, reduceCtorEq, Nat.reduceBEq, Nat.reduceEqDiff, Nat.reduceAdd, Nat.reduceMul, Nat.reduceLeDiff, Nat.reduceLT, Nat.reduceSub]
      intros
      refine hK15 _ ?_
      clear hK15
      refine aw_cond rfl (fun h2 => ?_) (fun h2 => ?_)
      · skip
        refine aw_ops zT fun K16 hK16 => ?_
        simp only [amset, amlib, zset, eq_self, ↓reduceIte, reduceCtorEq, Nat.reduceBEq, Nat.reduceEqDiff, Nat.reduceAdd, Nat.reduceMul, Nat.reduceLeDiff, Nat.reduceLT, Nat.reduceSub]
        refine hK16 _ ?_
        clear hK16
        refine aw_ret ?_
        show resOf zG _ [.tmp 6] = some _
        simp only [amset, amlib, zset, eq_self, ↓reduceIte, reduceCtorEq, Nat.reduceBEq, Nat.reduceEqDiff, Nat.reduceAdd, Nat.reduceMul, Nat.reduceLeDiff, Nat.reduceLT, Nat.reduceSub]
        obtain ⟨v, hv⟩ : ∃ v, cnE (fun q => amFind q es) c = some v := by
          cases hv : cnE (fun q => amFind q es) c with
          | none => rw [hv] at h0; cases h0
          | some v => exact ⟨v, rfl⟩
        rw [hv] at h1
        have h1 : (v == 0) = true := h1
        have e : cdS (fun q => amFind q es) x c = [] := by unfold cdS; rw [hv]; simp only [h0, h1, h2, h1, ↓reduceIte, Bool.false_eq_true]
        rw [e]
        rfl
      · skip
        refine aw_skip ?_
        simp only [thenQ, blkQ, if_true, reduceIte, Nat.reduceEqDiff, eq_self]
        refine hK14 _ ?_
        clear hK14
        refine aw_ops zT fun K17 hK17 => ?_
        simp only [amset, amlib, zset, eq_self, ↓reduceIte, reduceCtorEq, Nat.reduceBEq, Nat.reduceEqDiff, Nat.reduceAdd, Nat.reduceMul, Nat.reduceLeDiff, Nat.reduceLT, Nat.reduceSub]
        refine hK17 _ ?_
        clear hK17
        refine aw_ret ?_
        show resOf zG _ [.tmp 6] = some _
        simp only [amset, amlib, zset, eq_self, ↓reduceIte, reduceCtorEq, Nat.reduceBEq, Nat.reduceEqDiff, Nat.reduceAdd, Nat.reduceMul, Nat.reduceLeDiff, Nat.reduceLT, Nat.reduceSub]
        obtain ⟨v, hv⟩ : ∃ v, cnE (fun q => amFind q es) c = some v := by
          cases hv : cnE (fun q => amFind q es) c with
          | none => rw [hv] at h0; cases h0
          | some v => exact ⟨v, rfl⟩
        rw [hv] at h1
        have h1 : (v == 0) = true := h1
        have e : cdS (fun q => amFind q es) x c = [.mk 5 [] 1 [] x.els [] 0] := by unfold cdS; rw [hv]; simp only [h0, h1, h2, h1, ↓reduceIte, Bool.false_eq_true]
        rw [e]
        rfl
    · skip
      refine aw_skip ?_
      simp only [thenQ, blkQ, if_true, reduceIte, Nat.reduceEqDiff, eq_self]
      refine hK12 _ ?_
      clear hK12
      refine aw_seq fun K18 hK18 => ?_
      refine aw_ops zT fun K19 hK19 => ?_
      simp only [amset, amlib, zset, eq_self, ↓reduceIte, reduceCtorEq, Nat.reduceBEq, Nat.reduceEqDiff, Nat.reduceAdd, Nat.reduceMul, Nat.reduceLeDiff, Nat.reduceLT, Nat.reduceSub]
      intros
      refine hK19 _ ?_
      clear hK19
      refine aw_cond rfl (fun h3 => ?_) (fun h3 => ?_)
      · skip
        refine aw_ops zT fun K20 hK20 => ?_
        simp only [amset, amlib, zset, eq_self, ↓reduceIte, reduceCtorEq, Nat.reduceBEq, Nat.reduceEqDiff, Nat.reduceAdd, Nat.reduceMul, Nat.reduceLeDiff, Nat.reduceLT, Nat.reduceSub]
        refine hK20 _ ?_
        clear hK20
        refine aw_ret ?_
        show resOf zG _ [.tmp 6] = some _
        simp only [amset, amlib, zset, eq_self, ↓reduceIte, reduceCtorEq, Nat.reduceBEq, Nat.reduceEqDiff, Nat.reduceAdd, Nat.reduceMul, Nat.reduceLeDiff, Nat.reduceLT, Nat.reduceSub]
        obtain ⟨v, hv⟩ : ∃ v, cnE (fun q => amFind q es) c = some v := by
          cases hv : cnE (fun q => amFind q es) c with
          | none => rw [hv] at h0; cases h0
          | some v => exact ⟨v, rfl⟩
        rw [hv] at h1
        have h1 : (v == 0) = false := h1
        have e : cdS (fun q => amFind q es) x c = [] := by unfold cdS; rw [hv]; simp only [h0, h1, h3, h1, ↓reduceIte, Bool.false_eq_true]
        rw [e]
        rfl
      · skip
        refine aw_skip ?_
        simp only [thenQ, blkQ, if_true, reduceIte, Nat.reduceEqDiff, eq_self]
        refine hK18 _ ?_
        clear hK18
        refine aw_ops zT fun K21 hK21 => ?_
        simp only [amset, amlib, zset, eq_self, ↓reduceIte, reduceCtorEq, Nat.reduceBEq, Nat.reduceEqDiff, Nat.reduceAdd, Nat.reduceMul, Nat.reduceLeDiff, Nat.reduceLT, Nat.reduceSub]
        refine hK21 _ ?_
        clear hK21
        refine aw_ret ?_
        show resOf zG _ [.tmp 6] = some _
        simp only [amset, amlib, zset, eq_self, ↓reduceIte, reduceCtorEq, Nat.reduceBEq, Nat.reduceEqDiff, Nat.reduceAdd, Nat.reduceMul, Nat.reduceLeDiff, Nat.reduceLT, Nat.reduceSub]
        obtain ⟨v, hv⟩ : ∃ v, cnE (fun q => amFind q es) c = some v := by
          cases hv : cnE (fun q => amFind q es) c with
          | none => rw [hv] at h0; cases h0
          | some v => exact ⟨v, rfl⟩
        rw [hv] at h1
        have h1 : (v == 0) = false := h1
        have e : cdS (fun q => amFind q es) x c = [.mk 5 [] 1 [] x.body [] 0] := by unfold cdS; rw [hv]; simp only [h0, h1, h3, h1, ↓reduceIte, Bool.false_eq_true]
        rw [e]
        rfl
end Go.Proofs.Am
