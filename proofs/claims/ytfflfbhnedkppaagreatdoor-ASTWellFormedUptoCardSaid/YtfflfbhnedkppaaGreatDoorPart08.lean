/- Part 8 of a proof that the law holds of every input of the given bulk. -/
import Derived.Test.YtfflfbhnedkppaaGreatDoorPart07
import Derived.Test.YtfflfbhnedkppaaGreatDoorPart05
import Derived.Test.YtfflfbhnedkppaaGreatDoorPart04
set_option autoImplicit false
set_option linter.unusedSimpArgs false
set_option linter.unusedVariables false
set_option linter.unusedSectionVars false
set_option maxRecDepth 100000
set_option maxHeartbeats 4000000
namespace Go.Proofs.Am
mutual
def eqS : St → St → Bool
 | .mk k n v a b e _, .mk k' n' v' a' b' e' _ => k == k' && n == n' && v == v' && eqL a a' && eqM b b' && eqM e e'
def eqM : List St → List St → Bool
 | [], [] => true
 | x :: r, y :: s => eqS x y && eqM r s
 | _, _ => false
end
theorem eqS_eq (x y : St) : eqS x y = (x.kind == y.kind && x.name == y.name && x.n == y.n && eqL x.args y.args && eqM x.body y.body && eqM x.els y.els) := by cases x; cases y; simp [eqS, St.kind, St.name, St.n, St.args, St.body, St.els]
end Go.Proofs.Am
set_option maxRecDepth 100000
set_option maxHeartbeats 4000000
namespace Go.Proofs.Am
open Nat (reduceEqDiff reduceAdd reduceMul reduceLeDiff reduceLT reduceSub)
def all2 {α : Type} (p : α → α → Bool) : List α → List α → Bool
 | [], [] => true
 | x :: r, y :: s => p x y && all2 p r s
 | _, _ => false
theorem all2_len {α : Type} {p : α → α → Bool} {a b : List α} (h : all2 p a b = true) : a.length = b.length := by
 induction a generalizing b with
 | nil => cases b with
  | nil => rfl
  | cons => cases h
 | cons x r ih => cases b with
  | nil => cases h
  | cons y s => simp only [all2, Bool.and_eq_true] at h; simp [ih h.2]
theorem all2_ne {α : Type} {p : α → α → Bool} {a b : List α} (h : ¬ (a.length : Int) = b.length) : all2 p a b = false := by
 cases hh : all2 p a b with
 | false => rfl
 | true => exact absurd (by rw [all2_len hh]) h
theorem all2_snoc {α : Type} {p : α → α → Bool} {a b : List α} {x y : α} (h : a.length = b.length) : all2 p (a ++ [x]) (b ++ [y]) = (all2 p a b && p x y) := by
 induction a generalizing b with
 | nil => cases b with
  | nil => simp [all2]
  | cons => simp at h
 | cons z r ih => cases b with
  | nil => simp at h
  | cons w s => simp only [List.cons_append, all2, ih (by simpa using h), Bool.and_assoc]
theorem all2_fail {α : Type} {p : α → α → Bool} {a b : List α} {x y : α} {c d : List α} (h : a.length = b.length) (hf : p x y = false) : all2 p (a ++ x :: c) (b ++ y :: d) = false := by
 induction a generalizing b with
 | nil => cases b with
  | nil => simp [all2, hf]
  | cons => simp at h
 | cons z r ih => cases b with
  | nil => simp at h
  | cons w s => simp only [List.cons_append, all2, ih (by simpa using h), Bool.and_false]
theorem all2_eqE : ∀ a b : List Ex, all2 eqE a b = eqL a b
 | [], [] => rfl
 | [], _ :: _ => rfl
 | _ :: _, [] => rfl
 | x :: r, y :: s => by rw [all2, eqL, all2_eqE r s]
theorem all2_eqS : ∀ a b : List St, all2 eqS a b = eqM a b
 | [], [] => rfl
 | [], _ :: _ => rfl
 | _ :: _, [] => rfl
 | x :: r, y :: s => by rw [all2, eqM, all2_eqS r s]
def eqC (x y : Cn) : Bool := x.name == y.name && x.value == y.value
def eqG (x y : Gl) : Bool := x.name == y.name && x.len == y.len && x.init == y.init
def eqH (x y : Ch) : Bool := x.name == y.name && x.cap == y.cap
def eqT (x y : Tk) : Bool := x.name == y.name && x.period == y.period && x.deadline == y.deadline && x.channel == y.channel && x.param == y.param && x.within == y.within && eqM x.body y.body
def eqStr (x y : List UInt8) : Bool := x == y
def eqP (x y : Pg) : Bool := all2 eqC x.consts y.consts && all2 eqG x.globals y.globals && all2 eqStr x.sensors y.sensors && all2 eqStr x.outputs y.outputs && all2 eqH x.channels y.channels && all2 eqT x.tasks y.tasks
theorem prog115 : Tryz.prog.funcs[115]? = some Tryz.f115 := by kernel_rfl
theorem holds115 (F : Nat) (p : Ex → Ex → Bool) (l m : List Ex) (hF : ∀ x ∈ l, ∀ y, Holds Tryz.prog zG F [.agg [.int .i64 x.kind, .str x.name, .int .i16 x.value, .int .i64 x.op, .sl 6 (encEs x.args), .int .i64 x.pos], .agg [.int .i64 y.kind, .str y.name, .int .i16 y.value, .int .i64 y.op, .sl 6 (encEs y.args), .int .i64 y.pos]] [.c (.bool (p x y))]) : Holds Tryz.prog zG 115 [.c (.sl 6 (encEs l)), .c (.sl 6 (encEs m)), .c (.fn F)] [.c (.bool (all2 p l m))] := by
 refine holds_of_body zT prog115 rfl rfl rfl (by simp [Tryz.f115]) ?_
 refine aw_ops zT fun K1 hK1 => ?_
 refine sg ?_
 refine hK1 _ ?_
 clear hK1
 refine aw_seq fun K2 hK2 => ?_
 refine aw_ops zT fun K3 hK3 => ?_
 refine sg ?_
 intros
 intros
 refine hK3 _ ?_
 clear hK3
 refine aw_cond rfl (fun h0 => ?_) (fun h0 => ?_)
 ·
  refine aw_ops zT fun K4 hK4 => ?_
  refine sg ?_
  refine hK4 _ ?_
  clear hK4
  refine aw_ret ?_
  show resOf zG _ [.tmp 6] = some _
  simp only [amset, amlib, zset, eq_self, ↓reduceIte, reduceCtorEq, Nat.reduceBEq, reduceEqDiff, reduceAdd, reduceMul, reduceLeDiff, reduceLT, reduceSub]
  rw [all2_ne (by simpa using h0)]
 ·
  refine aw_skip ?_
  simp only [thenQ, blkQ, if_true, reduceIte, Nat.reduceEqDiff, eq_self]
  refine hK2 _ ?_
  clear hK2
  refine aw_seq fun K5 hK5 => ?_
  refine aw_ops zT fun K6 hK6 => ?_
  refine sg ?_
  intros
  refine hK6 _ ?_
  clear hK6
  refine aw_block ?_
  refine aw_range (α := Ex) (l) (fun dn => all2 p dn (m.take dn.length) = true) (fun dn => [(17, .cell (.c (.int .i64 dn.length)))]) (fun dn => []) [] [6, 7, 8, 9, 17, 18, 19, 20, 21, 22, 23, 24, 25, 26, 27, 28, 29, 30, 31] [8, 9] rfl ?_ ?_ ?_ ?_
  ·
   simp only [amset, amlib, zset, eq_self, ↓reduceIte, reduceCtorEq, Nat.reduceBEq, reduceEqDiff, reduceAdd, reduceMul, reduceLeDiff, reduceLT, reduceSub] <;> simp [eq_self]
  ·
   simp only [amset, amlib, zset, eq_self, ↓reduceIte, reduceCtorEq, Nat.reduceBEq, reduceEqDiff, reduceAdd, reduceMul, reduceLeDiff, reduceLT, reduceSub] <;> simp [eq_self]
  ·
   intro hI R
   refine aw_nm ?_
   refine aw_ops zT fun K7 hK7 => ?_
   refine sg ?_
   refine hK7 _ ?_
   clear hK7
   refine aw_seq fun K8 hK8 => ?_
   refine aw_cond (t := false) (by simp [evalO, S.get, amLook]) (fun h => nomatch h) (fun _ => ?_)
   refine aw_exit ?_
   simp only [thenQ, blkQ, if_true, reduceIte, Nat.reduceEqDiff, eq_self]
   refine hK5 _ ?_
   clear hK5
   refine aw_ops zT fun K9 hK9 => ?_
   refine sg ?_
   refine hK9 _ ?_
   clear hK9
   refine aw_ret ?_
   show resOf zG _ [.tmp 6] = some _
   refine sg ?_
   have h5 : m.length = l.length := by simp at h0; omega
   rw [← h5, List.take_length] at hI
   rw [hI]
  ·
   intro dn y td harg hI R hR
   have hl : (l).length = dn.length + (td.length + 1) := by rw [harg]; simp
   have hmem : y ∈ l := by rw [harg]; simp
   refine aw_nm ?_
   have hget : (encEs (l)).getD dn.length [] = encE y := by rw [harg]; exact encEs_mid dn td y
   have hlen2 : dn.length < m.length := by simp at h0; omega
   obtain ⟨z, rz, hz, hzm, hzl⟩ := at_same (a := m) dn.length hlen2
   have hget2 : (encEs m).getD dn.length [] = encE z := by
    have := encEs_mid (m.take dn.length) rz z
    rw [← hz, hzl] at this
    exact this
   refine aw_ops zT fun K10 hK10 => ?_
   refine sg ?_
   refine hK10 _ ?_
   clear hK10
   refine aw_seq fun K11 hK11 => ?_
   refine aw_cond (t := true) (by simp [evalO, S.get, amLook]; omega) (fun _ => ?_) (fun h => nomatch h)
   refine aw_skip ?_
   simp only [thenQ, blkQ, if_true, reduceIte, Nat.reduceEqDiff, eq_self]
   refine hK11 _ ?_
   clear hK11
   refine aw_seq fun K12 hK12 => ?_
   refine aw_block ?_
   refine aw_ops zT fun K13 hK13 => ?_
   simp only [amset, amlib, zset, hget, hget2, eq_self, ↓reduceIte, reduceCtorEq, Nat.reduceBEq, reduceEqDiff, reduceAdd, reduceMul, reduceLeDiff, reduceLT, reduceSub]
   refine ⟨⟨by omega, by omega⟩, ?_⟩
   refine hK13 _ ?_
   clear hK13
   refine aw_ops zT fun K14 hK14 => ?_
   simp only [amset, amlib, zset, hget, hget2, eq_self, ↓reduceIte, reduceCtorEq, Nat.reduceBEq, reduceEqDiff, reduceAdd, reduceMul, reduceLeDiff, reduceLT, reduceSub]
   refine ⟨⟨by omega, by omega⟩, ?_⟩
   refine hK14 _ ?_
   clear hK14
   refine aw_ops zT fun K15 hK15 => ?_
   refine sg ?_
   refine ⟨_, hF y hmem z, ?_⟩
   refine sgl ?_
   refine hK15 _ ?_
   clear hK15
   refine aw_cond rfl (fun h1 => ?_) (fun h1 => ?_)
   ·
    refine aw_ops zT fun K16 hK16 => ?_
    refine sg ?_
    refine hK16 _ ?_
    clear hK16
    refine aw_ret ?_
    show resOf zG _ [.tmp 6] = some _
    simp only [amset, amlib, zset, eq_self, ↓reduceIte, reduceCtorEq, Nat.reduceBEq, reduceEqDiff, reduceAdd, reduceMul, reduceLeDiff, reduceLT, reduceSub]
    rw [harg, hz, all2_fail hzl.symm (by simpa using h1)]
   ·
    refine aw_skip ?_
    simp only [thenQ, blkQ, if_true, reduceIte, Nat.reduceEqDiff, eq_self]
    refine hK12 _ ?_
    clear hK12
    refine aw_region zT ?_
    refine sg ?_
    refine ⟨⟨by omega, by omega⟩, ?_⟩
    refine hR _ (by rw [show (dn ++ [y]).length = dn.length + 1 by simp, take_snoc hz hzl, all2_snoc hzl.symm, hI, Bool.true_and]; simpa using h1) ?_
    refine Reach.to ?_ ?_
    ·
     simp only [amset, amlib, zset, eq_self, ↓reduceIte, reduceCtorEq, Nat.reduceBEq, reduceEqDiff, reduceAdd, reduceMul, reduceLeDiff, reduceLT, reduceSub] <;> simp [eq_self]
    ·
     simp only [amset, amlib, zset, eq_self, ↓reduceIte, reduceCtorEq, Nat.reduceBEq, reduceEqDiff, reduceAdd, reduceMul, reduceLeDiff, reduceLT, reduceSub] <;> simp [eq_self]
theorem prog175 : Tryz.prog.funcs[175]? = some Tryz.f175 := by kernel_rfl
theorem holds175 (F : Nat) (p : St → St → Bool) (l m : List St) (hF : ∀ x ∈ l, ∀ y, Holds Tryz.prog zG F [.agg [.int .i64 x.kind, .str x.name, .int .i64 x.n, .sl 6 (encEs x.args), .sl 7 (encSs x.body), .sl 7 (encSs x.els), .int .i64 x.pos], .agg [.int .i64 y.kind, .str y.name, .int .i64 y.n, .sl 6 (encEs y.args), .sl 7 (encSs y.body), .sl 7 (encSs y.els), .int .i64 y.pos]] [.c (.bool (p x y))]) : Holds Tryz.prog zG 175 [.c (.sl 7 (encSs l)), .c (.sl 7 (encSs m)), .c (.fn F)] [.c (.bool (all2 p l m))] := by
 refine holds_of_body zT prog175 rfl rfl rfl (by simp [Tryz.f175]) ?_
 refine aw_ops zT fun K1 hK1 => ?_
 refine sg ?_
 refine hK1 _ ?_
 clear hK1
 refine aw_seq fun K2 hK2 => ?_
 refine aw_ops zT fun K3 hK3 => ?_
 refine sg ?_
 intros
 intros
 refine hK3 _ ?_
 clear hK3
 refine aw_cond rfl (fun h0 => ?_) (fun h0 => ?_)
 ·
  refine aw_ops zT fun K4 hK4 => ?_
  refine sg ?_
  refine hK4 _ ?_
  clear hK4
  refine aw_ret ?_
  show resOf zG _ [.tmp 6] = some _
  simp only [amset, amlib, zset, eq_self, ↓reduceIte, reduceCtorEq, Nat.reduceBEq, reduceEqDiff, reduceAdd, reduceMul, reduceLeDiff, reduceLT, reduceSub]
  rw [all2_ne (by simpa using h0)]
 ·
  refine aw_skip ?_
  simp only [thenQ, blkQ, if_true, reduceIte, Nat.reduceEqDiff, eq_self]
  refine hK2 _ ?_
  clear hK2
  refine aw_seq fun K5 hK5 => ?_
  refine aw_ops zT fun K6 hK6 => ?_
  refine sg ?_
  intros
  refine hK6 _ ?_
  clear hK6
  refine aw_block ?_
  refine aw_range (α := St) (l) (fun dn => all2 p dn (m.take dn.length) = true) (fun dn => [(17, .cell (.c (.int .i64 dn.length)))]) (fun dn => []) [] [6, 7, 8, 9, 17, 18, 19, 20, 21, 22, 23, 24, 25, 26, 27, 28, 29, 30, 31] [8, 9] rfl ?_ ?_ ?_ ?_
  ·
   simp only [amset, amlib, zset, eq_self, ↓reduceIte, reduceCtorEq, Nat.reduceBEq, reduceEqDiff, reduceAdd, reduceMul, reduceLeDiff, reduceLT, reduceSub] <;> simp [eq_self]
  ·
   simp only [amset, amlib, zset, eq_self, ↓reduceIte, reduceCtorEq, Nat.reduceBEq, reduceEqDiff, reduceAdd, reduceMul, reduceLeDiff, reduceLT, reduceSub] <;> simp [eq_self]
  ·
   intro hI R
   refine aw_nm ?_
   refine aw_ops zT fun K7 hK7 => ?_
   refine sg ?_
   refine hK7 _ ?_
   clear hK7
   refine aw_seq fun K8 hK8 => ?_
   refine aw_cond (t := false) (by simp [evalO, S.get, amLook]) (fun h => nomatch h) (fun _ => ?_)
   refine aw_exit ?_
   simp only [thenQ, blkQ, if_true, reduceIte, Nat.reduceEqDiff, eq_self]
   refine hK5 _ ?_
   clear hK5
   refine aw_ops zT fun K9 hK9 => ?_
   refine sg ?_
   refine hK9 _ ?_
   clear hK9
   refine aw_ret ?_
   show resOf zG _ [.tmp 6] = some _
   refine sg ?_
   have h5 : m.length = l.length := by simp at h0; omega
   rw [← h5, List.take_length] at hI
   rw [hI]
  ·
   intro dn y td harg hI R hR
   have hl : (l).length = dn.length + (td.length + 1) := by rw [harg]; simp
   have hmem : y ∈ l := by rw [harg]; simp
   refine aw_nm ?_
   have hget : (encSs (l)).getD dn.length [] = encS y := by rw [harg]; exact encSs_mid dn td y
   have hlen2 : dn.length < m.length := by simp at h0; omega
   obtain ⟨z, rz, hz, hzm, hzl⟩ := at_same (a := m) dn.length hlen2
   have hget2 : (encSs m).getD dn.length [] = encS z := by
    have := encSs_mid (m.take dn.length) rz z
    rw [← hz, hzl] at this
    exact this
   refine aw_ops zT fun K10 hK10 => ?_
   refine sg ?_
   refine hK10 _ ?_
   clear hK10
   refine aw_seq fun K11 hK11 => ?_
   refine aw_cond (t := true) (by simp [evalO, S.get, amLook]; omega) (fun _ => ?_) (fun h => nomatch h)
   refine aw_skip ?_
   simp only [thenQ, blkQ, if_true, reduceIte, Nat.reduceEqDiff, eq_self]
   refine hK11 _ ?_
   clear hK11
   refine aw_seq fun K12 hK12 => ?_
   refine aw_block ?_
   refine aw_ops zT fun K13 hK13 => ?_
   simp only [amset, amlib, zset, hget, hget2, eq_self, ↓reduceIte, reduceCtorEq, Nat.reduceBEq, reduceEqDiff, reduceAdd, reduceMul, reduceLeDiff, reduceLT, reduceSub]
   refine ⟨⟨by omega, by omega⟩, ?_⟩
   refine hK13 _ ?_
   clear hK13
   refine aw_ops zT fun K14 hK14 => ?_
   simp only [amset, amlib, zset, hget, hget2, eq_self, ↓reduceIte, reduceCtorEq, Nat.reduceBEq, reduceEqDiff, reduceAdd, reduceMul, reduceLeDiff, reduceLT, reduceSub]
   refine ⟨⟨by omega, by omega⟩, ?_⟩
   refine hK14 _ ?_
   clear hK14
   refine aw_ops zT fun K15 hK15 => ?_
   refine sg ?_
   refine ⟨_, hF y hmem z, ?_⟩
   refine sgl ?_
   refine hK15 _ ?_
   clear hK15
   refine aw_cond rfl (fun h1 => ?_) (fun h1 => ?_)
   ·
    refine aw_ops zT fun K16 hK16 => ?_
    refine sg ?_
    refine hK16 _ ?_
    clear hK16
    refine aw_ret ?_
    show resOf zG _ [.tmp 6] = some _
    simp only [amset, amlib, zset, eq_self, ↓reduceIte, reduceCtorEq, Nat.reduceBEq, reduceEqDiff, reduceAdd, reduceMul, reduceLeDiff, reduceLT, reduceSub]
    rw [harg, hz, all2_fail hzl.symm (by simpa using h1)]
   ·
    refine aw_skip ?_
    simp only [thenQ, blkQ, if_true, reduceIte, Nat.reduceEqDiff, eq_self]
    refine hK12 _ ?_
    clear hK12
    refine aw_region zT ?_
    refine sg ?_
    refine ⟨⟨by omega, by omega⟩, ?_⟩
    refine hR _ (by rw [show (dn ++ [y]).length = dn.length + 1 by simp, take_snoc hz hzl, all2_snoc hzl.symm, hI, Bool.true_and]; simpa using h1) ?_
    refine Reach.to ?_ ?_
    ·
     simp only [amset, amlib, zset, eq_self, ↓reduceIte, reduceCtorEq, Nat.reduceBEq, reduceEqDiff, reduceAdd, reduceMul, reduceLeDiff, reduceLT, reduceSub] <;> simp [eq_self]
    ·
     simp only [amset, amlib, zset, eq_self, ↓reduceIte, reduceCtorEq, Nat.reduceBEq, reduceEqDiff, reduceAdd, reduceMul, reduceLeDiff, reduceLT, reduceSub] <;> simp [eq_self]
theorem prog105 : Tryz.prog.funcs[105]? = some Tryz.f105 := by kernel_rfl
theorem holds105 (F : Nat) (p : Cn → Cn → Bool) (l m : List Cn) (hF : ∀ x ∈ l, ∀ y, Holds Tryz.prog zG F [.agg [.str x.name, .int .i16 x.value, .int .i64 x.pos], .agg [.str y.name, .int .i16 y.value, .int .i64 y.pos]] [.c (.bool (p x y))]) : Holds Tryz.prog zG 105 [.c (.sl 3 (encCs l)), .c (.sl 3 (encCs m)), .c (.fn F)] [.c (.bool (all2 p l m))] := by
 refine holds_of_body zT prog105 rfl rfl rfl (by simp [Tryz.f105]) ?_
 refine aw_ops zT fun K1 hK1 => ?_
 refine sg ?_
 refine hK1 _ ?_
 clear hK1
 refine aw_seq fun K2 hK2 => ?_
 refine aw_ops zT fun K3 hK3 => ?_
 refine sg ?_
 intros
 intros
 refine hK3 _ ?_
 clear hK3
 refine aw_cond rfl (fun h0 => ?_) (fun h0 => ?_)
 ·
  refine aw_ops zT fun K4 hK4 => ?_
  refine sg ?_
  refine hK4 _ ?_
  clear hK4
  refine aw_ret ?_
  show resOf zG _ [.tmp 6] = some _
  simp only [amset, amlib, zset, eq_self, ↓reduceIte, reduceCtorEq, Nat.reduceBEq, reduceEqDiff, reduceAdd, reduceMul, reduceLeDiff, reduceLT, reduceSub]
  rw [all2_ne (by simpa using h0)]
 ·
  refine aw_skip ?_
  simp only [thenQ, blkQ, if_true, reduceIte, Nat.reduceEqDiff, eq_self]
  refine hK2 _ ?_
  clear hK2
  refine aw_seq fun K5 hK5 => ?_
  refine aw_ops zT fun K6 hK6 => ?_
  refine sg ?_
  intros
  refine hK6 _ ?_
  clear hK6
  refine aw_block ?_
  refine aw_range (α := Cn) (l) (fun dn => all2 p dn (m.take dn.length) = true) (fun dn => [(17, .cell (.c (.int .i64 dn.length)))]) (fun dn => []) [] [6, 7, 8, 9, 17, 18, 19, 20, 21, 22, 23, 24, 25, 26, 27, 28, 29, 30, 31] [8, 9] rfl ?_ ?_ ?_ ?_
  ·
   simp only [amset, amlib, zset, eq_self, ↓reduceIte, reduceCtorEq, Nat.reduceBEq, reduceEqDiff, reduceAdd, reduceMul, reduceLeDiff, reduceLT, reduceSub] <;> simp [eq_self]
  ·
   simp only [amset, amlib, zset, eq_self, ↓reduceIte, reduceCtorEq, Nat.reduceBEq, reduceEqDiff, reduceAdd, reduceMul, reduceLeDiff, reduceLT, reduceSub] <;> simp [eq_self]
  ·
   intro hI R
   refine aw_nm ?_
   refine aw_ops zT fun K7 hK7 => ?_
   refine sg ?_
   refine hK7 _ ?_
   clear hK7
   refine aw_seq fun K8 hK8 => ?_
   refine aw_cond (t := false) (by simp [evalO, S.get, amLook]) (fun h => nomatch h) (fun _ => ?_)
   refine aw_exit ?_
   simp only [thenQ, blkQ, if_true, reduceIte, Nat.reduceEqDiff, eq_self]
   refine hK5 _ ?_
   clear hK5
   refine aw_ops zT fun K9 hK9 => ?_
   refine sg ?_
   refine hK9 _ ?_
   clear hK9
   refine aw_ret ?_
   show resOf zG _ [.tmp 6] = some _
   refine sg ?_
   have h5 : m.length = l.length := by simp at h0; omega
   rw [← h5, List.take_length] at hI
   rw [hI]
  ·
   intro dn y td harg hI R hR
   have hl : (l).length = dn.length + (td.length + 1) := by rw [harg]; simp
   have hmem : y ∈ l := by rw [harg]; simp
   refine aw_nm ?_
   have hget : (encCs (l)).getD dn.length [] = encC y := by rw [harg]; exact encCs_mid dn td y
   have hlen2 : dn.length < m.length := by simp at h0; omega
   obtain ⟨z, rz, hz, hzm, hzl⟩ := at_same (a := m) dn.length hlen2
   have hget2 : (encCs m).getD dn.length [] = encC z := by
    have := encCs_mid (m.take dn.length) rz z
    rw [← hz, hzl] at this
    exact this
   refine aw_ops zT fun K10 hK10 => ?_
   refine sg ?_
   refine hK10 _ ?_
   clear hK10
   refine aw_seq fun K11 hK11 => ?_
   refine aw_cond (t := true) (by simp [evalO, S.get, amLook]; omega) (fun _ => ?_) (fun h => nomatch h)
   refine aw_skip ?_
   simp only [thenQ, blkQ, if_true, reduceIte, Nat.reduceEqDiff, eq_self]
   refine hK11 _ ?_
   clear hK11
   refine aw_seq fun K12 hK12 => ?_
   refine aw_block ?_
   refine aw_ops zT fun K13 hK13 => ?_
   simp only [amset, amlib, zset, hget, hget2, eq_self, ↓reduceIte, reduceCtorEq, Nat.reduceBEq, reduceEqDiff, reduceAdd, reduceMul, reduceLeDiff, reduceLT, reduceSub]
   refine ⟨⟨by omega, by omega⟩, ?_⟩
   refine hK13 _ ?_
   clear hK13
   refine aw_ops zT fun K14 hK14 => ?_
   simp only [amset, amlib, zset, hget, hget2, eq_self, ↓reduceIte, reduceCtorEq, Nat.reduceBEq, reduceEqDiff, reduceAdd, reduceMul, reduceLeDiff, reduceLT, reduceSub]
   refine ⟨⟨by omega, by omega⟩, ?_⟩
   refine hK14 _ ?_
   clear hK14
   refine aw_ops zT fun K15 hK15 => ?_
   refine sg ?_
   refine ⟨_, hF y hmem z, ?_⟩
   refine sgl ?_
   refine hK15 _ ?_
   clear hK15
   refine aw_cond rfl (fun h1 => ?_) (fun h1 => ?_)
   ·
    refine aw_ops zT fun K16 hK16 => ?_
    refine sg ?_
    refine hK16 _ ?_
    clear hK16
    refine aw_ret ?_
    show resOf zG _ [.tmp 6] = some _
    simp only [amset, amlib, zset, eq_self, ↓reduceIte, reduceCtorEq, Nat.reduceBEq, reduceEqDiff, reduceAdd, reduceMul, reduceLeDiff, reduceLT, reduceSub]
    rw [harg, hz, all2_fail hzl.symm (by simpa using h1)]
   ·
    refine aw_skip ?_
    simp only [thenQ, blkQ, if_true, reduceIte, Nat.reduceEqDiff, eq_self]
    refine hK12 _ ?_
    clear hK12
    refine aw_region zT ?_
    refine sg ?_
    refine ⟨⟨by omega, by omega⟩, ?_⟩
    refine hR _ (by rw [show (dn ++ [y]).length = dn.length + 1 by simp, take_snoc hz hzl, all2_snoc hzl.symm, hI, Bool.true_and]; simpa using h1) ?_
    refine Reach.to ?_ ?_
    ·
     simp only [amset, amlib, zset, eq_self, ↓reduceIte, reduceCtorEq, Nat.reduceBEq, reduceEqDiff, reduceAdd, reduceMul, reduceLeDiff, reduceLT, reduceSub] <;> simp [eq_self]
    ·
     simp only [amset, amlib, zset, eq_self, ↓reduceIte, reduceCtorEq, Nat.reduceBEq, reduceEqDiff, reduceAdd, reduceMul, reduceLeDiff, reduceLT, reduceSub] <;> simp [eq_self]
theorem prog107 : Tryz.prog.funcs[107]? = some Tryz.f107 := by kernel_rfl
theorem holds107 (F : Nat) (p : Gl → Gl → Bool) (l m : List Gl) (hF : ∀ x ∈ l, ∀ y, Holds Tryz.prog zG F [.agg [.str x.name, .int .i64 x.len, .int .i16 x.init, .int .i64 x.pos], .agg [.str y.name, .int .i64 y.len, .int .i16 y.init, .int .i64 y.pos]] [.c (.bool (p x y))]) : Holds Tryz.prog zG 107 [.c (.sl 4 (encGs l)), .c (.sl 4 (encGs m)), .c (.fn F)] [.c (.bool (all2 p l m))] := by
 refine holds_of_body zT prog107 rfl rfl rfl (by simp [Tryz.f107]) ?_
 refine aw_ops zT fun K1 hK1 => ?_
 refine sg ?_
 refine hK1 _ ?_
 clear hK1
 refine aw_seq fun K2 hK2 => ?_
 refine aw_ops zT fun K3 hK3 => ?_
 refine sg ?_
 intros
 intros
 refine hK3 _ ?_
 clear hK3
 refine aw_cond rfl (fun h0 => ?_) (fun h0 => ?_)
 ·
  refine aw_ops zT fun K4 hK4 => ?_
  refine sg ?_
  refine hK4 _ ?_
  clear hK4
  refine aw_ret ?_
  show resOf zG _ [.tmp 6] = some _
  simp only [amset, amlib, zset, eq_self, ↓reduceIte, reduceCtorEq, Nat.reduceBEq, reduceEqDiff, reduceAdd, reduceMul, reduceLeDiff, reduceLT, reduceSub]
  rw [all2_ne (by simpa using h0)]
 ·
  refine aw_skip ?_
  simp only [thenQ, blkQ, if_true, reduceIte, Nat.reduceEqDiff, eq_self]
  refine hK2 _ ?_
  clear hK2
  refine aw_seq fun K5 hK5 => ?_
  refine aw_ops zT fun K6 hK6 => ?_
  refine sg ?_
  intros
  refine hK6 _ ?_
  clear hK6
  refine aw_block ?_
  refine aw_range (α := Gl) (l) (fun dn => all2 p dn (m.take dn.length) = true) (fun dn => [(17, .cell (.c (.int .i64 dn.length)))]) (fun dn => []) [] [6, 7, 8, 9, 17, 18, 19, 20, 21, 22, 23, 24, 25, 26, 27, 28, 29, 30, 31] [8, 9] rfl ?_ ?_ ?_ ?_
  ·
   simp only [amset, amlib, zset, eq_self, ↓reduceIte, reduceCtorEq, Nat.reduceBEq, reduceEqDiff, reduceAdd, reduceMul, reduceLeDiff, reduceLT, reduceSub] <;> simp [eq_self]
  ·
   simp only [amset, amlib, zset, eq_self, ↓reduceIte, reduceCtorEq, Nat.reduceBEq, reduceEqDiff, reduceAdd, reduceMul, reduceLeDiff, reduceLT, reduceSub] <;> simp [eq_self]
  ·
   intro hI R
   refine aw_nm ?_
   refine aw_ops zT fun K7 hK7 => ?_
   refine sg ?_
   refine hK7 _ ?_
   clear hK7
   refine aw_seq fun K8 hK8 => ?_
   refine aw_cond (t := false) (by simp [evalO, S.get, amLook]) (fun h => nomatch h) (fun _ => ?_)
   refine aw_exit ?_
   simp only [thenQ, blkQ, if_true, reduceIte, Nat.reduceEqDiff, eq_self]
   refine hK5 _ ?_
   clear hK5
   refine aw_ops zT fun K9 hK9 => ?_
   refine sg ?_
   refine hK9 _ ?_
   clear hK9
   refine aw_ret ?_
   show resOf zG _ [.tmp 6] = some _
   refine sg ?_
   have h5 : m.length = l.length := by simp at h0; omega
   rw [← h5, List.take_length] at hI
   rw [hI]
  ·
   intro dn y td harg hI R hR
   have hl : (l).length = dn.length + (td.length + 1) := by rw [harg]; simp
   have hmem : y ∈ l := by rw [harg]; simp
   refine aw_nm ?_
   have hget : (encGs (l)).getD dn.length [] = encG y := by rw [harg]; exact encGs_mid dn td y
   have hlen2 : dn.length < m.length := by simp at h0; omega
   obtain ⟨z, rz, hz, hzm, hzl⟩ := at_same (a := m) dn.length hlen2
   have hget2 : (encGs m).getD dn.length [] = encG z := by
    have := encGs_mid (m.take dn.length) rz z
    rw [← hz, hzl] at this
    exact this
   refine aw_ops zT fun K10 hK10 => ?_
   refine sg ?_
   refine hK10 _ ?_
   clear hK10
   refine aw_seq fun K11 hK11 => ?_
   refine aw_cond (t := true) (by simp [evalO, S.get, amLook]; omega) (fun _ => ?_) (fun h => nomatch h)
   refine aw_skip ?_
   simp only [thenQ, blkQ, if_true, reduceIte, Nat.reduceEqDiff, eq_self]
   refine hK11 _ ?_
   clear hK11
   refine aw_seq fun K12 hK12 => ?_
   refine aw_block ?_
   refine aw_ops zT fun K13 hK13 => ?_
   simp only [amset, amlib, zset, hget, hget2, eq_self, ↓reduceIte, reduceCtorEq, Nat.reduceBEq, reduceEqDiff, reduceAdd, reduceMul, reduceLeDiff, reduceLT, reduceSub]
   refine ⟨⟨by omega, by omega⟩, ?_⟩
   refine hK13 _ ?_
   clear hK13
   refine aw_ops zT fun K14 hK14 => ?_
   simp only [amset, amlib, zset, hget, hget2, eq_self, ↓reduceIte, reduceCtorEq, Nat.reduceBEq, reduceEqDiff, reduceAdd, reduceMul, reduceLeDiff, reduceLT, reduceSub]
   refine ⟨⟨by omega, by omega⟩, ?_⟩
   refine hK14 _ ?_
   clear hK14
   refine aw_ops zT fun K15 hK15 => ?_
   refine sg ?_
   refine ⟨_, hF y hmem z, ?_⟩
   refine sgl ?_
   refine hK15 _ ?_
   clear hK15
   refine aw_cond rfl (fun h1 => ?_) (fun h1 => ?_)
   ·
    refine aw_ops zT fun K16 hK16 => ?_
    refine sg ?_
    refine hK16 _ ?_
    clear hK16
    refine aw_ret ?_
    show resOf zG _ [.tmp 6] = some _
    simp only [amset, amlib, zset, eq_self, ↓reduceIte, reduceCtorEq, Nat.reduceBEq, reduceEqDiff, reduceAdd, reduceMul, reduceLeDiff, reduceLT, reduceSub]
    rw [harg, hz, all2_fail hzl.symm (by simpa using h1)]
   ·
    refine aw_skip ?_
    simp only [thenQ, blkQ, if_true, reduceIte, Nat.reduceEqDiff, eq_self]
    refine hK12 _ ?_
    clear hK12
    refine aw_region zT ?_
    refine sg ?_
    refine ⟨⟨by omega, by omega⟩, ?_⟩
    refine hR _ (by rw [show (dn ++ [y]).length = dn.length + 1 by simp, take_snoc hz hzl, all2_snoc hzl.symm, hI, Bool.true_and]; simpa using h1) ?_
    refine Reach.to ?_ ?_
    ·
     simp only [amset, amlib, zset, eq_self, ↓reduceIte, reduceCtorEq, Nat.reduceBEq, reduceEqDiff, reduceAdd, reduceMul, reduceLeDiff, reduceLT, reduceSub] <;> simp [eq_self]
    ·
     simp only [amset, amlib, zset, eq_self, ↓reduceIte, reduceCtorEq, Nat.reduceBEq, reduceEqDiff, reduceAdd, reduceMul, reduceLeDiff, reduceLT, reduceSub] <;> simp [eq_self]
theorem prog110 : Tryz.prog.funcs[110]? = some Tryz.f110 := by kernel_rfl
theorem holds110 (F : Nat) (p : Ch → Ch → Bool) (l m : List Ch) (hF : ∀ x ∈ l, ∀ y, Holds Tryz.prog zG F [.agg [.str x.name, .int .i64 x.cap, .int .i64 x.pos], .agg [.str y.name, .int .i64 y.cap, .int .i64 y.pos]] [.c (.bool (p x y))]) : Holds Tryz.prog zG 110 [.c (.sl 3 (encHs l)), .c (.sl 3 (encHs m)), .c (.fn F)] [.c (.bool (all2 p l m))] := by
 refine holds_of_body zT prog110 rfl rfl rfl (by simp [Tryz.f110]) ?_
 refine aw_ops zT fun K1 hK1 => ?_
 refine sg ?_
 refine hK1 _ ?_
 clear hK1
 refine aw_seq fun K2 hK2 => ?_
 refine aw_ops zT fun K3 hK3 => ?_
 refine sg ?_
 intros
 intros
 refine hK3 _ ?_
 clear hK3
 refine aw_cond rfl (fun h0 => ?_) (fun h0 => ?_)
 ·
  refine aw_ops zT fun K4 hK4 => ?_
  refine sg ?_
  refine hK4 _ ?_
  clear hK4
  refine aw_ret ?_
  show resOf zG _ [.tmp 6] = some _
  simp only [amset, amlib, zset, eq_self, ↓reduceIte, reduceCtorEq, Nat.reduceBEq, reduceEqDiff, reduceAdd, reduceMul, reduceLeDiff, reduceLT, reduceSub]
  rw [all2_ne (by simpa using h0)]
 ·
  refine aw_skip ?_
  simp only [thenQ, blkQ, if_true, reduceIte, Nat.reduceEqDiff, eq_self]
  refine hK2 _ ?_
  clear hK2
  refine aw_seq fun K5 hK5 => ?_
  refine aw_ops zT fun K6 hK6 => ?_
  refine sg ?_
  intros
  refine hK6 _ ?_
  clear hK6
  refine aw_block ?_
  refine aw_range (α := Ch) (l) (fun dn => all2 p dn (m.take dn.length) = true) (fun dn => [(17, .cell (.c (.int .i64 dn.length)))]) (fun dn => []) [] [6, 7, 8, 9, 17, 18, 19, 20, 21, 22, 23, 24, 25, 26, 27, 28, 29, 30, 31] [8, 9] rfl ?_ ?_ ?_ ?_
  ·
   simp only [amset, amlib, zset, eq_self, ↓reduceIte, reduceCtorEq, Nat.reduceBEq, reduceEqDiff, reduceAdd, reduceMul, reduceLeDiff, reduceLT, reduceSub] <;> simp [eq_self]
  ·
   simp only [amset, amlib, zset, eq_self, ↓reduceIte, reduceCtorEq, Nat.reduceBEq, reduceEqDiff, reduceAdd, reduceMul, reduceLeDiff, reduceLT, reduceSub] <;> simp [eq_self]
  ·
   intro hI R
   refine aw_nm ?_
   refine aw_ops zT fun K7 hK7 => ?_
   refine sg ?_
   refine hK7 _ ?_
   clear hK7
   refine aw_seq fun K8 hK8 => ?_
   refine aw_cond (t := false) (by simp [evalO, S.get, amLook]) (fun h => nomatch h) (fun _ => ?_)
   refine aw_exit ?_
   simp only [thenQ, blkQ, if_true, reduceIte, Nat.reduceEqDiff, eq_self]
   refine hK5 _ ?_
   clear hK5
   refine aw_ops zT fun K9 hK9 => ?_
   refine sg ?_
   refine hK9 _ ?_
   clear hK9
   refine aw_ret ?_
   show resOf zG _ [.tmp 6] = some _
   refine sg ?_
   have h5 : m.length = l.length := by simp at h0; omega
   rw [← h5, List.take_length] at hI
   rw [hI]
  ·
   intro dn y td harg hI R hR
   have hl : (l).length = dn.length + (td.length + 1) := by rw [harg]; simp
   have hmem : y ∈ l := by rw [harg]; simp
   refine aw_nm ?_
   have hget : (encHs (l)).getD dn.length [] = encH y := by rw [harg]; exact encHs_mid dn td y
   have hlen2 : dn.length < m.length := by simp at h0; omega
   obtain ⟨z, rz, hz, hzm, hzl⟩ := at_same (a := m) dn.length hlen2
   have hget2 : (encHs m).getD dn.length [] = encH z := by
    have := encHs_mid (m.take dn.length) rz z
    rw [← hz, hzl] at this
    exact this
   refine aw_ops zT fun K10 hK10 => ?_
   refine sg ?_
   refine hK10 _ ?_
   clear hK10
   refine aw_seq fun K11 hK11 => ?_
   refine aw_cond (t := true) (by simp [evalO, S.get, amLook]; omega) (fun _ => ?_) (fun h => nomatch h)
   refine aw_skip ?_
   simp only [thenQ, blkQ, if_true, reduceIte, Nat.reduceEqDiff, eq_self]
   refine hK11 _ ?_
   clear hK11
   refine aw_seq fun K12 hK12 => ?_
   refine aw_block ?_
   refine aw_ops zT fun K13 hK13 => ?_
   simp only [amset, amlib, zset, hget, hget2, eq_self, ↓reduceIte, reduceCtorEq, Nat.reduceBEq, reduceEqDiff, reduceAdd, reduceMul, reduceLeDiff, reduceLT, reduceSub]
   refine ⟨⟨by omega, by omega⟩, ?_⟩
   refine hK13 _ ?_
   clear hK13
   refine aw_ops zT fun K14 hK14 => ?_
   simp only [amset, amlib, zset, hget, hget2, eq_self, ↓reduceIte, reduceCtorEq, Nat.reduceBEq, reduceEqDiff, reduceAdd, reduceMul, reduceLeDiff, reduceLT, reduceSub]
   refine ⟨⟨by omega, by omega⟩, ?_⟩
   refine hK14 _ ?_
   clear hK14
   refine aw_ops zT fun K15 hK15 => ?_
   refine sg ?_
   refine ⟨_, hF y hmem z, ?_⟩
   refine sgl ?_
   refine hK15 _ ?_
   clear hK15
   refine aw_cond rfl (fun h1 => ?_) (fun h1 => ?_)
   ·
    refine aw_ops zT fun K16 hK16 => ?_
    refine sg ?_
    refine hK16 _ ?_
    clear hK16
    refine aw_ret ?_
    show resOf zG _ [.tmp 6] = some _
    simp only [amset, amlib, zset, eq_self, ↓reduceIte, reduceCtorEq, Nat.reduceBEq, reduceEqDiff, reduceAdd, reduceMul, reduceLeDiff, reduceLT, reduceSub]
    rw [harg, hz, all2_fail hzl.symm (by simpa using h1)]
   ·
    refine aw_skip ?_
    simp only [thenQ, blkQ, if_true, reduceIte, Nat.reduceEqDiff, eq_self]
    refine hK12 _ ?_
    clear hK12
    refine aw_region zT ?_
    refine sg ?_
    refine ⟨⟨by omega, by omega⟩, ?_⟩
    refine hR _ (by rw [show (dn ++ [y]).length = dn.length + 1 by simp, take_snoc hz hzl, all2_snoc hzl.symm, hI, Bool.true_and]; simpa using h1) ?_
    refine Reach.to ?_ ?_
    ·
     simp only [amset, amlib, zset, eq_self, ↓reduceIte, reduceCtorEq, Nat.reduceBEq, reduceEqDiff, reduceAdd, reduceMul, reduceLeDiff, reduceLT, reduceSub] <;> simp [eq_self]
    ·
     simp only [amset, amlib, zset, eq_self, ↓reduceIte, reduceCtorEq, Nat.reduceBEq, reduceEqDiff, reduceAdd, reduceMul, reduceLeDiff, reduceLT, reduceSub] <;> simp [eq_self]
theorem prog112 : Tryz.prog.funcs[112]? = some Tryz.f112 := by kernel_rfl
theorem holds112 (F : Nat) (p : Tk → Tk → Bool) (l m : List Tk) (hF : ∀ x ∈ l, ∀ y, Holds Tryz.prog zG F [.agg [.str x.name, .int .i64 x.period, .int .i64 x.deadline, .str x.channel, .str x.param, .int .i64 x.within, .sl 7 (encSs x.body), .int .i64 x.pos], .agg [.str y.name, .int .i64 y.period, .int .i64 y.deadline, .str y.channel, .str y.param, .int .i64 y.within, .sl 7 (encSs y.body), .int .i64 y.pos]] [.c (.bool (p x y))]) : Holds Tryz.prog zG 112 [.c (.sl 8 (encTs l)), .c (.sl 8 (encTs m)), .c (.fn F)] [.c (.bool (all2 p l m))] := by
 refine holds_of_body zT prog112 rfl rfl rfl (by simp [Tryz.f112]) ?_
 refine aw_ops zT fun K1 hK1 => ?_
 refine sg ?_
 refine hK1 _ ?_
 clear hK1
 refine aw_seq fun K2 hK2 => ?_
 refine aw_ops zT fun K3 hK3 => ?_
 refine sg ?_
 intros
 intros
 refine hK3 _ ?_
 clear hK3
 refine aw_cond rfl (fun h0 => ?_) (fun h0 => ?_)
 ·
  refine aw_ops zT fun K4 hK4 => ?_
  refine sg ?_
  refine hK4 _ ?_
  clear hK4
  refine aw_ret ?_
  show resOf zG _ [.tmp 6] = some _
  simp only [amset, amlib, zset, eq_self, ↓reduceIte, reduceCtorEq, Nat.reduceBEq, reduceEqDiff, reduceAdd, reduceMul, reduceLeDiff, reduceLT, reduceSub]
  rw [all2_ne (by simpa using h0)]
 ·
  refine aw_skip ?_
  simp only [thenQ, blkQ, if_true, reduceIte, Nat.reduceEqDiff, eq_self]
  refine hK2 _ ?_
  clear hK2
  refine aw_seq fun K5 hK5 => ?_
  refine aw_ops zT fun K6 hK6 => ?_
  refine sg ?_
  intros
  refine hK6 _ ?_
  clear hK6
  refine aw_block ?_
  refine aw_range (α := Tk) (l) (fun dn => all2 p dn (m.take dn.length) = true) (fun dn => [(17, .cell (.c (.int .i64 dn.length)))]) (fun dn => []) [] [6, 7, 8, 9, 17, 18, 19, 20, 21, 22, 23, 24, 25, 26, 27, 28, 29, 30, 31] [8, 9] rfl ?_ ?_ ?_ ?_
  ·
   simp only [amset, amlib, zset, eq_self, ↓reduceIte, reduceCtorEq, Nat.reduceBEq, reduceEqDiff, reduceAdd, reduceMul, reduceLeDiff, reduceLT, reduceSub] <;> simp [eq_self]
  ·
   simp only [amset, amlib, zset, eq_self, ↓reduceIte, reduceCtorEq, Nat.reduceBEq, reduceEqDiff, reduceAdd, reduceMul, reduceLeDiff, reduceLT, reduceSub] <;> simp [eq_self]
  ·
   intro hI R
   refine aw_nm ?_
   refine aw_ops zT fun K7 hK7 => ?_
   refine sg ?_
   refine hK7 _ ?_
   clear hK7
   refine aw_seq fun K8 hK8 => ?_
   refine aw_cond (t := false) (by simp [evalO, S.get, amLook]) (fun h => nomatch h) (fun _ => ?_)
   refine aw_exit ?_
   simp only [thenQ, blkQ, if_true, reduceIte, Nat.reduceEqDiff, eq_self]
   refine hK5 _ ?_
   clear hK5
   refine aw_ops zT fun K9 hK9 => ?_
   refine sg ?_
   refine hK9 _ ?_
   clear hK9
   refine aw_ret ?_
   show resOf zG _ [.tmp 6] = some _
   refine sg ?_
   have h5 : m.length = l.length := by simp at h0; omega
   rw [← h5, List.take_length] at hI
   rw [hI]
  ·
   intro dn y td harg hI R hR
   have hl : (l).length = dn.length + (td.length + 1) := by rw [harg]; simp
   have hmem : y ∈ l := by rw [harg]; simp
   refine aw_nm ?_
   have hget : (encTs (l)).getD dn.length [] = encT y := by rw [harg]; exact encTs_mid dn td y
   have hlen2 : dn.length < m.length := by simp at h0; omega
   obtain ⟨z, rz, hz, hzm, hzl⟩ := at_same (a := m) dn.length hlen2
   have hget2 : (encTs m).getD dn.length [] = encT z := by
    have := encTs_mid (m.take dn.length) rz z
    rw [← hz, hzl] at this
    exact this
   refine aw_ops zT fun K10 hK10 => ?_
   refine sg ?_
   refine hK10 _ ?_
   clear hK10
   refine aw_seq fun K11 hK11 => ?_
   refine aw_cond (t := true) (by simp [evalO, S.get, amLook]; omega) (fun _ => ?_) (fun h => nomatch h)
   refine aw_skip ?_
   simp only [thenQ, blkQ, if_true, reduceIte, Nat.reduceEqDiff, eq_self]
   refine hK11 _ ?_
   clear hK11
   refine aw_seq fun K12 hK12 => ?_
   refine aw_block ?_
   refine aw_ops zT fun K13 hK13 => ?_
   simp only [amset, amlib, zset, hget, hget2, eq_self, ↓reduceIte, reduceCtorEq, Nat.reduceBEq, reduceEqDiff, reduceAdd, reduceMul, reduceLeDiff, reduceLT, reduceSub]
   refine ⟨⟨by omega, by omega⟩, ?_⟩
   refine hK13 _ ?_
   clear hK13
   refine aw_ops zT fun K14 hK14 => ?_
   simp only [amset, amlib, zset, hget, hget2, eq_self, ↓reduceIte, reduceCtorEq, Nat.reduceBEq, reduceEqDiff, reduceAdd, reduceMul, reduceLeDiff, reduceLT, reduceSub]
   refine ⟨⟨by omega, by omega⟩, ?_⟩
   refine hK14 _ ?_
   clear hK14
   refine aw_ops zT fun K15 hK15 => ?_
   refine sg ?_
   refine ⟨_, hF y hmem z, ?_⟩
   refine sgl ?_
   refine hK15 _ ?_
   clear hK15
   refine aw_cond rfl (fun h1 => ?_) (fun h1 => ?_)
   ·
    refine aw_ops zT fun K16 hK16 => ?_
    refine sg ?_
    refine hK16 _ ?_
    clear hK16
    refine aw_ret ?_
    show resOf zG _ [.tmp 6] = some _
    simp only [amset, amlib, zset, eq_self, ↓reduceIte, reduceCtorEq, Nat.reduceBEq, reduceEqDiff, reduceAdd, reduceMul, reduceLeDiff, reduceLT, reduceSub]
    rw [harg, hz, all2_fail hzl.symm (by simpa using h1)]
   ·
    refine aw_skip ?_
    simp only [thenQ, blkQ, if_true, reduceIte, Nat.reduceEqDiff, eq_self]
    refine hK12 _ ?_
    clear hK12
    refine aw_region zT ?_
    refine sg ?_
    refine ⟨⟨by omega, by omega⟩, ?_⟩
    refine hR _ (by rw [show (dn ++ [y]).length = dn.length + 1 by simp, take_snoc hz hzl, all2_snoc hzl.symm, hI, Bool.true_and]; simpa using h1) ?_
    refine Reach.to ?_ ?_
    ·
     simp only [amset, amlib, zset, eq_self, ↓reduceIte, reduceCtorEq, Nat.reduceBEq, reduceEqDiff, reduceAdd, reduceMul, reduceLeDiff, reduceLT, reduceSub] <;> simp [eq_self]
    ·
     simp only [amset, amlib, zset, eq_self, ↓reduceIte, reduceCtorEq, Nat.reduceBEq, reduceEqDiff, reduceAdd, reduceMul, reduceLeDiff, reduceLT, reduceSub] <;> simp [eq_self]
theorem prog109 : Tryz.prog.funcs[109]? = some Tryz.f109 := by kernel_rfl
theorem holds109 (l m : List (List UInt8)) : Holds Tryz.prog zG 109 [.c (.sl 1 (encStrs l)), .c (.sl 1 (encStrs m))] [.c (.bool (all2 eqStr l m))] := by
 refine holds_of_body zT prog109 rfl rfl rfl (by simp [Tryz.f109]) ?_
 refine aw_ops zT fun K1 hK1 => ?_
 refine sg ?_
 refine hK1 _ ?_
 clear hK1
 refine aw_seq fun K2 hK2 => ?_
 refine aw_ops zT fun K3 hK3 => ?_
 refine sg ?_
 intros
 intros
 refine hK3 _ ?_
 clear hK3
 refine aw_cond rfl (fun h0 => ?_) (fun h0 => ?_)
 ·
  refine aw_ops zT fun K4 hK4 => ?_
  refine sg ?_
  refine hK4 _ ?_
  clear hK4
  refine aw_ret ?_
  show resOf zG _ [.tmp 4] = some _
  simp only [amset, amlib, zset, eq_self, ↓reduceIte, reduceCtorEq, Nat.reduceBEq, reduceEqDiff, reduceAdd, reduceMul, reduceLeDiff, reduceLT, reduceSub]
  rw [all2_ne (by simpa using h0)]
 ·
  refine aw_skip ?_
  simp only [thenQ, blkQ, if_true, reduceIte, Nat.reduceEqDiff, eq_self]
  refine hK2 _ ?_
  clear hK2
  refine aw_seq fun K5 hK5 => ?_
  refine aw_ops zT fun K6 hK6 => ?_
  refine sg ?_
  intros
  refine hK6 _ ?_
  clear hK6
  refine aw_block ?_
  refine aw_range (α := (List UInt8)) (l) (fun dn => all2 eqStr dn (m.take dn.length) = true) (fun dn => [(13, .cell (.c (.int .i64 dn.length)))]) (fun dn => []) [] [4, 5, 13, 14, 15, 16, 17, 18, 19, 20, 21, 22, 23, 24, 25] [] rfl ?_ ?_ ?_ ?_
  ·
   simp only [amset, amlib, zset, eq_self, ↓reduceIte, reduceCtorEq, Nat.reduceBEq, reduceEqDiff, reduceAdd, reduceMul, reduceLeDiff, reduceLT, reduceSub] <;> simp [eq_self]
  ·
   simp only [amset, amlib, zset, eq_self, ↓reduceIte, reduceCtorEq, Nat.reduceBEq, reduceEqDiff, reduceAdd, reduceMul, reduceLeDiff, reduceLT, reduceSub] <;> simp [eq_self]
  ·
   intro hI R
   refine aw_nm ?_
   refine aw_ops zT fun K7 hK7 => ?_
   refine sg ?_
   refine hK7 _ ?_
   clear hK7
   refine aw_seq fun K8 hK8 => ?_
   refine aw_cond (t := false) (by simp [evalO, S.get, amLook]) (fun h => nomatch h) (fun _ => ?_)
   refine aw_exit ?_
   simp only [thenQ, blkQ, if_true, reduceIte, Nat.reduceEqDiff, eq_self]
   refine hK5 _ ?_
   clear hK5
   refine aw_ops zT fun K9 hK9 => ?_
   refine sg ?_
   refine hK9 _ ?_
   clear hK9
   refine aw_ret ?_
   show resOf zG _ [.tmp 4] = some _
   refine sg ?_
   have h5 : m.length = l.length := by simp at h0; omega
   rw [← h5, List.take_length] at hI
   rw [hI]
  ·
   intro dn y td harg hI R hR
   have hl : (l).length = dn.length + (td.length + 1) := by rw [harg]; simp
   have hmem : y ∈ l := by rw [harg]; simp
   refine aw_nm ?_
   have hget : (encStrs (l)).getD dn.length [] = encStr y := by rw [harg]; exact encStrs_mid dn td y
   have hlen2 : dn.length < m.length := by simp at h0; omega
   obtain ⟨z, rz, hz, hzm, hzl⟩ := at_same (a := m) dn.length hlen2
   have hget2 : (encStrs m).getD dn.length [] = encStr z := by
    have := encStrs_mid (m.take dn.length) rz z
    rw [← hz, hzl] at this
    exact this
   refine aw_ops zT fun K10 hK10 => ?_
   refine sg ?_
   refine hK10 _ ?_
   clear hK10
   refine aw_seq fun K11 hK11 => ?_
   refine aw_cond (t := true) (by simp [evalO, S.get, amLook]; omega) (fun _ => ?_) (fun h => nomatch h)
   refine aw_skip ?_
   simp only [thenQ, blkQ, if_true, reduceIte, Nat.reduceEqDiff, eq_self]
   refine hK11 _ ?_
   clear hK11
   refine aw_seq fun K12 hK12 => ?_
   refine aw_block ?_
   refine aw_ops zT fun K13 hK13 => ?_
   refine sg ?_
   refine hK13 _ ?_
   clear hK13
   refine aw_draw zT prog_mixed fun K14 hK14 => ?_
   simp only [amset, amlib, zset, hget, hget2, eq_self, ↓reduceIte, reduceCtorEq, Nat.reduceBEq, reduceEqDiff, reduceAdd, reduceMul, reduceLeDiff, reduceLT, reduceSub]
   refine ⟨⟨by omega, by omega⟩, ?_⟩
   refine ⟨⟨by omega, by omega⟩, ?_⟩
   refine ⟨by kernel_rfl, ?_⟩
   refine hK14 _ ?_
   clear hK14
   refine aw_cond rfl (fun h1 => ?_) (fun h1 => ?_)
   ·
    refine aw_ops zT fun K15 hK15 => ?_
    refine sg ?_
    refine hK15 _ ?_
    clear hK15
    refine aw_ret ?_
    show resOf zG _ [.tmp 4] = some _
    simp only [amset, amlib, zset, eq_self, ↓reduceIte, reduceCtorEq, Nat.reduceBEq, reduceEqDiff, reduceAdd, reduceMul, reduceLeDiff, reduceLT, reduceSub]
    rw [harg, hz, all2_fail hzl.symm (by simpa [eqStr] using h1)]
   ·
    refine aw_skip ?_
    simp only [thenQ, blkQ, if_true, reduceIte, Nat.reduceEqDiff, eq_self]
    refine hK12 _ ?_
    clear hK12
    refine aw_region zT ?_
    refine sg ?_
    refine ⟨⟨by omega, by omega⟩, ?_⟩
    refine hR _ (by rw [show (dn ++ [y]).length = dn.length + 1 by simp, take_snoc hz hzl, all2_snoc hzl.symm, hI, Bool.true_and]; simpa [eqStr] using h1) ?_
    refine Reach.to ?_ ?_
    ·
     simp only [amset, amlib, zset, eq_self, ↓reduceIte, reduceCtorEq, Nat.reduceBEq, reduceEqDiff, reduceAdd, reduceMul, reduceLeDiff, reduceLT, reduceSub] <;> simp [eq_self]
    ·
     simp only [amset, amlib, zset, eq_self, ↓reduceIte, reduceCtorEq, Nat.reduceBEq, reduceEqDiff, reduceAdd, reduceMul, reduceLeDiff, reduceLT, reduceSub] <;> simp [eq_self]
theorem prog106 : Tryz.prog.funcs[106]? = some Tryz.f106 := by kernel_rfl
theorem holds106 (x y : Cn) : Holds Tryz.prog zG 106 [.agg [.str x.name, .int .i16 x.value, .int .i64 x.pos], .agg [.str y.name, .int .i16 y.value, .int .i64 y.pos]] [.c (.bool (eqC x y))] := by
 refine holds_of_body zT prog106 rfl rfl rfl (by simp [Tryz.f106]) ?_
 refine aw_ops zT fun K1 hK1 => ?_
 refine sg ?_
 refine hK1 _ ?_
 clear hK1
 refine aw_ops zT fun K2 hK2 => ?_
 cases e0 : (x.name == y.name) with
 | true =>
  cases e1 : (x.value == y.value) with
  | true =>
   simp only [amset, amlib, zset, e0, e1, eq_self, ↓reduceIte, reduceCtorEq, Nat.reduceBEq, reduceEqDiff, reduceAdd, reduceMul, reduceLeDiff, reduceLT, reduceSub]
   refine hK2 _ ?_
   clear hK2
   refine aw_ret ?_
   show resOf zG _ [.tmp 4] = some _
   simp only [amset, amlib, zset, eq_self, ↓reduceIte, reduceCtorEq, Nat.reduceBEq, reduceEqDiff, reduceAdd, reduceMul, reduceLeDiff, reduceLT, reduceSub]
   simp only [eqC, e0, e1, bools, ↓reduceIte]
  | false =>
   simp only [amset, amlib, zset, e0, e1, eq_self, ↓reduceIte, reduceCtorEq, Nat.reduceBEq, reduceEqDiff, reduceAdd, reduceMul, reduceLeDiff, reduceLT, reduceSub]
   refine hK2 _ ?_
   clear hK2
   refine aw_ret ?_
   show resOf zG _ [.tmp 4] = some _
   simp only [amset, amlib, zset, eq_self, ↓reduceIte, reduceCtorEq, Nat.reduceBEq, reduceEqDiff, reduceAdd, reduceMul, reduceLeDiff, reduceLT, reduceSub]
   simp only [eqC, e0, e1, bools, ↓reduceIte]
 | false =>
  simp only [amset, amlib, zset, e0, eq_self, ↓reduceIte, reduceCtorEq, Nat.reduceBEq, reduceEqDiff, reduceAdd, reduceMul, reduceLeDiff, reduceLT, reduceSub]
  refine hK2 _ ?_
  clear hK2
  refine aw_ret ?_
  show resOf zG _ [.tmp 4] = some _
  simp only [amset, amlib, zset, eq_self, ↓reduceIte, reduceCtorEq, Nat.reduceBEq, reduceEqDiff, reduceAdd, reduceMul, reduceLeDiff, reduceLT, reduceSub]
  simp only [eqC, e0, bools, ↓reduceIte]
theorem prog108 : Tryz.prog.funcs[108]? = some Tryz.f108 := by kernel_rfl
theorem holds108 (x y : Gl) : Holds Tryz.prog zG 108 [.agg [.str x.name, .int .i64 x.len, .int .i16 x.init, .int .i64 x.pos], .agg [.str y.name, .int .i64 y.len, .int .i16 y.init, .int .i64 y.pos]] [.c (.bool (eqG x y))] := by
 refine holds_of_body zT prog108 rfl rfl rfl (by simp [Tryz.f108]) ?_
 refine aw_ops zT fun K1 hK1 => ?_
 refine sg ?_
 refine hK1 _ ?_
 clear hK1
 refine aw_ops zT fun K2 hK2 => ?_
 cases e0 : (x.name == y.name) with
 | true =>
  cases e1 : (x.len == y.len) with
  | true =>
   cases e2 : (x.init == y.init) with
   | true =>
    simp only [amset, amlib, zset, e0, e1, e2, eq_self, ↓reduceIte, reduceCtorEq, Nat.reduceBEq, reduceEqDiff, reduceAdd, reduceMul, reduceLeDiff, reduceLT, reduceSub]
    refine hK2 _ ?_
    clear hK2
    refine aw_ret ?_
    show resOf zG _ [.tmp 4] = some _
    simp only [amset, amlib, zset, eq_self, ↓reduceIte, reduceCtorEq, Nat.reduceBEq, reduceEqDiff, reduceAdd, reduceMul, reduceLeDiff, reduceLT, reduceSub]
    simp only [eqG, e0, e1, e2, bools, ↓reduceIte]
   | false =>
    simp only [amset, amlib, zset, e0, e1, e2, eq_self, ↓reduceIte, reduceCtorEq, Nat.reduceBEq, reduceEqDiff, reduceAdd, reduceMul, reduceLeDiff, reduceLT, reduceSub]
    refine hK2 _ ?_
    clear hK2
    refine aw_ret ?_
    show resOf zG _ [.tmp 4] = some _
    simp only [amset, amlib, zset, eq_self, ↓reduceIte, reduceCtorEq, Nat.reduceBEq, reduceEqDiff, reduceAdd, reduceMul, reduceLeDiff, reduceLT, reduceSub]
    simp only [eqG, e0, e1, e2, bools, ↓reduceIte]
  | false =>
   simp only [amset, amlib, zset, e0, e1, eq_self, ↓reduceIte, reduceCtorEq, Nat.reduceBEq, reduceEqDiff, reduceAdd, reduceMul, reduceLeDiff, reduceLT, reduceSub]
   refine hK2 _ ?_
   clear hK2
   refine aw_ret ?_
   show resOf zG _ [.tmp 4] = some _
   simp only [amset, amlib, zset, eq_self, ↓reduceIte, reduceCtorEq, Nat.reduceBEq, reduceEqDiff, reduceAdd, reduceMul, reduceLeDiff, reduceLT, reduceSub]
   simp only [eqG, e0, e1, bools, ↓reduceIte]
 | false =>
  simp only [amset, amlib, zset, e0, eq_self, ↓reduceIte, reduceCtorEq, Nat.reduceBEq, reduceEqDiff, reduceAdd, reduceMul, reduceLeDiff, reduceLT, reduceSub]
  refine hK2 _ ?_
  clear hK2
  refine aw_ret ?_
  show resOf zG _ [.tmp 4] = some _
  simp only [amset, amlib, zset, eq_self, ↓reduceIte, reduceCtorEq, Nat.reduceBEq, reduceEqDiff, reduceAdd, reduceMul, reduceLeDiff, reduceLT, reduceSub]
  simp only [eqG, e0, bools, ↓reduceIte]
theorem prog111 : Tryz.prog.funcs[111]? = some Tryz.f111 := by kernel_rfl
theorem holds111 (x y : Ch) : Holds Tryz.prog zG 111 [.agg [.str x.name, .int .i64 x.cap, .int .i64 x.pos], .agg [.str y.name, .int .i64 y.cap, .int .i64 y.pos]] [.c (.bool (eqH x y))] := by
 refine holds_of_body zT prog111 rfl rfl rfl (by simp [Tryz.f111]) ?_
 refine aw_ops zT fun K1 hK1 => ?_
 refine sg ?_
 refine hK1 _ ?_
 clear hK1
 refine aw_ops zT fun K2 hK2 => ?_
 cases e0 : (x.name == y.name) with
 | true =>
  cases e1 : (x.cap == y.cap) with
  | true =>
   simp only [amset, amlib, zset, e0, e1, eq_self, ↓reduceIte, reduceCtorEq, Nat.reduceBEq, reduceEqDiff, reduceAdd, reduceMul, reduceLeDiff, reduceLT, reduceSub]
   refine hK2 _ ?_
   clear hK2
   refine aw_ret ?_
   show resOf zG _ [.tmp 4] = some _
   simp only [amset, amlib, zset, eq_self, ↓reduceIte, reduceCtorEq, Nat.reduceBEq, reduceEqDiff, reduceAdd, reduceMul, reduceLeDiff, reduceLT, reduceSub]
   simp only [eqH, e0, e1, bools, ↓reduceIte]
  | false =>
   simp only [amset, amlib, zset, e0, e1, eq_self, ↓reduceIte, reduceCtorEq, Nat.reduceBEq, reduceEqDiff, reduceAdd, reduceMul, reduceLeDiff, reduceLT, reduceSub]
   refine hK2 _ ?_
   clear hK2
   refine aw_ret ?_
   show resOf zG _ [.tmp 4] = some _
   simp only [amset, amlib, zset, eq_self, ↓reduceIte, reduceCtorEq, Nat.reduceBEq, reduceEqDiff, reduceAdd, reduceMul, reduceLeDiff, reduceLT, reduceSub]
   simp only [eqH, e0, e1, bools, ↓reduceIte]
 | false =>
  simp only [amset, amlib, zset, e0, eq_self, ↓reduceIte, reduceCtorEq, Nat.reduceBEq, reduceEqDiff, reduceAdd, reduceMul, reduceLeDiff, reduceLT, reduceSub]
  refine hK2 _ ?_
  clear hK2
  refine aw_ret ?_
  show resOf zG _ [.tmp 4] = some _
  simp only [amset, amlib, zset, eq_self, ↓reduceIte, reduceCtorEq, Nat.reduceBEq, reduceEqDiff, reduceAdd, reduceMul, reduceLeDiff, reduceLT, reduceSub]
  simp only [eqH, e0, bools, ↓reduceIte]
theorem prog41 : Tryz.prog.funcs[41]? = some Tryz.f41 := by kernel_rfl
theorem step41 (x y : Ex) (ih : ∀ z ∈ x.args, ∀ w, Holds Tryz.prog zG 41 [.agg [.int .i64 z.kind, .str z.name, .int .i16 z.value, .int .i64 z.op, .sl 6 (encEs z.args), .int .i64 z.pos], .agg [.int .i64 w.kind, .str w.name, .int .i16 w.value, .int .i64 w.op, .sl 6 (encEs w.args), .int .i64 w.pos]] [.c (.bool (eqE z w))]) : Holds Tryz.prog zG 41 [.agg [.int .i64 x.kind, .str x.name, .int .i16 x.value, .int .i64 x.op, .sl 6 (encEs x.args), .int .i64 x.pos], .agg [.int .i64 y.kind, .str y.name, .int .i16 y.value, .int .i64 y.op, .sl 6 (encEs y.args), .int .i64 y.pos]] [.c (.bool (eqE x y))] := by
 refine holds_of_body zT prog41 rfl rfl rfl (by simp [Tryz.f41]) ?_
 refine aw_ops zT fun K1 hK1 => ?_
 refine sg ?_
 refine hK1 _ ?_
 clear hK1
 refine aw_ops zT fun K2 hK2 => ?_
 cases e0 : (x.kind == y.kind) with
 | true =>
  cases e1 : (x.name == y.name) with
  | true =>
   cases e2 : (x.value == y.value) with
   | true =>
    cases e3 : (x.op == y.op) with
    | true =>
     simp only [amset, amlib, zset, e0, e1, e2, e3, eq_self, ↓reduceIte, reduceCtorEq, Nat.reduceBEq, reduceEqDiff, reduceAdd, reduceMul, reduceLeDiff, reduceLT, reduceSub]
     refine ⟨_, holds115 41 eqE x.args y.args ih, ?_⟩
     simp only [later]
     simp only [amset, amlib, zset, e0, e1, e2, e3, eq_self, ↓reduceIte, reduceCtorEq, Nat.reduceBEq, reduceEqDiff, reduceAdd, reduceMul, reduceLeDiff, reduceLT, reduceSub]
     refine hK2 _ ?_
     clear hK2
     refine aw_ret ?_
     show resOf zG _ [.tmp 4] = some _
     simp only [amset, amlib, zset, eq_self, ↓reduceIte, reduceCtorEq, Nat.reduceBEq, reduceEqDiff, reduceAdd, reduceMul, reduceLeDiff, reduceLT, reduceSub]
     simp only [eqE_eq, all2_eqE, e0, e1, e2, e3, bools, ↓reduceIte]
    | false =>
     simp only [amset, amlib, zset, e0, e1, e2, e3, eq_self, ↓reduceIte, reduceCtorEq, Nat.reduceBEq, reduceEqDiff, reduceAdd, reduceMul, reduceLeDiff, reduceLT, reduceSub]
     refine hK2 _ ?_
     clear hK2
     refine aw_ret ?_
     show resOf zG _ [.tmp 4] = some _
     simp only [amset, amlib, zset, eq_self, ↓reduceIte, reduceCtorEq, Nat.reduceBEq, reduceEqDiff, reduceAdd, reduceMul, reduceLeDiff, reduceLT, reduceSub]
     simp only [eqE_eq, all2_eqE, e0, e1, e2, e3, bools, ↓reduceIte]
   | false =>
    simp only [amset, amlib, zset, e0, e1, e2, eq_self, ↓reduceIte, reduceCtorEq, Nat.reduceBEq, reduceEqDiff, reduceAdd, reduceMul, reduceLeDiff, reduceLT, reduceSub]
    refine hK2 _ ?_
    clear hK2
    refine aw_ret ?_
    show resOf zG _ [.tmp 4] = some _
    simp only [amset, amlib, zset, eq_self, ↓reduceIte, reduceCtorEq, Nat.reduceBEq, reduceEqDiff, reduceAdd, reduceMul, reduceLeDiff, reduceLT, reduceSub]
    simp only [eqE_eq, all2_eqE, e0, e1, e2, bools, ↓reduceIte]
  | false =>
   simp only [amset, amlib, zset, e0, e1, eq_self, ↓reduceIte, reduceCtorEq, Nat.reduceBEq, reduceEqDiff, reduceAdd, reduceMul, reduceLeDiff, reduceLT, reduceSub]
   refine hK2 _ ?_
   clear hK2
   refine aw_ret ?_
   show resOf zG _ [.tmp 4] = some _
   simp only [amset, amlib, zset, eq_self, ↓reduceIte, reduceCtorEq, Nat.reduceBEq, reduceEqDiff, reduceAdd, reduceMul, reduceLeDiff, reduceLT, reduceSub]
   simp only [eqE_eq, all2_eqE, e0, e1, bools, ↓reduceIte]
 | false =>
  simp only [amset, amlib, zset, e0, eq_self, ↓reduceIte, reduceCtorEq, Nat.reduceBEq, reduceEqDiff, reduceAdd, reduceMul, reduceLeDiff, reduceLT, reduceSub]
  refine hK2 _ ?_
  clear hK2
  refine aw_ret ?_
  show resOf zG _ [.tmp 4] = some _
  simp only [amset, amlib, zset, eq_self, ↓reduceIte, reduceCtorEq, Nat.reduceBEq, reduceEqDiff, reduceAdd, reduceMul, reduceLeDiff, reduceLT, reduceSub]
  simp only [eqE_eq, all2_eqE, e0, bools, ↓reduceIte]
theorem holds41 (x y : Ex) : Holds Tryz.prog zG 41 [.agg [.int .i64 x.kind, .str x.name, .int .i16 x.value, .int .i64 x.op, .sl 6 (encEs x.args), .int .i64 x.pos], .agg [.int .i64 y.kind, .str y.name, .int .i16 y.value, .int .i64 y.op, .sl 6 (encEs y.args), .int .i64 y.pos]] [.c (.bool (eqE x y))] := step41 x y fun z hz w => holds41 z w
  termination_by SizeOf.sizeOf x
  decreasing_by exact Ex.args_lt hz
theorem prog176 : Tryz.prog.funcs[176]? = some Tryz.f176 := by kernel_rfl
theorem step176 (x y : St) (ih : ∀ z ∈ x.body, ∀ w, Holds Tryz.prog zG 176 [.agg [.int .i64 z.kind, .str z.name, .int .i64 z.n, .sl 6 (encEs z.args), .sl 7 (encSs z.body), .sl 7 (encSs z.els), .int .i64 z.pos], .agg [.int .i64 w.kind, .str w.name, .int .i64 w.n, .sl 6 (encEs w.args), .sl 7 (encSs w.body), .sl 7 (encSs w.els), .int .i64 w.pos]] [.c (.bool (eqS z w))]) (ihe : ∀ z ∈ x.els, ∀ w, Holds Tryz.prog zG 176 [.agg [.int .i64 z.kind, .str z.name, .int .i64 z.n, .sl 6 (encEs z.args), .sl 7 (encSs z.body), .sl 7 (encSs z.els), .int .i64 z.pos], .agg [.int .i64 w.kind, .str w.name, .int .i64 w.n, .sl 6 (encEs w.args), .sl 7 (encSs w.body), .sl 7 (encSs w.els), .int .i64 w.pos]] [.c (.bool (eqS z w))]) : Holds Tryz.prog zG 176 [.agg [.int .i64 x.kind, .str x.name, .int .i64 x.n, .sl 6 (encEs x.args), .sl 7 (encSs x.body), .sl 7 (encSs x.els), .int .i64 x.pos], .agg [.int .i64 y.kind, .str y.name, .int .i64 y.n, .sl 6 (encEs y.args), .sl 7 (encSs y.body), .sl 7 (encSs y.els), .int .i64 y.pos]] [.c (.bool (eqS x y))] := by
 refine holds_of_body zT prog176 rfl rfl rfl (by simp [Tryz.f176]) ?_
 refine aw_ops zT fun K1 hK1 => ?_
 refine sg ?_
 refine hK1 _ ?_
 clear hK1
 refine aw_ops zT fun K2 hK2 => ?_
 cases e0 : (x.kind == y.kind) with
 | true =>
  cases e1 : (x.name == y.name) with
  | true =>
   cases e2 : (x.n == y.n) with
   | true =>
    cases e3 : (all2 eqE x.args y.args) with
    | true =>
     cases e4 : (all2 eqS x.body y.body) with
     | true =>
      simp only [amset, amlib, zset, e0, e1, e2, e3, e4, eq_self, ↓reduceIte, reduceCtorEq, Nat.reduceBEq, reduceEqDiff, reduceAdd, reduceMul, reduceLeDiff, reduceLT, reduceSub]
      refine ⟨_, holds115 41 eqE x.args y.args fun z _ w => holds41 z w, ?_⟩
      simp only [later]
      simp only [amset, amlib, zset, e0, e1, e2, e3, e4, eq_self, ↓reduceIte, reduceCtorEq, Nat.reduceBEq, reduceEqDiff, reduceAdd, reduceMul, reduceLeDiff, reduceLT, reduceSub]
      refine ⟨_, holds175 176 eqS x.body y.body ih, ?_⟩
      simp only [later]
      simp only [amset, amlib, zset, e0, e1, e2, e3, e4, eq_self, ↓reduceIte, reduceCtorEq, Nat.reduceBEq, reduceEqDiff, reduceAdd, reduceMul, reduceLeDiff, reduceLT, reduceSub]
      refine ⟨_, holds175 176 eqS x.els y.els ihe, ?_⟩
      simp only [later]
      simp only [amset, amlib, zset, e0, e1, e2, e3, e4, eq_self, ↓reduceIte, reduceCtorEq, Nat.reduceBEq, reduceEqDiff, reduceAdd, reduceMul, reduceLeDiff, reduceLT, reduceSub]
      refine hK2 _ ?_
      clear hK2
      refine aw_ret ?_
      show resOf zG _ [.tmp 4] = some _
      simp only [amset, amlib, zset, eq_self, ↓reduceIte, reduceCtorEq, Nat.reduceBEq, reduceEqDiff, reduceAdd, reduceMul, reduceLeDiff, reduceLT, reduceSub]
      simp only [eqS_eq, ← all2_eqE, ← all2_eqS, e0, e1, e2, e3, e4, bools, ↓reduceIte]
     | false =>
      simp only [amset, amlib, zset, e0, e1, e2, e3, e4, eq_self, ↓reduceIte, reduceCtorEq, Nat.reduceBEq, reduceEqDiff, reduceAdd, reduceMul, reduceLeDiff, reduceLT, reduceSub]
      refine ⟨_, holds115 41 eqE x.args y.args fun z _ w => holds41 z w, ?_⟩
      simp only [later]
      simp only [amset, amlib, zset, e0, e1, e2, e3, e4, eq_self, ↓reduceIte, reduceCtorEq, Nat.reduceBEq, reduceEqDiff, reduceAdd, reduceMul, reduceLeDiff, reduceLT, reduceSub]
      refine ⟨_, holds175 176 eqS x.body y.body ih, ?_⟩
      simp only [later]
      simp only [amset, amlib, zset, e0, e1, e2, e3, e4, eq_self, ↓reduceIte, reduceCtorEq, Nat.reduceBEq, reduceEqDiff, reduceAdd, reduceMul, reduceLeDiff, reduceLT, reduceSub]
      refine hK2 _ ?_
      clear hK2
      refine aw_ret ?_
      show resOf zG _ [.tmp 4] = some _
      simp only [amset, amlib, zset, eq_self, ↓reduceIte, reduceCtorEq, Nat.reduceBEq, reduceEqDiff, reduceAdd, reduceMul, reduceLeDiff, reduceLT, reduceSub]
      simp only [eqS_eq, ← all2_eqE, ← all2_eqS, e0, e1, e2, e3, e4, bools, ↓reduceIte]
    | false =>
     simp only [amset, amlib, zset, e0, e1, e2, e3, eq_self, ↓reduceIte, reduceCtorEq, Nat.reduceBEq, reduceEqDiff, reduceAdd, reduceMul, reduceLeDiff, reduceLT, reduceSub]
     refine ⟨_, holds115 41 eqE x.args y.args fun z _ w => holds41 z w, ?_⟩
     simp only [later]
     simp only [amset, amlib, zset, e0, e1, e2, e3, eq_self, ↓reduceIte, reduceCtorEq, Nat.reduceBEq, reduceEqDiff, reduceAdd, reduceMul, reduceLeDiff, reduceLT, reduceSub]
     refine hK2 _ ?_
     clear hK2
     refine aw_ret ?_
     show resOf zG _ [.tmp 4] = some _
     simp only [amset, amlib, zset, eq_self, ↓reduceIte, reduceCtorEq, Nat.reduceBEq, reduceEqDiff, reduceAdd, reduceMul, reduceLeDiff, reduceLT, reduceSub]
     simp only [eqS_eq, ← all2_eqE, ← all2_eqS, e0, e1, e2, e3, bools, ↓reduceIte]
   | false =>
    simp only [amset, amlib, zset, e0, e1, e2, eq_self, ↓reduceIte, reduceCtorEq, Nat.reduceBEq, reduceEqDiff, reduceAdd, reduceMul, reduceLeDiff, reduceLT, reduceSub]
    refine hK2 _ ?_
    clear hK2
    refine aw_ret ?_
    show resOf zG _ [.tmp 4] = some _
    simp only [amset, amlib, zset, eq_self, ↓reduceIte, reduceCtorEq, Nat.reduceBEq, reduceEqDiff, reduceAdd, reduceMul, reduceLeDiff, reduceLT, reduceSub]
    simp only [eqS_eq, ← all2_eqE, ← all2_eqS, e0, e1, e2, bools, ↓reduceIte]
  | false =>
   simp only [amset, amlib, zset, e0, e1, eq_self, ↓reduceIte, reduceCtorEq, Nat.reduceBEq, reduceEqDiff, reduceAdd, reduceMul, reduceLeDiff, reduceLT, reduceSub]
   refine hK2 _ ?_
   clear hK2
   refine aw_ret ?_
   show resOf zG _ [.tmp 4] = some _
   simp only [amset, amlib, zset, eq_self, ↓reduceIte, reduceCtorEq, Nat.reduceBEq, reduceEqDiff, reduceAdd, reduceMul, reduceLeDiff, reduceLT, reduceSub]
   simp only [eqS_eq, ← all2_eqE, ← all2_eqS, e0, e1, bools, ↓reduceIte]
 | false =>
  simp only [amset, amlib, zset, e0, eq_self, ↓reduceIte, reduceCtorEq, Nat.reduceBEq, reduceEqDiff, reduceAdd, reduceMul, reduceLeDiff, reduceLT, reduceSub]
  refine hK2 _ ?_
  clear hK2
  refine aw_ret ?_
  show resOf zG _ [.tmp 4] = some _
  simp only [amset, amlib, zset, eq_self, ↓reduceIte, reduceCtorEq, Nat.reduceBEq, reduceEqDiff, reduceAdd, reduceMul, reduceLeDiff, reduceLT, reduceSub]
  simp only [eqS_eq, ← all2_eqE, ← all2_eqS, e0, bools, ↓reduceIte]
theorem holds176 (x y : St) : Holds Tryz.prog zG 176 [.agg [.int .i64 x.kind, .str x.name, .int .i64 x.n, .sl 6 (encEs x.args), .sl 7 (encSs x.body), .sl 7 (encSs x.els), .int .i64 x.pos], .agg [.int .i64 y.kind, .str y.name, .int .i64 y.n, .sl 6 (encEs y.args), .sl 7 (encSs y.body), .sl 7 (encSs y.els), .int .i64 y.pos]] [.c (.bool (eqS x y))] := step176 x y (fun z hz w => holds176 z w) (fun z hz w => holds176 z w)
  termination_by SizeOf.sizeOf x
  decreasing_by
 ·
  exact St.body_lt hz
 ·
  exact St.els_lt hz
theorem prog113 : Tryz.prog.funcs[113]? = some Tryz.f113 := by kernel_rfl
theorem holds113 (x y : Tk) : Holds Tryz.prog zG 113 [.agg [.str x.name, .int .i64 x.period, .int .i64 x.deadline, .str x.channel, .str x.param, .int .i64 x.within, .sl 7 (encSs x.body), .int .i64 x.pos], .agg [.str y.name, .int .i64 y.period, .int .i64 y.deadline, .str y.channel, .str y.param, .int .i64 y.within, .sl 7 (encSs y.body), .int .i64 y.pos]] [.c (.bool (eqT x y))] := by
 refine holds_of_body zT prog113 rfl rfl rfl (by simp [Tryz.f113]) ?_
 refine aw_ops zT fun K1 hK1 => ?_
 refine sg ?_
 refine hK1 _ ?_
 clear hK1
 refine aw_ops zT fun K2 hK2 => ?_
 cases e0 : (x.name == y.name) with
 | true =>
  cases e1 : (x.period == y.period) with
  | true =>
   cases e2 : (x.deadline == y.deadline) with
   | true =>
    cases e3 : (x.channel == y.channel) with
    | true =>
     cases e4 : (x.param == y.param) with
     | true =>
      cases e5 : (x.within == y.within) with
      | true =>
       simp only [amset, amlib, zset, e0, e1, e2, e3, e4, e5, eq_self, ↓reduceIte, reduceCtorEq, Nat.reduceBEq, reduceEqDiff, reduceAdd, reduceMul, reduceLeDiff, reduceLT, reduceSub]
       refine ⟨_, holds175 176 eqS x.body y.body fun z _ w => holds176 z w, ?_⟩
       simp only [later]
       simp only [amset, amlib, zset, e0, e1, e2, e3, e4, e5, eq_self, ↓reduceIte, reduceCtorEq, Nat.reduceBEq, reduceEqDiff, reduceAdd, reduceMul, reduceLeDiff, reduceLT, reduceSub]
       refine hK2 _ ?_
       clear hK2
       refine aw_ret ?_
       show resOf zG _ [.tmp 4] = some _
       simp only [amset, amlib, zset, eq_self, ↓reduceIte, reduceCtorEq, Nat.reduceBEq, reduceEqDiff, reduceAdd, reduceMul, reduceLeDiff, reduceLT, reduceSub]
       simp only [eqT, all2_eqS, e0, e1, e2, e3, e4, e5, bools, ↓reduceIte]
      | false =>
       simp only [amset, amlib, zset, e0, e1, e2, e3, e4, e5, eq_self, ↓reduceIte, reduceCtorEq, Nat.reduceBEq, reduceEqDiff, reduceAdd, reduceMul, reduceLeDiff, reduceLT, reduceSub]
       refine hK2 _ ?_
       clear hK2
       refine aw_ret ?_
       show resOf zG _ [.tmp 4] = some _
       simp only [amset, amlib, zset, eq_self, ↓reduceIte, reduceCtorEq, Nat.reduceBEq, reduceEqDiff, reduceAdd, reduceMul, reduceLeDiff, reduceLT, reduceSub]
       simp only [eqT, all2_eqS, e0, e1, e2, e3, e4, e5, bools, ↓reduceIte]
     | false =>
      simp only [amset, amlib, zset, e0, e1, e2, e3, e4, eq_self, ↓reduceIte, reduceCtorEq, Nat.reduceBEq, reduceEqDiff, reduceAdd, reduceMul, reduceLeDiff, reduceLT, reduceSub]
      refine hK2 _ ?_
      clear hK2
      refine aw_ret ?_
      show resOf zG _ [.tmp 4] = some _
      simp only [amset, amlib, zset, eq_self, ↓reduceIte, reduceCtorEq, Nat.reduceBEq, reduceEqDiff, reduceAdd, reduceMul, reduceLeDiff, reduceLT, reduceSub]
      simp only [eqT, all2_eqS, e0, e1, e2, e3, e4, bools, ↓reduceIte]
    | false =>
     simp only [amset, amlib, zset, e0, e1, e2, e3, eq_self, ↓reduceIte, reduceCtorEq, Nat.reduceBEq, reduceEqDiff, reduceAdd, reduceMul, reduceLeDiff, reduceLT, reduceSub]
     refine hK2 _ ?_
     clear hK2
     refine aw_ret ?_
     show resOf zG _ [.tmp 4] = some _
     simp only [amset, amlib, zset, eq_self, ↓reduceIte, reduceCtorEq, Nat.reduceBEq, reduceEqDiff, reduceAdd, reduceMul, reduceLeDiff, reduceLT, reduceSub]
     simp only [eqT, all2_eqS, e0, e1, e2, e3, bools, ↓reduceIte]
   | false =>
    simp only [amset, amlib, zset, e0, e1, e2, eq_self, ↓reduceIte, reduceCtorEq, Nat.reduceBEq, reduceEqDiff, reduceAdd, reduceMul, reduceLeDiff, reduceLT, reduceSub]
    refine hK2 _ ?_
    clear hK2
    refine aw_ret ?_
    show resOf zG _ [.tmp 4] = some _
    simp only [amset, amlib, zset, eq_self, ↓reduceIte, reduceCtorEq, Nat.reduceBEq, reduceEqDiff, reduceAdd, reduceMul, reduceLeDiff, reduceLT, reduceSub]
    simp only [eqT, all2_eqS, e0, e1, e2, bools, ↓reduceIte]
  | false =>
   simp only [amset, amlib, zset, e0, e1, eq_self, ↓reduceIte, reduceCtorEq, Nat.reduceBEq, reduceEqDiff, reduceAdd, reduceMul, reduceLeDiff, reduceLT, reduceSub]
   refine hK2 _ ?_
   clear hK2
   refine aw_ret ?_
   show resOf zG _ [.tmp 4] = some _
   simp only [amset, amlib, zset, eq_self, ↓reduceIte, reduceCtorEq, Nat.reduceBEq, reduceEqDiff, reduceAdd, reduceMul, reduceLeDiff, reduceLT, reduceSub]
   simp only [eqT, all2_eqS, e0, e1, bools, ↓reduceIte]
 | false =>
  simp only [amset, amlib, zset, e0, eq_self, ↓reduceIte, reduceCtorEq, Nat.reduceBEq, reduceEqDiff, reduceAdd, reduceMul, reduceLeDiff, reduceLT, reduceSub]
  refine hK2 _ ?_
  clear hK2
  refine aw_ret ?_
  show resOf zG _ [.tmp 4] = some _
  simp only [amset, amlib, zset, eq_self, ↓reduceIte, reduceCtorEq, Nat.reduceBEq, reduceEqDiff, reduceAdd, reduceMul, reduceLeDiff, reduceLT, reduceSub]
  simp only [eqT, all2_eqS, e0, bools, ↓reduceIte]
theorem prog38 : Tryz.prog.funcs[38]? = some Tryz.f38 := by kernel_rfl
theorem holds38 (x y : Pg) : Holds Tryz.prog zG 38 [.agg [.sl 3 (encCs x.consts), .sl 4 (encGs x.globals), .sl 1 (encStrs x.sensors), .sl 1 (encStrs x.outputs), .sl 3 (encHs x.channels), .sl 8 (encTs x.tasks)], .agg [.sl 3 (encCs y.consts), .sl 4 (encGs y.globals), .sl 1 (encStrs y.sensors), .sl 1 (encStrs y.outputs), .sl 3 (encHs y.channels), .sl 8 (encTs y.tasks)]] [.c (.bool (eqP x y))] := by
 refine holds_of_body zT prog38 rfl rfl rfl (by simp [Tryz.f38]) ?_
 refine aw_ops zT fun K1 hK1 => ?_
 refine sg ?_
 refine hK1 _ ?_
 clear hK1
 refine aw_ops zT fun K2 hK2 => ?_
 cases e0 : (all2 eqC x.consts y.consts) with
 | true =>
  cases e1 : (all2 eqG x.globals y.globals) with
  | true =>
   cases e2 : (all2 eqStr x.sensors y.sensors) with
   | true =>
    cases e3 : (all2 eqStr x.outputs y.outputs) with
    | true =>
     cases e4 : (all2 eqH x.channels y.channels) with
     | true =>
      simp only [amset, amlib, zset, e0, e1, e2, e3, e4, eq_self, ↓reduceIte, reduceCtorEq, Nat.reduceBEq, reduceEqDiff, reduceAdd, reduceMul, reduceLeDiff, reduceLT, reduceSub]
      refine ⟨_, holds105 106 eqC x.consts y.consts fun z _ w => holds106 z w, ?_⟩
      simp only [later]
      simp only [amset, amlib, zset, e0, e1, e2, e3, e4, eq_self, ↓reduceIte, reduceCtorEq, Nat.reduceBEq, reduceEqDiff, reduceAdd, reduceMul, reduceLeDiff, reduceLT, reduceSub]
      refine ⟨_, holds107 108 eqG x.globals y.globals fun z _ w => holds108 z w, ?_⟩
      simp only [later]
      simp only [amset, amlib, zset, e0, e1, e2, e3, e4, eq_self, ↓reduceIte, reduceCtorEq, Nat.reduceBEq, reduceEqDiff, reduceAdd, reduceMul, reduceLeDiff, reduceLT, reduceSub]
      refine ⟨_, holds109 x.sensors y.sensors, ?_⟩
      simp only [later]
      simp only [amset, amlib, zset, e0, e1, e2, e3, e4, eq_self, ↓reduceIte, reduceCtorEq, Nat.reduceBEq, reduceEqDiff, reduceAdd, reduceMul, reduceLeDiff, reduceLT, reduceSub]
      refine ⟨_, holds109 x.outputs y.outputs, ?_⟩
      simp only [later]
      simp only [amset, amlib, zset, e0, e1, e2, e3, e4, eq_self, ↓reduceIte, reduceCtorEq, Nat.reduceBEq, reduceEqDiff, reduceAdd, reduceMul, reduceLeDiff, reduceLT, reduceSub]
      refine ⟨_, holds110 111 eqH x.channels y.channels fun z _ w => holds111 z w, ?_⟩
      simp only [later]
      simp only [amset, amlib, zset, e0, e1, e2, e3, e4, eq_self, ↓reduceIte, reduceCtorEq, Nat.reduceBEq, reduceEqDiff, reduceAdd, reduceMul, reduceLeDiff, reduceLT, reduceSub]
      refine ⟨_, holds112 113 eqT x.tasks y.tasks fun z _ w => holds113 z w, ?_⟩
      simp only [later]
      simp only [amset, amlib, zset, e0, e1, e2, e3, e4, eq_self, ↓reduceIte, reduceCtorEq, Nat.reduceBEq, reduceEqDiff, reduceAdd, reduceMul, reduceLeDiff, reduceLT, reduceSub]
      refine hK2 _ ?_
      clear hK2
      refine aw_ret ?_
      show resOf zG _ [.tmp 4] = some _
      simp only [amset, amlib, zset, eq_self, ↓reduceIte, reduceCtorEq, Nat.reduceBEq, reduceEqDiff, reduceAdd, reduceMul, reduceLeDiff, reduceLT, reduceSub]
      simp only [eqP, e0, e1, e2, e3, e4, bools, ↓reduceIte]
     | false =>
      simp only [amset, amlib, zset, e0, e1, e2, e3, e4, eq_self, ↓reduceIte, reduceCtorEq, Nat.reduceBEq, reduceEqDiff, reduceAdd, reduceMul, reduceLeDiff, reduceLT, reduceSub]
      refine ⟨_, holds105 106 eqC x.consts y.consts fun z _ w => holds106 z w, ?_⟩
      simp only [later]
      simp only [amset, amlib, zset, e0, e1, e2, e3, e4, eq_self, ↓reduceIte, reduceCtorEq, Nat.reduceBEq, reduceEqDiff, reduceAdd, reduceMul, reduceLeDiff, reduceLT, reduceSub]
      refine ⟨_, holds107 108 eqG x.globals y.globals fun z _ w => holds108 z w, ?_⟩
      simp only [later]
      simp only [amset, amlib, zset, e0, e1, e2, e3, e4, eq_self, ↓reduceIte, reduceCtorEq, Nat.reduceBEq, reduceEqDiff, reduceAdd, reduceMul, reduceLeDiff, reduceLT, reduceSub]
      refine ⟨_, holds109 x.sensors y.sensors, ?_⟩
      simp only [later]
      simp only [amset, amlib, zset, e0, e1, e2, e3, e4, eq_self, ↓reduceIte, reduceCtorEq, Nat.reduceBEq, reduceEqDiff, reduceAdd, reduceMul, reduceLeDiff, reduceLT, reduceSub]
      refine ⟨_, holds109 x.outputs y.outputs, ?_⟩
      simp only [later]
      simp only [amset, amlib, zset, e0, e1, e2, e3, e4, eq_self, ↓reduceIte, reduceCtorEq, Nat.reduceBEq, reduceEqDiff, reduceAdd, reduceMul, reduceLeDiff, reduceLT, reduceSub]
      refine ⟨_, holds110 111 eqH x.channels y.channels fun z _ w => holds111 z w, ?_⟩
      simp only [later]
      simp only [amset, amlib, zset, e0, e1, e2, e3, e4, eq_self, ↓reduceIte, reduceCtorEq, Nat.reduceBEq, reduceEqDiff, reduceAdd, reduceMul, reduceLeDiff, reduceLT, reduceSub]
      refine hK2 _ ?_
      clear hK2
      refine aw_ret ?_
      show resOf zG _ [.tmp 4] = some _
      simp only [amset, amlib, zset, eq_self, ↓reduceIte, reduceCtorEq, Nat.reduceBEq, reduceEqDiff, reduceAdd, reduceMul, reduceLeDiff, reduceLT, reduceSub]
      simp only [eqP, e0, e1, e2, e3, e4, bools, ↓reduceIte]
    | false =>
     simp only [amset, amlib, zset, e0, e1, e2, e3, eq_self, ↓reduceIte, reduceCtorEq, Nat.reduceBEq, reduceEqDiff, reduceAdd, reduceMul, reduceLeDiff, reduceLT, reduceSub]
     refine ⟨_, holds105 106 eqC x.consts y.consts fun z _ w => holds106 z w, ?_⟩
     simp only [later]
     simp only [amset, amlib, zset, e0, e1, e2, e3, eq_self, ↓reduceIte, reduceCtorEq, Nat.reduceBEq, reduceEqDiff, reduceAdd, reduceMul, reduceLeDiff, reduceLT, reduceSub]
     refine ⟨_, holds107 108 eqG x.globals y.globals fun z _ w => holds108 z w, ?_⟩
     simp only [later]
     simp only [amset, amlib, zset, e0, e1, e2, e3, eq_self, ↓reduceIte, reduceCtorEq, Nat.reduceBEq, reduceEqDiff, reduceAdd, reduceMul, reduceLeDiff, reduceLT, reduceSub]
     refine ⟨_, holds109 x.sensors y.sensors, ?_⟩
     simp only [later]
     simp only [amset, amlib, zset, e0, e1, e2, e3, eq_self, ↓reduceIte, reduceCtorEq, Nat.reduceBEq, reduceEqDiff, reduceAdd, reduceMul, reduceLeDiff, reduceLT, reduceSub]
     refine ⟨_, holds109 x.outputs y.outputs, ?_⟩
     simp only [later]
     simp only [amset, amlib, zset, e0, e1, e2, e3, eq_self, ↓reduceIte, reduceCtorEq, Nat.reduceBEq, reduceEqDiff, reduceAdd, reduceMul, reduceLeDiff, reduceLT, reduceSub]
     refine hK2 _ ?_
     clear hK2
     refine aw_ret ?_
     show resOf zG _ [.tmp 4] = some _
     simp only [amset, amlib, zset, eq_self, ↓reduceIte, reduceCtorEq, Nat.reduceBEq, reduceEqDiff, reduceAdd, reduceMul, reduceLeDiff, reduceLT, reduceSub]
     simp only [eqP, e0, e1, e2, e3, bools, ↓reduceIte]
   | false =>
    simp only [amset, amlib, zset, e0, e1, e2, eq_self, ↓reduceIte, reduceCtorEq, Nat.reduceBEq, reduceEqDiff, reduceAdd, reduceMul, reduceLeDiff, reduceLT, reduceSub]
    refine ⟨_, holds105 106 eqC x.consts y.consts fun z _ w => holds106 z w, ?_⟩
    simp only [later]
    simp only [amset, amlib, zset, e0, e1, e2, eq_self, ↓reduceIte, reduceCtorEq, Nat.reduceBEq, reduceEqDiff, reduceAdd, reduceMul, reduceLeDiff, reduceLT, reduceSub]
    refine ⟨_, holds107 108 eqG x.globals y.globals fun z _ w => holds108 z w, ?_⟩
    simp only [later]
    simp only [amset, amlib, zset, e0, e1, e2, eq_self, ↓reduceIte, reduceCtorEq, Nat.reduceBEq, reduceEqDiff, reduceAdd, reduceMul, reduceLeDiff, reduceLT, reduceSub]
    refine ⟨_, holds109 x.sensors y.sensors, ?_⟩
    simp only [later]
    simp only [amset, amlib, zset, e0, e1, e2, eq_self, ↓reduceIte, reduceCtorEq, Nat.reduceBEq, reduceEqDiff, reduceAdd, reduceMul, reduceLeDiff, reduceLT, reduceSub]
    refine hK2 _ ?_
    clear hK2
    refine aw_ret ?_
    show resOf zG _ [.tmp 4] = some _
    simp only [amset, amlib, zset, eq_self, ↓reduceIte, reduceCtorEq, Nat.reduceBEq, reduceEqDiff, reduceAdd, reduceMul, reduceLeDiff, reduceLT, reduceSub]
    simp only [eqP, e0, e1, e2, bools, ↓reduceIte]
  | false =>
   simp only [amset, amlib, zset, e0, e1, eq_self, ↓reduceIte, reduceCtorEq, Nat.reduceBEq, reduceEqDiff, reduceAdd, reduceMul, reduceLeDiff, reduceLT, reduceSub]
   refine ⟨_, holds105 106 eqC x.consts y.consts fun z _ w => holds106 z w, ?_⟩
   simp only [later]
   simp only [amset, amlib, zset, e0, e1, eq_self, ↓reduceIte, reduceCtorEq, Nat.reduceBEq, reduceEqDiff, reduceAdd, reduceMul, reduceLeDiff, reduceLT, reduceSub]
   refine ⟨_, holds107 108 eqG x.globals y.globals fun z _ w => holds108 z w, ?_⟩
   simp only [later]
   simp only [amset, amlib, zset, e0, e1, eq_self, ↓reduceIte, reduceCtorEq, Nat.reduceBEq, reduceEqDiff, reduceAdd, reduceMul, reduceLeDiff, reduceLT, reduceSub]
   refine hK2 _ ?_
   clear hK2
   refine aw_ret ?_
   show resOf zG _ [.tmp 4] = some _
   simp only [amset, amlib, zset, eq_self, ↓reduceIte, reduceCtorEq, Nat.reduceBEq, reduceEqDiff, reduceAdd, reduceMul, reduceLeDiff, reduceLT, reduceSub]
   simp only [eqP, e0, e1, bools, ↓reduceIte]
 | false =>
  simp only [amset, amlib, zset, e0, eq_self, ↓reduceIte, reduceCtorEq, Nat.reduceBEq, reduceEqDiff, reduceAdd, reduceMul, reduceLeDiff, reduceLT, reduceSub]
  refine ⟨_, holds105 106 eqC x.consts y.consts fun z _ w => holds106 z w, ?_⟩
  simp only [later]
  simp only [amset, amlib, zset, e0, eq_self, ↓reduceIte, reduceCtorEq, Nat.reduceBEq, reduceEqDiff, reduceAdd, reduceMul, reduceLeDiff, reduceLT, reduceSub]
  refine hK2 _ ?_
  clear hK2
  refine aw_ret ?_
  show resOf zG _ [.tmp 4] = some _
  simp only [amset, amlib, zset, eq_self, ↓reduceIte, reduceCtorEq, Nat.reduceBEq, reduceEqDiff, reduceAdd, reduceMul, reduceLeDiff, reduceLT, reduceSub]
  simp only [eqP, e0, bools, ↓reduceIte]
end Go.Proofs.Am
set_option maxRecDepth 100000
set_option maxHeartbeats 4000000
namespace Go.Proofs.Am
open Nat (reduceEqDiff reduceAdd reduceMul reduceLeDiff reduceLT reduceSub)
def xW : Ex := binE' 5 (binE' 3 (nameE [97]) (nameE [98])) (unE' 1 (binE' 4 (nameE [99]) (numE 1)))
def pW : Pg := ⟨[], [], [], [], [], [⟨[116], 5, 0, [], [], 0, [.mk 8 [] 0 [nameE [97]] [] [] 0], 0⟩]⟩
theorem awE : ((if wfA xW = true then txA xW else []) == [40, 97, 32, 43, 32, 98, 41, 32, 42, 32, 45, 40, 99, 32, 45, 32, 49, 41]) = true := by kernel_rfl
theorem awF : (fmtA pW == [116, 97, 115, 107, 32, 116, 32, 101, 118, 101, 114, 121, 32, 53, 32, 123, 10, 32, 32, 32, 32, 101, 109, 105, 116, 32, 97, 59, 10, 125, 10]) = true := by kernel_rfl
theorem awW : wfP pW = true := by kernel_rfl
theorem awS : (((szT pW.tasks : Nat) : Int) == 2) = true := by kernel_rfl
theorem awD : (((depT pW.tasks : Nat) : Int) == 2) = true := by kernel_rfl
theorem awQ : eqP pW pW = true := by kernel_rfl
theorem awN : (fmtA pW).length ≤ 1000000000000 := by
 have h : Nat.ble (fmtA pW).length 1000000000000 = true := by kernel_rfl
 exact Nat.le_of_ble_eq_true h
theorem wdW : wdL xW.args := by simp [xW, binE', unE', nameE, numE, wdE, wdL, i16r, Ex.args]
theorem szW : (subE xW).length ≤ 1000000000000 := by simp [xW, binE', unE', nameE, numE, subE, subL]
theorem sizedW : ∀ t ∈ pW.tasks, sized t.body := by
 intro t ht
 simp only [pW, List.mem_cons, List.not_mem_nil, or_false] at ht
 subst ht
 intro z hz
 simp only [stmL, stmS_eq, St.body, St.els, List.append_nil, List.mem_cons, List.not_mem_nil, or_false, List.nil_append] at hz
 subst hz
 simp [St.args, wdL, wdE, nameE, i16r, subL, subE]
theorem prog81 : Tryz.prog.funcs[81]? = some Tryz.f81 := by kernel_rfl
theorem holds81 (op : Int) (a b : Ex) : Holds Tryz.prog zG 81 [.c (.int .i64 op), .agg [.int .i64 a.kind, .str a.name, .int .i16 a.value, .int .i64 a.op, .sl 6 (encEs a.args), .int .i64 a.pos], .agg [.int .i64 b.kind, .str b.name, .int .i16 b.value, .int .i64 b.op, .sl 6 (encEs b.args), .int .i64 b.pos]] [.agg [.int .i64 (binE' op a b).kind, .str (binE' op a b).name, .int .i16 (binE' op a b).value, .int .i64 (binE' op a b).op, .sl 6 (encEs (binE' op a b).args), .int .i64 (binE' op a b).pos]] := by
 refine holds_of_body zT prog81 rfl rfl rfl (by simp [Tryz.f81]) ?_
 refine aw_ops zT fun K1 hK1 => ?_
 refine sg ?_
 refine hK1 _ ?_
 clear hK1
 refine aw_ops zT fun K2 hK2 => ?_
 refine sg ?_
 refine hK2 _ ?_
 clear hK2
 refine aw_ret ?_
 show resOf zG _ [.cell 6 32] = some _
 simp only [amset, amlib, zset, eq_self, ↓reduceIte, reduceCtorEq, Nat.reduceBEq, reduceEqDiff, reduceAdd, reduceMul, reduceLeDiff, reduceLT, reduceSub]
 simp only [numE, binE', unE', nameE, Ex.kind, Ex.name, Ex.value, Ex.op, Ex.args, Ex.pos, encEs, encE_eq]
theorem prog82 : Tryz.prog.funcs[82]? = some Tryz.f82 := by kernel_rfl
theorem holds82 (s : List UInt8) : Holds Tryz.prog zG 82 [.c (.str s)] [.agg [.int .i64 (nameE s).kind, .str (nameE s).name, .int .i16 (nameE s).value, .int .i64 (nameE s).op, .sl 6 (encEs (nameE s).args), .int .i64 (nameE s).pos]] := by
 refine holds_of_body zT prog82 rfl rfl rfl (by simp [Tryz.f82]) ?_
 refine aw_ops zT fun K1 hK1 => ?_
 refine sg ?_
 refine hK1 _ ?_
 clear hK1
 refine aw_ops zT fun K2 hK2 => ?_
 refine sg ?_
 refine hK2 _ ?_
 clear hK2
 refine aw_ret ?_
 show resOf zG _ [.cell 2 32] = some _
 simp only [amset, amlib, zset, eq_self, ↓reduceIte, reduceCtorEq, Nat.reduceBEq, reduceEqDiff, reduceAdd, reduceMul, reduceLeDiff, reduceLT, reduceSub]
 simp only [numE, binE', unE', nameE, Ex.kind, Ex.name, Ex.value, Ex.op, Ex.args, Ex.pos, encEs, encE_eq]
theorem prog31 : Tryz.prog.funcs[31]? = some Tryz.f31 := by kernel_rfl
theorem holds31  : Holds Tryz.prog zG 31 [] [.c (.bool true)] := by
 refine holds_of_body zT prog31 rfl rfl rfl (by simp [Tryz.f31]) ?_
 refine aw_ops zT fun K1 hK1 => ?_
 refine sg ?_
 refine hK1 _ ?_
 clear hK1
 refine aw_ops zT fun K2 hK2 => ?_
 refine sg ?_
 refine ⟨_, holds82 [97], ?_⟩
 refine sgl ?_
 refine ⟨_, holds82 [98], ?_⟩
 refine sgl ?_
 refine ⟨_, holds81 3 (nameE [97]) (nameE [98]), ?_⟩
 refine sgl ?_
 refine ⟨_, holds82 [99], ?_⟩
 refine sgl ?_
 refine ⟨_, holds81 4 (nameE [99]) (numE 1), ?_⟩
 refine sgl ?_
 refine ⟨_, holds81 5 (binE' 3 (nameE [97]) (nameE [98])) (unE' 1 (binE' 4 (nameE [99]) (numE 1))), ?_⟩
 refine sgl ?_
 refine hK2 _ ?_
 clear hK2
 refine aw_ops zT fun K3 hK3 => ?_
 refine sg ?_
 refine ⟨_, holds82 [97], ?_⟩
 refine sgl ?_
 refine hK3 _ ?_
 clear hK3
 refine aw_freeze 17 ?_
 refine aw_nm ?_
 refine aw_ops zT fun K4 hK4 => ?_
 simp only [amset, amlib, zset, awE, awF, awW, awS, awD, awQ, eq_self, ↓reduceIte, reduceCtorEq, Nat.reduceBEq, reduceEqDiff, reduceAdd, reduceMul, reduceLeDiff, reduceLT, reduceSub]
 refine ⟨_, holds34 xW (by simp [xW, binE', Ex.value, i16r]) wdW szW, ?_⟩
 simp only [later]
 simp only [amset, amlib, zset, awE, awF, awW, awS, awD, awQ, eq_self, ↓reduceIte, reduceCtorEq, Nat.reduceBEq, reduceEqDiff, reduceAdd, reduceMul, reduceLeDiff, reduceLT, reduceSub]
 refine ⟨_, holdsFmt pW (holds36g pW (by decide)) sizedW (by decide) (by simp [pW]) (by simp [pW]) (fun _ => awN), ?_⟩
 simp only [later]
 simp only [amset, amlib, zset, awE, awF, awW, awS, awD, awQ, eq_self, ↓reduceIte, reduceCtorEq, Nat.reduceBEq, reduceEqDiff, reduceAdd, reduceMul, reduceLeDiff, reduceLT, reduceSub]
 refine ⟨_, holds36g pW (by decide), ?_⟩
 simp only [later]
 simp only [amset, amlib, zset, awE, awF, awW, awS, awD, awQ, eq_self, ↓reduceIte, reduceCtorEq, Nat.reduceBEq, reduceEqDiff, reduceAdd, reduceMul, reduceLeDiff, reduceLT, reduceSub]
 refine ⟨_, holdsSize pW (by decide), ?_⟩
 simp only [later]
 simp only [amset, amlib, zset, awE, awF, awW, awS, awD, awQ, eq_self, ↓reduceIte, reduceCtorEq, Nat.reduceBEq, reduceEqDiff, reduceAdd, reduceMul, reduceLeDiff, reduceLT, reduceSub]
 refine ⟨_, holds84 pW (by decide), ?_⟩
 simp only [later]
 simp only [amset, amlib, zset, awE, awF, awW, awS, awD, awQ, eq_self, ↓reduceIte, reduceCtorEq, Nat.reduceBEq, reduceEqDiff, reduceAdd, reduceMul, reduceLeDiff, reduceLT, reduceSub]
 refine ⟨_, holds38 pW pW, ?_⟩
 simp only [later]
 simp only [amset, amlib, zset, awE, awF, awW, awS, awD, awQ, eq_self, ↓reduceIte, reduceCtorEq, Nat.reduceBEq, reduceEqDiff, reduceAdd, reduceMul, reduceLeDiff, reduceLT, reduceSub]
 refine hK4 _ ?_
 clear hK4
 refine aw_ret ?_
 show resOf zG _ [.tmp 0] = some _
 simp only [amset, amlib, zset, eq_self, ↓reduceIte, reduceCtorEq, Nat.reduceBEq, reduceEqDiff, reduceAdd, reduceMul, reduceLeDiff, reduceLT, reduceSub]
end Go.Proofs.Am
set_option maxRecDepth 100000
set_option maxHeartbeats 4000000
namespace Go.Proofs.Am
open Nat (reduceEqDiff reduceAdd reduceMul reduceLeDiff reduceLT reduceSub)
theorem flat_le {α : Type} {f : α → List UInt8} {c : Nat} : ∀ (l : List α), (∀ y ∈ l, (f y).length ≤ c) → (l.flatMap f).length ≤ l.length * c
 | [], _ => by simp
 | x :: r, h => by
  rw [List.flatMap_cons, List.length_append, List.length_cons, Nat.add_mul, Nat.one_mul]
  have h1 := h x (by simp)
  have h2 := flat_le r fun y hy => h y (by simp [hy])
  omega
theorem szT_mem {t : Tk} {l : List Tk} (h : t ∈ l) : szB t.body ≤ szT l := by
 induction l with
 | nil => cases h
 | cons x r ih =>
  rw [szT]
  rcases List.mem_cons.1 h with rfl | h
  ·
   omega
  ·
   have := ih h; omega
theorem small_facts {p : Pg} (h : smallP p = true) : p.consts.length ≤ 20 ∧ p.globals.length ≤ 20 ∧ p.sensors.length ≤ 20 ∧ p.outputs.length ≤ 20 ∧ p.channels.length ≤ 20 ∧ p.tasks.length ≤ 6 ∧ szT p.tasks ≤ 300 ∧ depT p.tasks ≤ 30 := by
 simp only [smallP, Bool.and_eq_true, decide_eq_true_eq] at h
 omega
theorem fmt_len {p : Pg} (h : smallP p = true) (hw : wfP p = true) (hs : ∀ t ∈ p.tasks, sized t.body) (hc : ∀ c ∈ p.consts, i16r c.value) (hg : ∀ g ∈ p.globals, i16r g.init) : (fmtA p).length ≤ 1000000000000 := by
 have hf := wfP_facts hw
 obtain ⟨a1, a2, a3, a4, a5, a6, a7, a8⟩ := small_facts h
 have l1 := flat_le (f := cnA) (c := 100) p.consts fun y hy => by
  have h1 := hf.c y hy
  simp only [okC, Bool.and_eq_true] at h1
  have h2 := ident_len h1.1
  have h3 := hc y hy
  unfold i16r at h3
  have h4 := Lib.itoa_length_le y.value (by omega) (by omega)
  simp only [cnA, List.length_append, List.length_cons, List.length_nil]; omega
 have l2 := flat_le (f := varA) (c := 100) p.globals fun y hy => by
  have h1 := hf.g y hy
  simp only [okG, Bool.and_eq_true] at h1
  have h2 := ident_len h1.1.1.1
  have h3 := hg y hy
  unfold i16r at h3
  have h5 : 0 ≤ y.len ∧ y.len ≤ 32767 := by have := h1.1.1.2; simp [numA] at this; omega
  have h4 := Lib.itoa_length_le y.init (by omega) (by omega)
  have h6 := Lib.itoa_length_le y.len (by omega) (by omega)
  unfold varA
  split
  ·
   simp only [List.length_append, List.length_cons, List.length_nil]; omega
  ·
   split <;> (simp only [List.length_append, List.length_cons, List.length_nil]; omega)
 have l3 := flat_le (f := snA) (c := 100) p.sensors fun y hy => by
  have h2 := ident_len (hf.s y hy)
  simp only [snA, List.length_append, List.length_cons, List.length_nil]; omega
 have l4 := flat_le (f := ouA) (c := 100) p.outputs fun y hy => by
  have h2 := ident_len (hf.o y hy)
  simp only [ouA, List.length_append, List.length_cons, List.length_nil]; omega
 have l5 := flat_le (f := chA) (c := 100) p.channels fun y hy => by
  have h1 := hf.h y hy
  simp only [okH, Bool.and_eq_true] at h1
  have h2 := ident_len h1.1
  have h5 : 0 ≤ y.cap ∧ y.cap ≤ 32767 := by have := h1.2; simp [numA] at this; omega
  have h6 := i64_itoa y.cap h5
  simp only [chA, List.length_append, List.length_cons, List.length_nil]; omega
 have l6 := flat_le (f := tkA) (c := 1000000) p.tasks fun t ht => by
  have hw := hf.t t ht
  simp only [wfT, Bool.and_eq_true] at hw
  have htn := ident_len hw.1.1.1.1.1
  have hdl : 0 ≤ t.deadline ∧ t.deadline ≤ 32767 := by have := hw.1.1.1.1.2; simp [numA] at this; omega
  have hwi : 0 ≤ t.within ∧ t.within ≤ 32767 := by have := hw.1.1.1.2; simp [numA] at this; omega
  have hpe : 0 ≤ t.period ∧ t.period ≤ 32767 := by have := hw.1.1.2; simp [numA] at this; omega
  have hpi := i64_itoa t.period hpe
  have ho1 : (optA [119, 105, 116, 104, 105, 110] t.within).length ≤ 60 := Nat.le_trans (optA_len _ _ hwi) (by decide)
  have ho2 : (optA [100, 101, 97, 100, 108, 105, 110, 101] t.deadline).length ≤ 60 := Nat.le_trans (optA_len _ _ hdl) (by decide)
  have hb := lnsA_len t.body [32, 32, 32, 32] hw.1.2 (hs t ht)
  have hz := szT_mem ht
  unfold szB at hz
  have hd := depT_mem ht
  have hm : (stmL t.body).length * (4 * (([32, 32, 32, 32] : List UInt8).length + 4 * depM t.body) + 200) ≤ 300 * 1000 := Nat.mul_le_mul (by omega) (by simp only [List.length_cons, List.length_nil]; omega)
  have hk : (tkH t).length ≤ 120 := by
   unfold tkH
   split
   ·
    simp only [List.length_append, List.length_cons, List.length_nil]; omega
   ·
    rename_i h0
    have h2 := hw.2
    simp only [h0, Bool.false_eq_true, ↓reduceIte, Bool.and_eq_true] at h2
    have c1 := ident_len h2.1
    have c2 := ident_len h2.2
    simp only [List.length_append, List.length_cons, List.length_nil]; omega
  simp only [tkA, List.length_append, List.length_cons, List.length_nil]
  omega
 simp only [fmtA, List.length_append]
 omega
theorem prog6 : Tryz.prog.funcs[6]? = some Tryz.f6 := by kernel_rfl
theorem holds6 (p : Pg) (hb : szT p.tasks ≤ 1000000000000) (hd : depT p.tasks ≤ 1000000000000) (hst : ∀ t ∈ p.tasks, sized t.body) (hci : ∀ c ∈ p.consts, i16r c.value) (hgi : ∀ g ∈ p.globals, i16r g.init) : Holds Tryz.prog zG 6 [.agg [.sl 3 (encCs p.consts), .sl 4 (encGs p.globals), .sl 1 (encStrs p.sensors), .sl 1 (encStrs p.outputs), .sl 3 (encHs p.channels), .sl 8 (encTs p.tasks)]] [.c (.bool true)] := by
 refine holds_of_body zT prog6 rfl rfl rfl (by simp [Tryz.f6]) ?_
 refine aw_ops zT fun K1 hK1 => ?_
 refine sg ?_
 refine hK1 _ ?_
 clear hK1
 refine aw_seq fun K2 hK2 => ?_
 refine aw_ops zT fun K3 hK3 => ?_
 refine sg ?_
 refine ⟨_, holds31, ?_⟩
 refine sgl ?_
 refine hK3 _ ?_
 clear hK3
 refine aw_cond (t := false) rfl (fun h => nomatch h) (fun _ => ?_)
 refine aw_skip ?_
 simp only [thenQ, blkQ, if_true, reduceIte, Nat.reduceEqDiff, eq_self]
 refine hK2 _ ?_
 clear hK2
 refine aw_seq fun K4 hK4 => ?_
 refine aw_ops zT fun K5 hK5 => ?_
 refine sg ?_
 refine ⟨_, holds18 p hb hd, ?_⟩
 refine sgl ?_
 refine hK5 _ ?_
 clear hK5
 refine aw_cond rfl (fun h1 => ?_) (fun h1 => ?_)
 ·
  refine aw_ops zT fun K6 hK6 => ?_
  refine sg ?_
  refine hK6 _ ?_
  clear hK6
  refine aw_ret ?_
  show resOf zG _ [.tmp 2] = some _
  simp only [amset, amlib, zset, eq_self, ↓reduceIte, reduceCtorEq, Nat.reduceBEq, reduceEqDiff, reduceAdd, reduceMul, reduceLeDiff, reduceLT, reduceSub]
 ·
  refine aw_skip ?_
  simp only [thenQ, blkQ, if_true, reduceIte, Nat.reduceEqDiff, eq_self]
  refine hK4 _ ?_
  clear hK4
  have hsm : smallP p = true := by simpa using h1
  have hsf := small_facts hsm
  refine aw_draw zT prog_mixed fun K7 hK7 => ?_
  simp only [amset, amlib, zset, beq_self_eq_true, eq_self, ↓reduceIte, reduceCtorEq, Nat.reduceBEq, reduceEqDiff, reduceAdd, reduceMul, reduceLeDiff, reduceLT, reduceSub]
  refine ⟨_, holdsFmt p (holds36g p (by omega)) hst (by omega) hci hgi (fun hw => fmt_len hsm hw hst hci hgi), ?_⟩
  simp only [later]
  simp only [amset, amlib, zset, beq_self_eq_true, eq_self, ↓reduceIte, reduceCtorEq, Nat.reduceBEq, reduceEqDiff, reduceAdd, reduceMul, reduceLeDiff, reduceLT, reduceSub]
  refine ⟨_, holds33 p (holds37 p (by omega)) hst (by omega) hci hgi (fun hw => fmt_len hsm hw hst hci hgi), ?_⟩
  simp only [later]
  simp only [amset, amlib, zset, beq_self_eq_true, eq_self, ↓reduceIte, reduceCtorEq, Nat.reduceBEq, reduceEqDiff, reduceAdd, reduceMul, reduceLeDiff, reduceLT, reduceSub]
  refine ⟨by kernel_rfl, ?_⟩
  refine hK7 _ ?_
  clear hK7
  refine aw_ret ?_
  show resOf zG _ [.tmp 2] = some _
  simp only [amset, amlib, zset, eq_self, ↓reduceIte, reduceCtorEq, Nat.reduceBEq, reduceEqDiff, reduceAdd, reduceMul, reduceLeDiff, reduceLT, reduceSub]
theorem prog8 : Tryz.prog.funcs[8]? = some Tryz.f8 := by kernel_rfl
theorem holds8 (p : Pg) (hb : szT p.tasks ≤ 1000000000000) (hd : depT p.tasks ≤ 1000000000000) (hst : ∀ t ∈ p.tasks, sized t.body) (hci : ∀ c ∈ p.consts, i16r c.value) (hgi : ∀ g ∈ p.globals, i16r g.init) : Holds Tryz.prog zG 8 [.agg [.sl 3 (encCs p.consts), .sl 4 (encGs p.globals), .sl 1 (encStrs p.sensors), .sl 1 (encStrs p.outputs), .sl 3 (encHs p.channels), .sl 8 (encTs p.tasks)]] [.c (.bool true)] := by
 refine holds_of_body zT prog8 rfl rfl rfl (by simp [Tryz.f8]) ?_
 refine aw_ops zT fun K1 hK1 => ?_
 refine sg ?_
 refine hK1 _ ?_
 clear hK1
 refine aw_seq fun K2 hK2 => ?_
 refine aw_ops zT fun K3 hK3 => ?_
 refine sg ?_
 refine ⟨_, holds31, ?_⟩
 refine sgl ?_
 refine hK3 _ ?_
 clear hK3
 refine aw_cond (t := false) rfl (fun h => nomatch h) (fun _ => ?_)
 refine aw_skip ?_
 simp only [thenQ, blkQ, if_true, reduceIte, Nat.reduceEqDiff, eq_self]
 refine hK2 _ ?_
 clear hK2
 refine aw_seq fun K4 hK4 => ?_
 refine aw_ops zT fun K5 hK5 => ?_
 refine sg ?_
 refine ⟨_, holds18 p hb hd, ?_⟩
 refine sgl ?_
 refine hK5 _ ?_
 clear hK5
 refine aw_cond rfl (fun h1 => ?_) (fun h1 => ?_)
 ·
  refine aw_ops zT fun K6 hK6 => ?_
  refine sg ?_
  refine hK6 _ ?_
  clear hK6
  refine aw_ret ?_
  show resOf zG _ [.tmp 2] = some _
  simp only [amset, amlib, zset, eq_self, ↓reduceIte, reduceCtorEq, Nat.reduceBEq, reduceEqDiff, reduceAdd, reduceMul, reduceLeDiff, reduceLT, reduceSub]
 ·
  refine aw_skip ?_
  simp only [thenQ, blkQ, if_true, reduceIte, Nat.reduceEqDiff, eq_self]
  refine hK4 _ ?_
  clear hK4
  have hsm : smallP p = true := by simpa using h1
  have hsf := small_facts hsm
  refine aw_draw zT prog_mixed fun K7 hK7 => ?_
  simp only [amset, amlib, zset, beq_self_eq_true, eq_self, ↓reduceIte, reduceCtorEq, Nat.reduceBEq, reduceEqDiff, reduceAdd, reduceMul, reduceLeDiff, reduceLT, reduceSub]
  refine ⟨_, holds36g p (by omega), ?_⟩
  simp only [later]
  simp only [amset, amlib, zset, beq_self_eq_true, eq_self, ↓reduceIte, reduceCtorEq, Nat.reduceBEq, reduceEqDiff, reduceAdd, reduceMul, reduceLeDiff, reduceLT, reduceSub]
  refine ⟨_, holds37 p (by omega), ?_⟩
  simp only [later]
  simp only [amset, amlib, zset, beq_self_eq_true, eq_self, ↓reduceIte, reduceCtorEq, Nat.reduceBEq, reduceEqDiff, reduceAdd, reduceMul, reduceLeDiff, reduceLT, reduceSub]
  refine ⟨by kernel_rfl, ?_⟩
  refine hK7 _ ?_
  clear hK7
  refine aw_ret ?_
  show resOf zG _ [.tmp 2] = some _
  simp only [amset, amlib, zset, eq_self, ↓reduceIte, reduceCtorEq, Nat.reduceBEq, reduceEqDiff, reduceAdd, reduceMul, reduceLeDiff, reduceLT, reduceSub]
end Go.Proofs.Am
namespace Go.Proofs.Am
mutual
theorem sz_S : ∀ x : St, wdS x → ∀ z ∈ stmS x, wdL z.args ∧ (subL z.args).length ≤ cntS x
 | .mk k n v a b e p, h, z, hz => by
  rw [wdS] at h
  rw [stmS_eq] at hz
  simp only [List.mem_cons, List.mem_append] at hz
  rw [cntS]
  rcases hz with rfl | hz | hz
  ·
   exact ⟨h.1, by simp only [St.args]; omega⟩
  ·
   obtain ⟨h1, h2⟩ := sz_M b h.2.1 z hz
   exact ⟨h1, by omega⟩
  ·
   obtain ⟨h1, h2⟩ := sz_M e h.2.2 z hz
   exact ⟨h1, by omega⟩
theorem sz_M : ∀ l : List St, wdM l → ∀ z ∈ stmL l, wdL z.args ∧ (subL z.args).length ≤ cntM l
 | [], _, z, hz => by cases hz
 | x :: r, h, z, hz => by
  rw [wdM] at h
  rw [stmL, List.mem_append] at hz
  rw [cntM]
  rcases hz with hz | hz
  ·
   obtain ⟨h1, h2⟩ := sz_S x h.1 z hz
   exact ⟨h1, by omega⟩
  ·
   obtain ⟨h1, h2⟩ := sz_M r h.2 z hz
   exact ⟨h1, by omega⟩
end
theorem cntT_mem {t : Tk} {l : List Tk} (h : t ∈ l) : cntM t.body ≤ cntT l := by
 induction l with
 | nil => cases h
 | cons x r ih =>
  rw [cntT]
  rcases List.mem_cons.1 h with rfl | h
  ·
   omega
  ·
   have := ih h; omega
theorem sized_of {l : List St} (h : wdM l) (hc : cntM l ≤ 1000000000000) : sized l := fun z hz => by
 obtain ⟨h1, h2⟩ := sz_M l h z hz
 exact ⟨h1, by omega⟩
end Go.Proofs.Am
