/- Part 6 of a proof that the law holds of every input of the given bulk. -/
import Derived.Test.YtfflfbhnedkppaaGreatDoorPart05
import Derived.Test.YtfflfbhnedkppaaGreatDoorPart04
import Derived.WalkKit
import Derived.Test.YtfflfbhnedkppaaGreatDoorPart02
set_option autoImplicit false
set_option linter.unusedSimpArgs false
set_option linter.unusedVariables false
set_option linter.unusedSectionVars false
set_option maxRecDepth 100000
set_option maxHeartbeats 4000000
namespace Go.Proofs.Am
open Nat (reduceEqDiff reduceAdd reduceMul reduceLeDiff reduceLT reduceSub)
def levTab : List Int := [0, 0, 0, 4, 4, 5, 5, 5, 3, 3, 3, 3, 3, 3, 2, 1]
def symTab : List (List UInt8) := [[], [45], [33], [43], [45], [42], [47], [37], [61, 61], [33, 61], [60], [60, 61], [62], [62, 61], [38, 38], [124, 124]]
def levI (o : Int) : Int := levTab.getD o.toNat 0
def symI (o : Int) : List UInt8 := symTab.getD o.toNat []
theorem map_drop {α : Type} (f : α → C) (l : List α) (n : Nat) (d : α) (h : n < l.length) : (l.map f).drop (n * 1) = f (l.getD n d) :: (l.map f).drop (n + 1) := by
 rw [Nat.mul_one, List.drop_eq_getElem_cons (by simpa using h)]
 simp [List.getD_eq_getElem?_getD, List.getElem?_eq_getElem h]
theorem lev_at (o : Int) (h : 0 ≤ o ∧ o < 16) : gLevels.drop (o.toNat * 1) = .int .i64 (levI o) :: gLevels.drop (o.toNat + 1) := map_drop (C.int .i64) levTab o.toNat 0 (by simp [levTab]; omega)
theorem sym_at (o : Int) (h : 0 ≤ o ∧ o < 16) : gSymbols.drop (o.toNat * 1) = .str (symI o) :: gSymbols.drop (o.toNat + 1) := map_drop C.str symTab o.toNat [] (by simp [symTab]; omega)
theorem lev_range (o : Int) : 0 ≤ levI o ∧ levI o ≤ 5 := by
 unfold levI
 by_cases h : o.toNat < levTab.length
 ·
  rw [List.getD_eq_getElem?_getD, List.getElem?_eq_getElem h]
  have : ∀ z ∈ levTab, 0 ≤ z ∧ z ≤ 5 := by decide
  exact this _ (List.getElem_mem h)
 ·
  rw [List.getD_eq_getElem?_getD, List.getElem?_eq_none (by omega)]
  decide
theorem sym_len (o : Int) : (symI o).length ≤ 2 := by
 unfold symI
 by_cases h : o.toNat < symTab.length
 ·
  rw [List.getD_eq_getElem?_getD, List.getElem?_eq_getElem h]
  have : ∀ z ∈ symTab, z.length ≤ 2 := by decide
  exact this _ (List.getElem_mem h)
 ·
  rw [List.getD_eq_getElem?_getD, List.getElem?_eq_none (by omega)]
  decide
def lvA (x : Ex) : Int := if x.kind == 6 then levI x.op else if x.kind == 5 then 6 else 7
def opS (p : Int × List UInt8) (least : Int) : List UInt8 := if decide (p.1 < least) then [40] ++ p.2 ++ [41] else p.2
def bnT (o : Int) (a b : Int × List UInt8) : List UInt8 := opS a (if levI o == 3 then levI o + 1 else levI o) ++ [32] ++ symI o ++ [32] ++ opS b (levI o + 1)
mutual
def txA : Ex → List UInt8
 | .mk k n v o a _ => if k == 1 then Lib.itoa v else if k == 2 then n else if k == 3 then n ++ [91] ++ ((txL a).getD 0 (0, [])).2 ++ [93] else if k == 4 then [114, 101, 97, 100, 40] ++ n ++ [41] else if k == 5 then symI o ++ opS ((txL a).getD 0 (0, [])) 6 else bnT o ((txL a).getD 0 (0, [])) ((txL a).getD 1 (0, []))
def txL : List Ex → List (Int × List UInt8)
 | [] => []
 | x :: r => (lvA x, txA x) :: txL r
end
theorem txA_eq (x : Ex) : txA x = if x.kind == 1 then Lib.itoa x.value else if x.kind == 2 then x.name else if x.kind == 3 then x.name ++ [91] ++ ((txL x.args).getD 0 (0, [])).2 ++ [93] else if x.kind == 4 then [114, 101, 97, 100, 40] ++ x.name ++ [41] else if x.kind == 5 then symI x.op ++ opS ((txL x.args).getD 0 (0, [])) 6 else bnT x.op ((txL x.args).getD 0 (0, [])) ((txL x.args).getD 1 (0, [])) := by cases x; rw [txA]; rfl
theorem txL_map (l : List Ex) : txL l = l.map fun y => (lvA y, txA y) := by
 induction l with
 | nil => rfl
 | cons x r ih => simp [txL, ih]
theorem txL_getD (l : List Ex) (n : Nat) (h : n < l.length) : (txL l).getD n (0, []) = (lvA l[n], txA l[n]) := by
 rw [txL_map, List.getD_eq_getElem?_getD, List.getElem?_map, List.getElem?_eq_getElem h]; rfl
theorem ident_len {s : List UInt8} (h : ident s = true) : s.length ≤ 32 := by
 rw [ident_eq] at h
 simp at h
 omega
/-- What a well-formed expression is. -/
theorem wf_facts {x : Ex} (h : wfA x = true) : ((x.kind = 1 ∧ x.args.length = 0 ∧ 0 ≤ x.value ∧ x.name = [] ∧ x.op = 0) ∨ (x.kind = 2 ∧ x.args.length = 0 ∧ ident x.name = true ∧ x.value = 0 ∧ x.op = 0) ∨ (x.kind = 4 ∧ x.args.length = 0 ∧ ident x.name = true ∧ x.value = 0 ∧ x.op = 0) ∨ (x.kind = 3 ∧ x.args.length = 1 ∧ ident x.name = true ∧ x.value = 0 ∧ x.op = 0) ∨ (x.kind = 5 ∧ x.args.length = 1 ∧ (1 ≤ x.op ∧ x.op ≤ 2) ∧ x.name = [] ∧ x.value = 0) ∨ (x.kind = 6 ∧ x.args.length = 2 ∧ (3 ≤ x.op ∧ x.op ≤ 15) ∧ x.name = [] ∧ x.value = 0)) ∧ ∀ y ∈ x.args, wfA y = true := by
 rw [wfA_eq] at h
 simp only [Bool.and_eq_true, Bool.not_eq_true', List.any_eq_false, Bool.not_eq_true, Bool.not_eq_false'] at h
 obtain ⟨⟨h1, h2⟩, h3⟩ := h
 refine ⟨?_, fun y hy => by simpa using h3 y hy⟩
 have h2 : (x.args.length : Int) = (plainP x).1 := by simpa using h2
 clear h3
 obtain ⟨k, n, v, o, a, p⟩ := x
 simp only [plainP, sameE, Ex.kind, Ex.name, Ex.value, Ex.op, Ex.args] at h1 h2 ⊢
 by_cases k1 : k = 1
 ·
  simp [k1] at h1 h2 ⊢; simp [h1, h2]
 ·
  by_cases k2 : k = 2
  ·
   simp [k2] at h1 h2 ⊢; simp [h1, h2]
  ·
   by_cases k4 : k = 4
   ·
    simp [k4] at h1 h2 ⊢; simp [h1, h2]
   ·
    by_cases k3 : k = 3
    ·
     simp [k3] at h1 h2 ⊢; simp [h1]; omega
    ·
     by_cases k5 : k = 5
     ·
      simp [k5] at h1 h2 ⊢; obtain ⟨⟨a1, a2⟩, a3, a4⟩ := h1; have a2 := of_decide_eq_true a2; simp [a1, a2, a3, a4]; omega
     ·
      by_cases k6 : k = 6
      ·
       simp [k6] at h1 h2 ⊢; obtain ⟨⟨a1, a2⟩, a3, a4⟩ := h1; have a2 := of_decide_eq_true a2; simp [a1, a2, a3, a4]; omega
      ·
       simp [k1, k2, k3, k4, k5, k6] at h1
theorem subL_two : ∀ (l : List Ex) (h : l.length = 2), (subL l).length = (subE l[0]).length + (subE l[1]).length
 | [a, b], _ => by simp [subL]
theorem opS_len (p : Int × List UInt8) (l : Int) : (opS p l).length ≤ p.2.length + 2 := by
 unfold opS
 split <;> simp
theorem opS_len' (a : Int) (t : List UInt8) (l : Int) : (opS (a, t) l).length ≤ t.length + 2 := opS_len (a, t) l
theorem txA_len (x : Ex) (h : wfA x = true) (hv : i16r x.value) (hw : wdL x.args) : (txA x).length + 10 ≤ 64 * (subE x).length := by
 obtain ⟨hk, ha⟩ := wf_facts h
 have hs := subE_len x
 have hd := sym_len x.op
 have arg : ∀ n (hn : n < x.args.length), (txA x.args[n]).length + 10 ≤ 64 * (subE x.args[n]).length := fun n hn =>
  have hm := wdL_mem hw (List.getElem_mem hn)
  txA_len x.args[n] (ha _ (List.getElem_mem hn)) (wdE_eq x.args[n] ▸ hm).1 (wdE_eq x.args[n] ▸ hm).2
 rw [txA_eq]
 rcases hk with ⟨k, l, r⟩ | ⟨k, l, r, r2⟩ | ⟨k, l, r, r2⟩ | ⟨k, l, r, r2⟩ | ⟨k, l, r, r2⟩ | ⟨k, l, r, r2⟩ <;> simp only [k, Int.reduceBEq, ↓reduceIte, Bool.false_eq_true]
 ·
  unfold i16r at hv
  have := Lib.itoa_length_le x.value (by omega) (by omega)
  omega
 ·
  have := ident_len r; omega
 ·
  have := ident_len r; simp only [List.length_append, List.length_cons, List.length_nil]; omega
 ·
  have := ident_len r
  have h0 := arg 0 (by omega)
  have h1 := subL_mem (l := x.args) (List.getElem_mem (show 0 < x.args.length by omega))
  rw [txL_getD _ 0 (by omega)]
  simp only [List.length_append, List.length_cons, List.length_nil]
  omega
 ·
  have h0 := arg 0 (by omega)
  have h1 := subL_mem (l := x.args) (List.getElem_mem (show 0 < x.args.length by omega))
  rw [txL_getD _ 0 (by omega)]
  have := opS_len (lvA x.args[0], txA x.args[0]) 6
  simp only [List.length_append] at *
  omega
 ·
  have h0 := arg 0 (by omega)
  have h1 := arg 1 (by omega)
  have h2 := subL_two x.args l
  rw [txL_getD _ 0 (by omega), txL_getD _ 1 (by omega)]
  have e0 := opS_len (lvA x.args[0], txA x.args[0]) (if levI x.op == 3 then levI x.op + 1 else levI x.op)
  have e1 := opS_len (lvA x.args[1], txA x.args[1]) (levI x.op + 1)
  simp only [bnT, List.length_append, List.length_cons, List.length_nil] at *
  omega
  termination_by SizeOf.sizeOf x
  decreasing_by exact Ex.args_lt (List.getElem_mem _)
theorem prog166 : Tryz.prog.funcs[166]? = some Tryz.f166 := by kernel_rfl
theorem holds166 (x : Ex) (hop : x.kind = 6 → 0 ≤ x.op ∧ x.op < 16) : Holds Tryz.prog zG 166 [.agg [.int .i64 x.kind, .str x.name, .int .i16 x.value, .int .i64 x.op, .sl 6 (encEs x.args), .int .i64 x.pos]] [.c (.int .i64 (lvA x))] := by
 refine holds_of_body zT prog166 rfl rfl rfl (by simp [Tryz.f166]) ?_
 refine aw_ops zT fun K1 hK1 => ?_
 refine sg ?_
 refine hK1 _ ?_
 clear hK1
 refine aw_seq fun K2 hK2 => ?_
 refine aw_ops zT fun K3 hK3 => ?_
 refine sg ?_
 refine hK3 _ ?_
 clear hK3
 refine aw_block ?_
 refine aw_ops zT fun K4 hK4 => ?_
 refine sg ?_
 refine hK4 _ ?_
 clear hK4
 refine aw_cond rfl (fun h0 => ?_) (fun h0 => ?_)
 ·
  have ho := hop (by simpa using h0)
  have hlev := lev_at x.op ho
  refine aw_ops zT fun K5 hK5 => ?_
  simp only [amset, amlib, zset, hlev, eq_self, ↓reduceIte, reduceCtorEq, Nat.reduceBEq, reduceEqDiff, reduceAdd, reduceMul, reduceLeDiff, reduceLT, reduceSub]
  refine ⟨⟨by omega, by omega⟩, ?_⟩
  refine hK5 _ ?_
  clear hK5
  refine aw_ret ?_
  show resOf zG _ [.tmp 2] = some _
  simp only [amset, amlib, zset, eq_self, ↓reduceIte, reduceCtorEq, Nat.reduceBEq, reduceEqDiff, reduceAdd, reduceMul, reduceLeDiff, reduceLT, reduceSub]
  simp only [lvA, h0, bools, ↓reduceIte]
 ·
  refine aw_ops zT fun K6 hK6 => ?_
  refine sg ?_
  refine hK6 _ ?_
  clear hK6
  refine aw_cond rfl (fun h1 => ?_) (fun h1 => ?_)
  ·
   refine aw_ops zT fun K7 hK7 => ?_
   refine sg ?_
   refine hK7 _ ?_
   clear hK7
   refine aw_ret ?_
   show resOf zG _ [.tmp 2] = some _
   simp only [amset, amlib, zset, eq_self, ↓reduceIte, reduceCtorEq, Nat.reduceBEq, reduceEqDiff, reduceAdd, reduceMul, reduceLeDiff, reduceLT, reduceSub]
   simp only [lvA, h0, h1, bools, ↓reduceIte]
  ·
   refine aw_skip ?_
   simp only [thenQ, blkQ, if_true, reduceIte, Nat.reduceEqDiff, eq_self]
   refine hK2 _ ?_
   clear hK2
   refine aw_ops zT fun K8 hK8 => ?_
   refine sg ?_
   refine hK8 _ ?_
   clear hK8
   refine aw_ret ?_
   show resOf zG _ [.tmp 2] = some _
   simp only [amset, amlib, zset, eq_self, ↓reduceIte, reduceCtorEq, Nat.reduceBEq, reduceEqDiff, reduceAdd, reduceMul, reduceLeDiff, reduceLT, reduceSub]
   simp only [lvA, h0, h1, bools, ↓reduceIte]
theorem prog165 : Tryz.prog.funcs[165]? = some Tryz.f165 := by kernel_rfl
theorem step165 (x : Ex) (least : Int) (hop : x.kind = 6 → 0 ≤ x.op ∧ x.op < 16) (hl : (txA x).length ≤ 64000000000000) (ih : Holds Tryz.prog zG 94 [.agg [.int .i64 x.kind, .str x.name, .int .i16 x.value, .int .i64 x.op, .sl 6 (encEs x.args), .int .i64 x.pos]] [.c (.str (txA x))]) : Holds Tryz.prog zG 165 [.agg [.int .i64 x.kind, .str x.name, .int .i16 x.value, .int .i64 x.op, .sl 6 (encEs x.args), .int .i64 x.pos], .c (.int .i64 least)] [.c (.str (opS (lvA x, txA x) least))] := by
 refine holds_of_body zT prog165 rfl rfl rfl (by simp [Tryz.f165]) ?_
 refine aw_ops zT fun K1 hK1 => ?_
 refine sg ?_
 refine hK1 _ ?_
 clear hK1
 refine aw_seq fun K2 hK2 => ?_
 refine aw_ops zT fun K3 hK3 => ?_
 refine sg ?_
 refine ⟨_, holds166 x hop, ?_⟩
 refine sgl ?_
 refine hK3 _ ?_
 clear hK3
 refine aw_cond rfl (fun h0 => ?_) (fun h0 => ?_)
 ·
  refine aw_ops zT fun K4 hK4 => ?_
  refine sg ?_
  refine ⟨_, ih, ?_⟩
  refine sgl ?_
  refine ⟨by omega, ?_⟩
  refine ⟨by omega, ?_⟩
  refine hK4 _ ?_
  clear hK4
  refine aw_ret ?_
  show resOf zG _ [.tmp 4] = some _
  simp only [amset, amlib, zset, eq_self, ↓reduceIte, reduceCtorEq, Nat.reduceBEq, reduceEqDiff, reduceAdd, reduceMul, reduceLeDiff, reduceLT, reduceSub]
  simp only [opS, h0, bools, ↓reduceIte, List.cons_append, List.nil_append]
 ·
  refine aw_skip ?_
  simp only [thenQ, blkQ, if_true, reduceIte, Nat.reduceEqDiff, eq_self]
  refine hK2 _ ?_
  clear hK2
  refine aw_ops zT fun K5 hK5 => ?_
  refine sg ?_
  refine ⟨_, ih, ?_⟩
  refine sgl ?_
  refine hK5 _ ?_
  clear hK5
  refine aw_ret ?_
  show resOf zG _ [.tmp 4] = some _
  simp only [amset, amlib, zset, eq_self, ↓reduceIte, reduceCtorEq, Nat.reduceBEq, reduceEqDiff, reduceAdd, reduceMul, reduceLeDiff, reduceLT, reduceSub]
  simp only [opS, h0, bools, ↓reduceIte, List.cons_append, List.nil_append]
theorem prog94 : Tryz.prog.funcs[94]? = some Tryz.f94 := by kernel_rfl
theorem step94 (x : Ex) (hx : wfA x = true) (hv : i16r x.value) (hw : wdL x.args) (hs : (subE x).length ≤ 1000000000000) (ih : ∀ y ∈ x.args, Holds Tryz.prog zG 94 [.agg [.int .i64 y.kind, .str y.name, .int .i16 y.value, .int .i64 y.op, .sl 6 (encEs y.args), .int .i64 y.pos]] [.c (.str (txA y))]) (ihop : ∀ y ∈ x.args, ∀ least : Int, Holds Tryz.prog zG 165 [.agg [.int .i64 y.kind, .str y.name, .int .i16 y.value, .int .i64 y.op, .sl 6 (encEs y.args), .int .i64 y.pos], .c (.int .i64 least)] [.c (.str (opS (lvA y, txA y) least))]) : Holds Tryz.prog zG 94 [.agg [.int .i64 x.kind, .str x.name, .int .i16 x.value, .int .i64 x.op, .sl 6 (encEs x.args), .int .i64 x.pos]] [.c (.str (txA x))] := by
 refine holds_of_body zT prog94 rfl rfl rfl (by simp [Tryz.f94]) ?_
 refine aw_ops zT fun K1 hK1 => ?_
 refine sg ?_
 refine hK1 _ ?_
 clear hK1
 refine aw_seq fun K2 hK2 => ?_
 refine aw_ops zT fun K3 hK3 => ?_
 refine sg ?_
 refine hK3 _ ?_
 clear hK3
 refine aw_block ?_
 refine aw_ops zT fun K4 hK4 => ?_
 refine sg ?_
 refine hK4 _ ?_
 clear hK4
 refine aw_cond rfl (fun h0 => ?_) (fun h0 => ?_)
 ·
  have ev := i64_same (n := x.value) (by unfold i16r at hv; omega)
  refine aw_ops zT fun K5 hK5 => ?_
  simp only [amset, amlib, zset, ev, eq_self, ↓reduceIte, reduceCtorEq, Nat.reduceBEq, reduceEqDiff, reduceAdd, reduceMul, reduceLeDiff, reduceLT, reduceSub]
  refine ⟨_, holds86 x.value (by unfold i16r at hv; omega) (by unfold i16r at hv; omega), ?_⟩
  simp only [later]
  simp only [amset, amlib, zset, ev, eq_self, ↓reduceIte, reduceCtorEq, Nat.reduceBEq, reduceEqDiff, reduceAdd, reduceMul, reduceLeDiff, reduceLT, reduceSub]
  refine hK5 _ ?_
  clear hK5
  refine aw_ret ?_
  show resOf zG _ [.tmp 2] = some _
  simp only [amset, amlib, zset, eq_self, ↓reduceIte, reduceCtorEq, Nat.reduceBEq, reduceEqDiff, reduceAdd, reduceMul, reduceLeDiff, reduceLT, reduceSub]
  rw [txA_eq x]
  simp only [h0, ↓reduceIte, Bool.false_eq_true, bnT, List.append_assoc, List.cons_append, List.nil_append]
 ·
  refine aw_ops zT fun K6 hK6 => ?_
  refine sg ?_
  refine hK6 _ ?_
  clear hK6
  refine aw_cond rfl (fun h1 => ?_) (fun h1 => ?_)
  ·
   refine aw_ops zT fun K7 hK7 => ?_
   refine sg ?_
   refine hK7 _ ?_
   clear hK7
   refine aw_ret ?_
   show resOf zG _ [.tmp 2] = some _
   simp only [amset, amlib, zset, eq_self, ↓reduceIte, reduceCtorEq, Nat.reduceBEq, reduceEqDiff, reduceAdd, reduceMul, reduceLeDiff, reduceLT, reduceSub]
   rw [txA_eq x]
   simp only [h0, h1, ↓reduceIte, Bool.false_eq_true, bnT, List.append_assoc, List.cons_append, List.nil_append]
  ·
   refine aw_ops zT fun K8 hK8 => ?_
   refine sg ?_
   refine hK8 _ ?_
   clear hK8
   refine aw_cond rfl (fun h2 => ?_) (fun h2 => ?_)
   ·
    have hwf := wf_facts hx
    have hdl := sym_len x.op
    have hlr := lev_range x.op
    have hsz := subE_len x
    have hk : x.kind = 3 := by simpa using h2
    have ha : x.args.length = 1 := by omega
    have hnl : x.name.length ≤ 32 := ident_len (by rcases hwf.1 with ⟨k, r⟩ | ⟨k, r⟩ | ⟨k, r⟩ | ⟨k, l, r, _⟩ | ⟨k, r⟩ | ⟨k, r⟩ <;> first | exact r | omega)
    have hm0 : x.args[0] ∈ x.args := List.getElem_mem _
    have hget0 : (encEs x.args).getD (Int.toNat 0) [] = encE x.args[0] := encEs_getD _ 0 (by omega)
    have htx0 := txL_getD x.args 0 (by omega)
    have hn0 := txA_len x.args[0] (hwf.2 _ hm0) (wdE_eq x.args[0] ▸ wdL_mem hw hm0).1 (wdE_eq x.args[0] ▸ wdL_mem hw hm0).2
    have hq0 := subL_mem hm0
    have hol0 := fun l => opS_len' (lvA x.args[0]) (txA x.args[0]) l
    refine aw_draw zT prog_mixed fun K9 hK9 => ?_
    simp only [amset, amlib, zset, hget0, eq_self, ↓reduceIte, reduceCtorEq, Nat.reduceBEq, reduceEqDiff, reduceAdd, reduceMul, reduceLeDiff, reduceLT, reduceSub]
    refine ⟨by omega, ?_⟩
    refine ⟨⟨by omega, by omega⟩, ?_⟩
    refine ⟨_, ih _ (List.getElem_mem (h := by omega)), ?_⟩
    simp only [later]
    simp only [amset, amlib, zset, hget0, eq_self, ↓reduceIte, reduceCtorEq, Nat.reduceBEq, reduceEqDiff, reduceAdd, reduceMul, reduceLeDiff, reduceLT, reduceSub]
    refine ⟨by omega, ?_⟩
    refine ⟨by omega, ?_⟩
    refine ⟨by kernel_rfl, ?_⟩
    refine hK9 _ ?_
    clear hK9
    refine aw_ret ?_
    show resOf zG _ [.tmp 2] = some _
    simp only [amset, amlib, zset, eq_self, ↓reduceIte, reduceCtorEq, Nat.reduceBEq, reduceEqDiff, reduceAdd, reduceMul, reduceLeDiff, reduceLT, reduceSub]
    rw [txA_eq x]
    simp only [h0, h1, h2, htx0, ↓reduceIte, Bool.false_eq_true, bnT, List.append_assoc, List.cons_append, List.nil_append]
   ·
    refine aw_ops zT fun K10 hK10 => ?_
    refine sg ?_
    refine hK10 _ ?_
    clear hK10
    refine aw_cond rfl (fun h3 => ?_) (fun h3 => ?_)
    ·
     have hwf := wf_facts hx
     have hk : x.kind = 4 := by simpa using h3
     have hnl : x.name.length ≤ 32 := ident_len (by rcases hwf.1 with ⟨k, r⟩ | ⟨k, r⟩ | ⟨k, l, r, _⟩ | ⟨k, r⟩ | ⟨k, r⟩ | ⟨k, r⟩ <;> first | exact r | omega)
     refine aw_ops zT fun K11 hK11 => ?_
     refine sg ?_
     refine ⟨by omega, ?_⟩
     refine ⟨by omega, ?_⟩
     refine hK11 _ ?_
     clear hK11
     refine aw_ret ?_
     show resOf zG _ [.tmp 2] = some _
     simp only [amset, amlib, zset, eq_self, ↓reduceIte, reduceCtorEq, Nat.reduceBEq, reduceEqDiff, reduceAdd, reduceMul, reduceLeDiff, reduceLT, reduceSub]
     rw [txA_eq x]
     simp only [h0, h1, h2, h3, ↓reduceIte, Bool.false_eq_true, bnT, List.append_assoc, List.cons_append, List.nil_append]
    ·
     refine aw_ops zT fun K12 hK12 => ?_
     refine sg ?_
     refine hK12 _ ?_
     clear hK12
     refine aw_cond rfl (fun h4 => ?_) (fun h4 => ?_)
     ·
      have hwf := wf_facts hx
      have hdl := sym_len x.op
      have hlr := lev_range x.op
      have hsz := subE_len x
      have hk : x.kind = 5 := by simpa using h4
      have ha : x.args.length = 1 := by omega
      have ho : 1 ≤ x.op ∧ x.op ≤ 2 := by omega
      have hsy := sym_at x.op (by omega)
      have hm0 : x.args[0] ∈ x.args := List.getElem_mem _
      have hget0 : (encEs x.args).getD (Int.toNat 0) [] = encE x.args[0] := encEs_getD _ 0 (by omega)
      have htx0 := txL_getD x.args 0 (by omega)
      have hn0 := txA_len x.args[0] (hwf.2 _ hm0) (wdE_eq x.args[0] ▸ wdL_mem hw hm0).1 (wdE_eq x.args[0] ▸ wdL_mem hw hm0).2
      have hq0 := subL_mem hm0
      have hol0 := fun l => opS_len' (lvA x.args[0]) (txA x.args[0]) l
      have hol := hol0 6
      refine aw_draw zT prog_mixed fun K13 hK13 => ?_
      simp only [amset, amlib, zset, hget0, hsy, eq_self, ↓reduceIte, reduceCtorEq, Nat.reduceBEq, reduceEqDiff, reduceAdd, reduceMul, reduceLeDiff, reduceLT, reduceSub]
      refine ⟨⟨by omega, by omega⟩, ?_⟩
      refine ⟨⟨by omega, by omega⟩, ?_⟩
      refine ⟨_, ihop _ (List.getElem_mem (h := by omega)) _, ?_⟩
      simp only [later]
      simp only [amset, amlib, zset, hget0, hsy, eq_self, ↓reduceIte, reduceCtorEq, Nat.reduceBEq, reduceEqDiff, reduceAdd, reduceMul, reduceLeDiff, reduceLT, reduceSub]
      refine ⟨by omega, ?_⟩
      refine ⟨by kernel_rfl, ?_⟩
      refine hK13 _ ?_
      clear hK13
      refine aw_ret ?_
      show resOf zG _ [.tmp 2] = some _
      simp only [amset, amlib, zset, eq_self, ↓reduceIte, reduceCtorEq, Nat.reduceBEq, reduceEqDiff, reduceAdd, reduceMul, reduceLeDiff, reduceLT, reduceSub]
      rw [txA_eq x]
      simp only [h0, h1, h2, h3, h4, htx0, ↓reduceIte, Bool.false_eq_true, bnT, List.append_assoc, List.cons_append, List.nil_append]
     ·
      refine aw_skip ?_
      simp only [thenQ, blkQ, if_true, reduceIte, Nat.reduceEqDiff, eq_self]
      refine hK2 _ ?_
      clear hK2
      have hwf := wf_facts hx
      have hdl := sym_len x.op
      have hlr := lev_range x.op
      have hsz := subE_len x
      simp only [beq_eq_false_iff_ne] at h0 h1 h2 h3 h4
      have hk : x.kind = 6 := by omega
      have hlv : lvA x = levI x.op := by simp [lvA, hk]
      have ha : x.args.length = 2 := by omega
      have ho : 3 ≤ x.op ∧ x.op ≤ 15 := by omega
      have hm0 : x.args[0] ∈ x.args := List.getElem_mem _
      have hget0 : (encEs x.args).getD (Int.toNat 0) [] = encE x.args[0] := encEs_getD _ 0 (by omega)
      have htx0 := txL_getD x.args 0 (by omega)
      have hn0 := txA_len x.args[0] (hwf.2 _ hm0) (wdE_eq x.args[0] ▸ wdL_mem hw hm0).1 (wdE_eq x.args[0] ▸ wdL_mem hw hm0).2
      have hq0 := subL_mem hm0
      have hol0 := fun l => opS_len' (lvA x.args[0]) (txA x.args[0]) l
      have hm1 : x.args[1] ∈ x.args := List.getElem_mem _
      have hget1 : (encEs x.args).getD (Int.toNat 1) [] = encE x.args[1] := encEs_getD _ 1 (by omega)
      have htx1 := txL_getD x.args 1 (by omega)
      have hn1 := txA_len x.args[1] (hwf.2 _ hm1) (wdE_eq x.args[1] ▸ wdL_mem hw hm1).1 (wdE_eq x.args[1] ▸ wdL_mem hw hm1).2
      have hq1 := subL_mem hm1
      have hol1 := fun l => opS_len' (lvA x.args[1]) (txA x.args[1]) l
      have hsy := sym_at x.op (by omega)
      have hlev8 : gLevels.drop (Int.toNat 8 * 1) = .int .i64 3 :: gLevels.drop 9 := rfl
      refine aw_ops zT fun K14 hK14 => ?_
      refine sg ?_
      refine ⟨_, holds166 x (fun _ => by omega), ?_⟩
      refine sgl ?_
      refine hK14 _ ?_
      clear hK14
      refine aw_ops zT fun K15 hK15 => ?_
      simp only [amset, amlib, zset, hlv, eq_self, ↓reduceIte, reduceCtorEq, Nat.reduceBEq, reduceEqDiff, reduceAdd, reduceMul, reduceLeDiff, reduceLT, reduceSub]
      refine hK15 _ ?_
      clear hK15
      refine aw_seq fun K16 hK16 => ?_
      refine aw_ops zT fun K17 hK17 => ?_
      simp only [amset, amlib, zset, hlev8, hlv, eq_self, ↓reduceIte, reduceCtorEq, Nat.reduceBEq, reduceEqDiff, reduceAdd, reduceMul, reduceLeDiff, reduceLT, reduceSub]
      refine ⟨⟨by omega, by omega⟩, ?_⟩
      refine hK17 _ ?_
      clear hK17
      refine aw_cond rfl (fun h5 => ?_) (fun h5 => ?_)
      ·
       refine aw_region zT ?_
       refine sg ?_
       refine ⟨⟨by omega, by omega⟩, ?_⟩
       refine hK16 _ ?_
       clear hK16
       refine aw_draw zT prog_mixed fun K18 hK18 => ?_
       simp only [amset, amlib, zset, hget0, hget1, hsy, hlv, eq_self, ↓reduceIte, reduceCtorEq, Nat.reduceBEq, reduceEqDiff, reduceAdd, reduceMul, reduceLeDiff, reduceLT, reduceSub]
       refine ⟨⟨by omega, by omega⟩, ?_⟩
       refine ⟨_, ihop _ (List.getElem_mem (h := by omega)) _, ?_⟩
       simp only [later]
       simp only [amset, amlib, zset, hget0, hget1, hsy, hlv, eq_self, ↓reduceIte, reduceCtorEq, Nat.reduceBEq, reduceEqDiff, reduceAdd, reduceMul, reduceLeDiff, reduceLT, reduceSub]
       refine ⟨by have := hol0 (levI x.op); have := hol0 (levI x.op + 1); have := hol1 (levI x.op + 1); omega, ?_⟩
       refine ⟨⟨by omega, by omega⟩, ?_⟩
       refine ⟨by have := hol0 (levI x.op); have := hol0 (levI x.op + 1); have := hol1 (levI x.op + 1); omega, ?_⟩
       refine ⟨by have := hol0 (levI x.op); have := hol0 (levI x.op + 1); have := hol1 (levI x.op + 1); omega, ?_⟩
       refine ⟨⟨by omega, by omega⟩, ?_⟩
       refine ⟨⟨by omega, by omega⟩, ?_⟩
       refine ⟨_, ihop _ (List.getElem_mem (h := by omega)) _, ?_⟩
       simp only [later]
       simp only [amset, amlib, zset, hget0, hget1, hsy, hlv, eq_self, ↓reduceIte, reduceCtorEq, Nat.reduceBEq, reduceEqDiff, reduceAdd, reduceMul, reduceLeDiff, reduceLT, reduceSub]
       refine ⟨by have := hol0 (levI x.op); have := hol0 (levI x.op + 1); have := hol1 (levI x.op + 1); omega, ?_⟩
       refine ⟨by kernel_rfl, ?_⟩
       refine hK18 _ ?_
       clear hK18
       refine aw_ret ?_
       show resOf zG _ [.tmp 2] = some _
       simp only [amset, amlib, zset, eq_self, ↓reduceIte, reduceCtorEq, Nat.reduceBEq, reduceEqDiff, reduceAdd, reduceMul, reduceLeDiff, reduceLT, reduceSub]
       rw [txA_eq x]
       simp only [(show (x.kind == 1) = false by simp [hk]), (show (x.kind == 2) = false by simp [hk]), (show (x.kind == 3) = false by simp [hk]), (show (x.kind == 4) = false by simp [hk]), (show (x.kind == 5) = false by simp [hk]), h5, htx0, htx1, ↓reduceIte, Bool.false_eq_true, bnT, List.append_assoc, List.cons_append, List.nil_append]
      ·
       refine aw_skip ?_
       simp only [thenQ, blkQ, if_true, reduceIte, Nat.reduceEqDiff, eq_self]
       refine hK16 _ ?_
       clear hK16
       refine aw_draw zT prog_mixed fun K19 hK19 => ?_
       simp only [amset, amlib, zset, hget0, hget1, hsy, hlv, eq_self, ↓reduceIte, reduceCtorEq, Nat.reduceBEq, reduceEqDiff, reduceAdd, reduceMul, reduceLeDiff, reduceLT, reduceSub]
       refine ⟨⟨by omega, by omega⟩, ?_⟩
       refine ⟨_, ihop _ (List.getElem_mem (h := by omega)) _, ?_⟩
       simp only [later]
       simp only [amset, amlib, zset, hget0, hget1, hsy, hlv, eq_self, ↓reduceIte, reduceCtorEq, Nat.reduceBEq, reduceEqDiff, reduceAdd, reduceMul, reduceLeDiff, reduceLT, reduceSub]
       refine ⟨by have := hol0 (levI x.op); have := hol0 (levI x.op + 1); have := hol1 (levI x.op + 1); omega, ?_⟩
       refine ⟨⟨by omega, by omega⟩, ?_⟩
       refine ⟨by have := hol0 (levI x.op); have := hol0 (levI x.op + 1); have := hol1 (levI x.op + 1); omega, ?_⟩
       refine ⟨by have := hol0 (levI x.op); have := hol0 (levI x.op + 1); have := hol1 (levI x.op + 1); omega, ?_⟩
       refine ⟨⟨by omega, by omega⟩, ?_⟩
       refine ⟨⟨by omega, by omega⟩, ?_⟩
       refine ⟨_, ihop _ (List.getElem_mem (h := by omega)) _, ?_⟩
       simp only [later]
       simp only [amset, amlib, zset, hget0, hget1, hsy, hlv, eq_self, ↓reduceIte, reduceCtorEq, Nat.reduceBEq, reduceEqDiff, reduceAdd, reduceMul, reduceLeDiff, reduceLT, reduceSub]
       refine ⟨by have := hol0 (levI x.op); have := hol0 (levI x.op + 1); have := hol1 (levI x.op + 1); omega, ?_⟩
       refine ⟨by kernel_rfl, ?_⟩
       refine hK19 _ ?_
       clear hK19
       refine aw_ret ?_
       show resOf zG _ [.tmp 2] = some _
       simp only [amset, amlib, zset, eq_self, ↓reduceIte, reduceCtorEq, Nat.reduceBEq, reduceEqDiff, reduceAdd, reduceMul, reduceLeDiff, reduceLT, reduceSub]
       rw [txA_eq x]
       simp only [(show (x.kind == 1) = false by simp [hk]), (show (x.kind == 2) = false by simp [hk]), (show (x.kind == 3) = false by simp [hk]), (show (x.kind == 4) = false by simp [hk]), (show (x.kind == 5) = false by simp [hk]), h5, htx0, htx1, ↓reduceIte, Bool.false_eq_true, bnT, List.append_assoc, List.cons_append, List.nil_append]
theorem holds94 (x : Ex) (hx : wfA x = true) (hv : i16r x.value) (hw : wdL x.args) (hs : (subE x).length ≤ 1000000000000) : Holds Tryz.prog zG 94 [.agg [.int .i64 x.kind, .str x.name, .int .i16 x.value, .int .i64 x.op, .sl 6 (encEs x.args), .int .i64 x.pos]] [.c (.str (txA x))] :=
 have hwf := wf_facts hx
 have ih : ∀ y ∈ x.args, Holds Tryz.prog zG 94 [.agg [.int .i64 y.kind, .str y.name, .int .i16 y.value, .int .i64 y.op, .sl 6 (encEs y.args), .int .i64 y.pos]] [.c (.str (txA y))] := fun y hy => holds94 y (hwf.2 y hy) (wdE_eq y ▸ wdL_mem hw hy).1 (wdE_eq y ▸ wdL_mem hw hy).2 (by have := subL_mem hy; have := subE_len x; omega)
 step94 x hx hv hw hs ih fun y hy least => step165 y least (fun hk => by have := (wf_facts (hwf.2 y hy)).1; omega) (by have := txA_len y (hwf.2 y hy) (wdE_eq y ▸ wdL_mem hw hy).1 (wdE_eq y ▸ wdL_mem hw hy).2; have := subL_mem hy; have := subE_len x; omega) (ih y hy)
  termination_by SizeOf.sizeOf x
  decreasing_by exact Ex.args_lt hy
theorem prog34 : Tryz.prog.funcs[34]? = some Tryz.f34 := by kernel_rfl
theorem holds34 (x : Ex) (hv : i16r x.value) (hw : wdL x.args) (hs : (subE x).length ≤ 1000000000000) : Holds Tryz.prog zG 34 [.agg [.int .i64 x.kind, .str x.name, .int .i16 x.value, .int .i64 x.op, .sl 6 (encEs x.args), .int .i64 x.pos]] [.c (.str (if wfA x then txA x else []))] := by
 refine holds_of_body zT prog34 rfl rfl rfl (by simp [Tryz.f34]) ?_
 refine aw_ops zT fun K1 hK1 => ?_
 refine sg ?_
 refine hK1 _ ?_
 clear hK1
 refine aw_seq fun K2 hK2 => ?_
 refine aw_ops zT fun K3 hK3 => ?_
 refine sg ?_
 refine ⟨_, holds93 x, ?_⟩
 refine sgl ?_
 refine hK3 _ ?_
 clear hK3
 refine aw_cond rfl (fun h0 => ?_) (fun h0 => ?_)
 ·
  refine aw_ops zT fun K4 hK4 => ?_
  refine sg ?_
  refine hK4 _ ?_
  clear hK4
  refine aw_ret ?_
  show resOf zG _ [.tmp 2] = some _
  refine sg ?_
  have h1 : wfA x = !(!wfA x) := by simp
  rw [h1, h0]
  rfl
 ·
  refine aw_skip ?_
  simp only [thenQ, blkQ, if_true, reduceIte, Nat.reduceEqDiff, eq_self]
  refine hK2 _ ?_
  clear hK2
  refine aw_ops zT fun K5 hK5 => ?_
  refine sg ?_
  refine ⟨_, holds94 x (by simpa using h0) hv hw hs, ?_⟩
  refine sgl ?_
  refine hK5 _ ?_
  clear hK5
  refine aw_ret ?_
  show resOf zG _ [.tmp 2] = some _
  refine sg ?_
  have h1 : wfA x = !(!wfA x) := by simp
  rw [h1, h0]
  rfl
end Go.Proofs.Am
set_option maxRecDepth 100000
set_option maxHeartbeats 4000000
namespace Go.Proofs.Am
open Nat (reduceEqDiff reduceAdd reduceMul reduceLeDiff reduceLT reduceSub)
def tX (x : St) (n : Nat) : List UInt8 := ((txL x.args).getD n (0, [])).2
def smA (x : St) : List UInt8 := if x.kind == 1 then [108, 101, 116, 32] ++ x.name ++ [32, 61, 32] ++ tX x 0 ++ [59] else if x.kind == 2 then x.name ++ [32, 61, 32] ++ tX x 0 ++ [59] else if x.kind == 3 then x.name ++ [91] ++ tX x 0 ++ [93, 32, 61, 32] ++ tX x 1 ++ [59] else if x.kind == 7 then [115, 101, 110, 100, 32] ++ x.name ++ [32] ++ tX x 0 ++ [59] else if x.kind == 8 then [101, 109, 105, 116, 32] ++ tX x 0 ++ [59] else if x.kind == 9 then [111, 117, 116, 112, 117, 116, 32] ++ x.name ++ [32] ++ tX x 0 ++ [59] else if x.kind == 12 then [99, 104, 101, 99, 107, 112, 111, 105, 110, 116, 59] else [114, 101, 116, 117, 114, 110, 59]
def hdA (x : St) : List UInt8 := if x.kind == 4 then [105, 102, 32] ++ tX x 0 ++ [32, 123] else if x.kind == 6 then [119, 104, 105, 108, 101, 32] ++ tX x 0 ++ [32, 123] else if x.kind == 5 then [114, 101, 112, 101, 97, 116, 32] ++ Lib.itoa x.n ++ [32, 123] else if x.kind == 10 then [102, 114, 101, 115, 104, 32] ++ Lib.itoa x.n ++ [32, 123] else [116, 111, 103, 101, 116, 104, 101, 114, 32] ++ Lib.itoa x.n ++ [32, 123]
def agOK (x : St) : Prop := ((x.kind = 1 ∨ x.kind = 2 ∨ x.kind = 4 ∨ x.kind = 6 ∨ x.kind = 7 ∨ x.kind = 8 ∨ x.kind = 9) → 1 ≤ x.args.length) ∧ (x.kind = 3 → 2 ≤ x.args.length)
theorem i64_itoa (n : Int) (h : 0 ≤ n ∧ n ≤ 32767) : -9223372036854775808 ≤ n ∧ n ≤ 9223372036854775807 ∧ (Lib.itoa n).length ≤ 30 := by
 have := Lib.itoa_length_le n (by omega) (by omega)
 omega
def optA (w : List UInt8) (n : Int) : List UInt8 := if n == 0 then [] else [32] ++ w ++ [32] ++ Lib.itoa n
def varA (g : Gl) : List UInt8 := if decide (g.len > 0) then [118, 97, 114, 32] ++ g.name ++ [91] ++ Lib.itoa g.len ++ [93, 59, 10] else if g.init != 0 then [118, 97, 114, 32] ++ g.name ++ [32, 61, 32] ++ Lib.itoa g.init ++ [59, 10] else [118, 97, 114, 32] ++ g.name ++ [59, 10]
theorem prog200 : Tryz.prog.funcs[200]? = some Tryz.f200 := by kernel_rfl
theorem holds200 (x : St) (hg : agOK x) (ha : ∀ y ∈ x.args, wfA y = true) (hw : wdL x.args) (hs : (subL x.args).length ≤ 1000000000000) (hl : (smA x).length ≤ 1000000000000) : Holds Tryz.prog zG 200 [.agg [.int .i64 x.kind, .str x.name, .int .i64 x.n, .sl 6 (encEs x.args), .sl 7 (encSs x.body), .sl 7 (encSs x.els), .int .i64 x.pos]] [.c (.str (smA x))] := by
 refine holds_of_body zT prog200 rfl rfl rfl (by simp [Tryz.f200]) ?_
 refine aw_ops zT fun K1 hK1 => ?_
 refine sg ?_
 refine hK1 _ ?_
 clear hK1
 refine aw_seq fun K2 hK2 => ?_
 refine aw_ops zT fun K3 hK3 => ?_
 refine sg ?_
 refine hK3 _ ?_
 clear hK3
 refine aw_block ?_
 refine aw_ops zT fun K4 hK4 => ?_
 refine sg ?_
 refine hK4 _ ?_
 clear hK4
 refine aw_cond rfl (fun h0 => ?_) (fun h0 => ?_)
 ·
  have hk : x.kind = 1 := by simpa using h0
  have h1l : 1 ≤ x.args.length := hg.1 (by omega)
  have hm0 : x.args[0] ∈ x.args := List.getElem_mem _
  have hget0 : (encEs x.args).getD (Int.toNat 0) [] = encE x.args[0] := encEs_getD _ 0 (by omega)
  have htx0 : tX x 0 = txA x.args[0] := by unfold tX; rw [txL_getD x.args 0 (by omega)]
  have hq0 := subL_mem hm0
  have hl2 := hl
  simp only [smA, hk, Int.reduceBEq, Bool.false_eq_true, ↓reduceIte, List.length_append, List.length_cons, List.length_nil, htx0] at hl2
  refine aw_draw zT prog_mixed fun K5 hK5 => ?_
  simp only [amset, amlib, zset, hget0, eq_self, ↓reduceIte, reduceCtorEq, Nat.reduceBEq, reduceEqDiff, reduceAdd, reduceMul, reduceLeDiff, reduceLT, reduceSub]
  refine ⟨by omega, ?_⟩
  refine ⟨by omega, ?_⟩
  refine ⟨⟨by omega, by omega⟩, ?_⟩
  refine ⟨_, holds94 x.args[0] (ha _ hm0) (wdE_eq x.args[0] ▸ wdL_mem hw hm0).1 (wdE_eq x.args[0] ▸ wdL_mem hw hm0).2 (by omega), ?_⟩
  simp only [later]
  simp only [amset, amlib, zset, hget0, eq_self, ↓reduceIte, reduceCtorEq, Nat.reduceBEq, reduceEqDiff, reduceAdd, reduceMul, reduceLeDiff, reduceLT, reduceSub]
  refine ⟨by omega, ?_⟩
  refine ⟨by omega, ?_⟩
  refine ⟨by kernel_rfl, ?_⟩
  refine hK5 _ ?_
  clear hK5
  refine aw_ret ?_
  show resOf zG _ [.tmp 2] = some _
  simp only [amset, amlib, zset, eq_self, ↓reduceIte, reduceCtorEq, Nat.reduceBEq, reduceEqDiff, reduceAdd, reduceMul, reduceLeDiff, reduceLT, reduceSub]
  simp only [smA, h0, htx0, Bool.false_eq_true, ↓reduceIte, List.append_assoc, List.cons_append, List.nil_append]
 ·
  refine aw_ops zT fun K6 hK6 => ?_
  refine sg ?_
  refine hK6 _ ?_
  clear hK6
  refine aw_cond rfl (fun h1 => ?_) (fun h1 => ?_)
  ·
   have hk : x.kind = 2 := by simpa using h1
   have h1l : 1 ≤ x.args.length := hg.1 (by omega)
   have hm0 : x.args[0] ∈ x.args := List.getElem_mem _
   have hget0 : (encEs x.args).getD (Int.toNat 0) [] = encE x.args[0] := encEs_getD _ 0 (by omega)
   have htx0 : tX x 0 = txA x.args[0] := by unfold tX; rw [txL_getD x.args 0 (by omega)]
   have hq0 := subL_mem hm0
   have hl2 := hl
   simp only [smA, hk, Int.reduceBEq, Bool.false_eq_true, ↓reduceIte, List.length_append, List.length_cons, List.length_nil, htx0] at hl2
   refine aw_draw zT prog_mixed fun K7 hK7 => ?_
   simp only [amset, amlib, zset, hget0, eq_self, ↓reduceIte, reduceCtorEq, Nat.reduceBEq, reduceEqDiff, reduceAdd, reduceMul, reduceLeDiff, reduceLT, reduceSub]
   refine ⟨by omega, ?_⟩
   refine ⟨⟨by omega, by omega⟩, ?_⟩
   refine ⟨_, holds94 x.args[0] (ha _ hm0) (wdE_eq x.args[0] ▸ wdL_mem hw hm0).1 (wdE_eq x.args[0] ▸ wdL_mem hw hm0).2 (by omega), ?_⟩
   simp only [later]
   simp only [amset, amlib, zset, hget0, eq_self, ↓reduceIte, reduceCtorEq, Nat.reduceBEq, reduceEqDiff, reduceAdd, reduceMul, reduceLeDiff, reduceLT, reduceSub]
   refine ⟨by omega, ?_⟩
   refine ⟨by omega, ?_⟩
   refine ⟨by kernel_rfl, ?_⟩
   refine hK7 _ ?_
   clear hK7
   refine aw_ret ?_
   show resOf zG _ [.tmp 2] = some _
   simp only [amset, amlib, zset, eq_self, ↓reduceIte, reduceCtorEq, Nat.reduceBEq, reduceEqDiff, reduceAdd, reduceMul, reduceLeDiff, reduceLT, reduceSub]
   simp only [smA, h0, h1, htx0, Bool.false_eq_true, ↓reduceIte, List.append_assoc, List.cons_append, List.nil_append]
  ·
   refine aw_ops zT fun K8 hK8 => ?_
   refine sg ?_
   refine hK8 _ ?_
   clear hK8
   refine aw_cond rfl (fun h2 => ?_) (fun h2 => ?_)
   ·
    have hk : x.kind = 3 := by simpa using h2
    have h2l : 2 ≤ x.args.length := hg.2 hk
    have hm0 : x.args[0] ∈ x.args := List.getElem_mem _
    have hget0 : (encEs x.args).getD (Int.toNat 0) [] = encE x.args[0] := encEs_getD _ 0 (by omega)
    have htx0 : tX x 0 = txA x.args[0] := by unfold tX; rw [txL_getD x.args 0 (by omega)]
    have hq0 := subL_mem hm0
    have hm1 : x.args[1] ∈ x.args := List.getElem_mem _
    have hget1 : (encEs x.args).getD (Int.toNat 1) [] = encE x.args[1] := encEs_getD _ 1 (by omega)
    have htx1 : tX x 1 = txA x.args[1] := by unfold tX; rw [txL_getD x.args 1 (by omega)]
    have hq1 := subL_mem hm1
    have hl2 := hl
    simp only [smA, hk, Int.reduceBEq, Bool.false_eq_true, ↓reduceIte, List.length_append, List.length_cons, List.length_nil, htx0, htx1] at hl2
    refine aw_draw zT prog_mixed fun K9 hK9 => ?_
    simp only [amset, amlib, zset, hget0, hget1, eq_self, ↓reduceIte, reduceCtorEq, Nat.reduceBEq, reduceEqDiff, reduceAdd, reduceMul, reduceLeDiff, reduceLT, reduceSub]
    refine ⟨by omega, ?_⟩
    refine ⟨⟨by omega, by omega⟩, ?_⟩
    refine ⟨_, holds94 x.args[0] (ha _ hm0) (wdE_eq x.args[0] ▸ wdL_mem hw hm0).1 (wdE_eq x.args[0] ▸ wdL_mem hw hm0).2 (by omega), ?_⟩
    simp only [later]
    simp only [amset, amlib, zset, hget0, hget1, eq_self, ↓reduceIte, reduceCtorEq, Nat.reduceBEq, reduceEqDiff, reduceAdd, reduceMul, reduceLeDiff, reduceLT, reduceSub]
    refine ⟨by omega, ?_⟩
    refine ⟨by omega, ?_⟩
    refine ⟨⟨by omega, by omega⟩, ?_⟩
    refine ⟨_, holds94 x.args[1] (ha _ hm1) (wdE_eq x.args[1] ▸ wdL_mem hw hm1).1 (wdE_eq x.args[1] ▸ wdL_mem hw hm1).2 (by omega), ?_⟩
    simp only [later]
    simp only [amset, amlib, zset, hget0, hget1, eq_self, ↓reduceIte, reduceCtorEq, Nat.reduceBEq, reduceEqDiff, reduceAdd, reduceMul, reduceLeDiff, reduceLT, reduceSub]
    refine ⟨by omega, ?_⟩
    refine ⟨by omega, ?_⟩
    refine ⟨by kernel_rfl, ?_⟩
    refine hK9 _ ?_
    clear hK9
    refine aw_ret ?_
    show resOf zG _ [.tmp 2] = some _
    simp only [amset, amlib, zset, eq_self, ↓reduceIte, reduceCtorEq, Nat.reduceBEq, reduceEqDiff, reduceAdd, reduceMul, reduceLeDiff, reduceLT, reduceSub]
    simp only [smA, h0, h1, h2, htx0, htx1, Bool.false_eq_true, ↓reduceIte, List.append_assoc, List.cons_append, List.nil_append]
   ·
    refine aw_ops zT fun K10 hK10 => ?_
    refine sg ?_
    refine hK10 _ ?_
    clear hK10
    refine aw_cond rfl (fun h3 => ?_) (fun h3 => ?_)
    ·
     have hk : x.kind = 7 := by simpa using h3
     have h1l : 1 ≤ x.args.length := hg.1 (by omega)
     have hm0 : x.args[0] ∈ x.args := List.getElem_mem _
     have hget0 : (encEs x.args).getD (Int.toNat 0) [] = encE x.args[0] := encEs_getD _ 0 (by omega)
     have htx0 : tX x 0 = txA x.args[0] := by unfold tX; rw [txL_getD x.args 0 (by omega)]
     have hq0 := subL_mem hm0
     have hl2 := hl
     simp only [smA, hk, Int.reduceBEq, Bool.false_eq_true, ↓reduceIte, List.length_append, List.length_cons, List.length_nil, htx0] at hl2
     refine aw_draw zT prog_mixed fun K11 hK11 => ?_
     simp only [amset, amlib, zset, hget0, eq_self, ↓reduceIte, reduceCtorEq, Nat.reduceBEq, reduceEqDiff, reduceAdd, reduceMul, reduceLeDiff, reduceLT, reduceSub]
     refine ⟨by omega, ?_⟩
     refine ⟨by omega, ?_⟩
     refine ⟨⟨by omega, by omega⟩, ?_⟩
     refine ⟨_, holds94 x.args[0] (ha _ hm0) (wdE_eq x.args[0] ▸ wdL_mem hw hm0).1 (wdE_eq x.args[0] ▸ wdL_mem hw hm0).2 (by omega), ?_⟩
     simp only [later]
     simp only [amset, amlib, zset, hget0, eq_self, ↓reduceIte, reduceCtorEq, Nat.reduceBEq, reduceEqDiff, reduceAdd, reduceMul, reduceLeDiff, reduceLT, reduceSub]
     refine ⟨by omega, ?_⟩
     refine ⟨by omega, ?_⟩
     refine ⟨by kernel_rfl, ?_⟩
     refine hK11 _ ?_
     clear hK11
     refine aw_ret ?_
     show resOf zG _ [.tmp 2] = some _
     simp only [amset, amlib, zset, eq_self, ↓reduceIte, reduceCtorEq, Nat.reduceBEq, reduceEqDiff, reduceAdd, reduceMul, reduceLeDiff, reduceLT, reduceSub]
     simp only [smA, h0, h1, h2, h3, htx0, Bool.false_eq_true, ↓reduceIte, List.append_assoc, List.cons_append, List.nil_append]
    ·
     refine aw_ops zT fun K12 hK12 => ?_
     refine sg ?_
     refine hK12 _ ?_
     clear hK12
     refine aw_cond rfl (fun h4 => ?_) (fun h4 => ?_)
     ·
      have hk : x.kind = 8 := by simpa using h4
      have h1l : 1 ≤ x.args.length := hg.1 (by omega)
      have hm0 : x.args[0] ∈ x.args := List.getElem_mem _
      have hget0 : (encEs x.args).getD (Int.toNat 0) [] = encE x.args[0] := encEs_getD _ 0 (by omega)
      have htx0 : tX x 0 = txA x.args[0] := by unfold tX; rw [txL_getD x.args 0 (by omega)]
      have hq0 := subL_mem hm0
      have hl2 := hl
      simp only [smA, hk, Int.reduceBEq, Bool.false_eq_true, ↓reduceIte, List.length_append, List.length_cons, List.length_nil, htx0] at hl2
      refine aw_ops zT fun K13 hK13 => ?_
      simp only [amset, amlib, zset, hget0, eq_self, ↓reduceIte, reduceCtorEq, Nat.reduceBEq, reduceEqDiff, reduceAdd, reduceMul, reduceLeDiff, reduceLT, reduceSub]
      refine ⟨⟨by omega, by omega⟩, ?_⟩
      refine ⟨_, holds94 x.args[0] (ha _ hm0) (wdE_eq x.args[0] ▸ wdL_mem hw hm0).1 (wdE_eq x.args[0] ▸ wdL_mem hw hm0).2 (by omega), ?_⟩
      simp only [later]
      simp only [amset, amlib, zset, hget0, eq_self, ↓reduceIte, reduceCtorEq, Nat.reduceBEq, reduceEqDiff, reduceAdd, reduceMul, reduceLeDiff, reduceLT, reduceSub]
      refine ⟨by omega, ?_⟩
      refine ⟨by omega, ?_⟩
      refine hK13 _ ?_
      clear hK13
      refine aw_ret ?_
      show resOf zG _ [.tmp 2] = some _
      simp only [amset, amlib, zset, eq_self, ↓reduceIte, reduceCtorEq, Nat.reduceBEq, reduceEqDiff, reduceAdd, reduceMul, reduceLeDiff, reduceLT, reduceSub]
      simp only [smA, h0, h1, h2, h3, h4, htx0, Bool.false_eq_true, ↓reduceIte, List.append_assoc, List.cons_append, List.nil_append]
     ·
      refine aw_ops zT fun K14 hK14 => ?_
      refine sg ?_
      refine hK14 _ ?_
      clear hK14
      refine aw_cond rfl (fun h5 => ?_) (fun h5 => ?_)
      ·
       have hk : x.kind = 9 := by simpa using h5
       have h1l : 1 ≤ x.args.length := hg.1 (by omega)
       have hm0 : x.args[0] ∈ x.args := List.getElem_mem _
       have hget0 : (encEs x.args).getD (Int.toNat 0) [] = encE x.args[0] := encEs_getD _ 0 (by omega)
       have htx0 : tX x 0 = txA x.args[0] := by unfold tX; rw [txL_getD x.args 0 (by omega)]
       have hq0 := subL_mem hm0
       have hl2 := hl
       simp only [smA, hk, Int.reduceBEq, Bool.false_eq_true, ↓reduceIte, List.length_append, List.length_cons, List.length_nil, htx0] at hl2
       refine aw_draw zT prog_mixed fun K15 hK15 => ?_
       simp only [amset, amlib, zset, hget0, eq_self, ↓reduceIte, reduceCtorEq, Nat.reduceBEq, reduceEqDiff, reduceAdd, reduceMul, reduceLeDiff, reduceLT, reduceSub]
       refine ⟨by omega, ?_⟩
       refine ⟨by omega, ?_⟩
       refine ⟨⟨by omega, by omega⟩, ?_⟩
       refine ⟨_, holds94 x.args[0] (ha _ hm0) (wdE_eq x.args[0] ▸ wdL_mem hw hm0).1 (wdE_eq x.args[0] ▸ wdL_mem hw hm0).2 (by omega), ?_⟩
       simp only [later]
       simp only [amset, amlib, zset, hget0, eq_self, ↓reduceIte, reduceCtorEq, Nat.reduceBEq, reduceEqDiff, reduceAdd, reduceMul, reduceLeDiff, reduceLT, reduceSub]
       refine ⟨by omega, ?_⟩
       refine ⟨by omega, ?_⟩
       refine ⟨by kernel_rfl, ?_⟩
       refine hK15 _ ?_
       clear hK15
       refine aw_ret ?_
       show resOf zG _ [.tmp 2] = some _
       simp only [amset, amlib, zset, eq_self, ↓reduceIte, reduceCtorEq, Nat.reduceBEq, reduceEqDiff, reduceAdd, reduceMul, reduceLeDiff, reduceLT, reduceSub]
       simp only [smA, h0, h1, h2, h3, h4, h5, htx0, Bool.false_eq_true, ↓reduceIte, List.append_assoc, List.cons_append, List.nil_append]
      ·
       refine aw_ops zT fun K16 hK16 => ?_
       refine sg ?_
       refine hK16 _ ?_
       clear hK16
       refine aw_cond rfl (fun h6 => ?_) (fun h6 => ?_)
       ·
        refine aw_ops zT fun K17 hK17 => ?_
        refine sg ?_
        refine hK17 _ ?_
        clear hK17
        refine aw_ret ?_
        show resOf zG _ [.tmp 2] = some _
        simp only [amset, amlib, zset, eq_self, ↓reduceIte, reduceCtorEq, Nat.reduceBEq, reduceEqDiff, reduceAdd, reduceMul, reduceLeDiff, reduceLT, reduceSub]
        simp only [smA, h0, h1, h2, h3, h4, h5, h6, Bool.false_eq_true, ↓reduceIte, List.append_assoc, List.cons_append, List.nil_append]
       ·
        refine aw_skip ?_
        simp only [thenQ, blkQ, if_true, reduceIte, Nat.reduceEqDiff, eq_self]
        refine hK2 _ ?_
        clear hK2
        refine aw_ops zT fun K18 hK18 => ?_
        refine sg ?_
        refine hK18 _ ?_
        clear hK18
        refine aw_ret ?_
        show resOf zG _ [.tmp 2] = some _
        simp only [amset, amlib, zset, eq_self, ↓reduceIte, reduceCtorEq, Nat.reduceBEq, reduceEqDiff, reduceAdd, reduceMul, reduceLeDiff, reduceLT, reduceSub]
        simp only [smA, h0, h1, h2, h3, h4, h5, h6, Bool.false_eq_true, ↓reduceIte, List.append_assoc, List.cons_append, List.nil_append]
theorem prog201 : Tryz.prog.funcs[201]? = some Tryz.f201 := by kernel_rfl
theorem holds201 (x : St) (hg : agOK x) (ha : ∀ y ∈ x.args, wfA y = true) (hw : wdL x.args) (hs : (subL x.args).length ≤ 1000000000000) (hn : 0 ≤ x.n ∧ x.n ≤ 32767) (hl : (hdA x).length ≤ 1000000000000) : Holds Tryz.prog zG 201 [.agg [.int .i64 x.kind, .str x.name, .int .i64 x.n, .sl 6 (encEs x.args), .sl 7 (encSs x.body), .sl 7 (encSs x.els), .int .i64 x.pos]] [.c (.str (hdA x))] := by
 refine holds_of_body zT prog201 rfl rfl rfl (by simp [Tryz.f201]) ?_
 refine aw_ops zT fun K1 hK1 => ?_
 refine sg ?_
 refine hK1 _ ?_
 clear hK1
 refine aw_seq fun K2 hK2 => ?_
 refine aw_ops zT fun K3 hK3 => ?_
 refine sg ?_
 refine hK3 _ ?_
 clear hK3
 refine aw_block ?_
 refine aw_ops zT fun K4 hK4 => ?_
 refine sg ?_
 refine hK4 _ ?_
 clear hK4
 refine aw_cond rfl (fun h0 => ?_) (fun h0 => ?_)
 ·
  have hk : x.kind = 4 := by simpa using h0
  have h1l : 1 ≤ x.args.length := hg.1 (by omega)
  have hm0 : x.args[0] ∈ x.args := List.getElem_mem _
  have hget0 : (encEs x.args).getD (Int.toNat 0) [] = encE x.args[0] := encEs_getD _ 0 (by omega)
  have htx0 : tX x 0 = txA x.args[0] := by unfold tX; rw [txL_getD x.args 0 (by omega)]
  have hq0 := subL_mem hm0
  have hl2 := hl
  simp only [hdA, hk, Int.reduceBEq, Bool.false_eq_true, ↓reduceIte, List.length_append, List.length_cons, List.length_nil, htx0] at hl2
  refine aw_ops zT fun K5 hK5 => ?_
  simp only [amset, amlib, zset, hget0, eq_self, ↓reduceIte, reduceCtorEq, Nat.reduceBEq, reduceEqDiff, reduceAdd, reduceMul, reduceLeDiff, reduceLT, reduceSub]
  refine ⟨⟨by omega, by omega⟩, ?_⟩
  refine ⟨_, holds94 x.args[0] (ha _ hm0) (wdE_eq x.args[0] ▸ wdL_mem hw hm0).1 (wdE_eq x.args[0] ▸ wdL_mem hw hm0).2 (by omega), ?_⟩
  simp only [later]
  simp only [amset, amlib, zset, hget0, eq_self, ↓reduceIte, reduceCtorEq, Nat.reduceBEq, reduceEqDiff, reduceAdd, reduceMul, reduceLeDiff, reduceLT, reduceSub]
  refine ⟨by omega, ?_⟩
  refine ⟨by omega, ?_⟩
  refine hK5 _ ?_
  clear hK5
  refine aw_ret ?_
  show resOf zG _ [.tmp 2] = some _
  simp only [amset, amlib, zset, eq_self, ↓reduceIte, reduceCtorEq, Nat.reduceBEq, reduceEqDiff, reduceAdd, reduceMul, reduceLeDiff, reduceLT, reduceSub]
  simp only [hdA, h0, htx0, Bool.false_eq_true, ↓reduceIte, List.append_assoc, List.cons_append, List.nil_append]
 ·
  refine aw_ops zT fun K6 hK6 => ?_
  refine sg ?_
  refine hK6 _ ?_
  clear hK6
  refine aw_cond rfl (fun h1 => ?_) (fun h1 => ?_)
  ·
   have hk : x.kind = 6 := by simpa using h1
   have h1l : 1 ≤ x.args.length := hg.1 (by omega)
   have hm0 : x.args[0] ∈ x.args := List.getElem_mem _
   have hget0 : (encEs x.args).getD (Int.toNat 0) [] = encE x.args[0] := encEs_getD _ 0 (by omega)
   have htx0 : tX x 0 = txA x.args[0] := by unfold tX; rw [txL_getD x.args 0 (by omega)]
   have hq0 := subL_mem hm0
   have hl2 := hl
   simp only [hdA, hk, Int.reduceBEq, Bool.false_eq_true, ↓reduceIte, List.length_append, List.length_cons, List.length_nil, htx0] at hl2
   refine aw_ops zT fun K7 hK7 => ?_
   simp only [amset, amlib, zset, hget0, eq_self, ↓reduceIte, reduceCtorEq, Nat.reduceBEq, reduceEqDiff, reduceAdd, reduceMul, reduceLeDiff, reduceLT, reduceSub]
   refine ⟨⟨by omega, by omega⟩, ?_⟩
   refine ⟨_, holds94 x.args[0] (ha _ hm0) (wdE_eq x.args[0] ▸ wdL_mem hw hm0).1 (wdE_eq x.args[0] ▸ wdL_mem hw hm0).2 (by omega), ?_⟩
   simp only [later]
   simp only [amset, amlib, zset, hget0, eq_self, ↓reduceIte, reduceCtorEq, Nat.reduceBEq, reduceEqDiff, reduceAdd, reduceMul, reduceLeDiff, reduceLT, reduceSub]
   refine ⟨by omega, ?_⟩
   refine ⟨by omega, ?_⟩
   refine hK7 _ ?_
   clear hK7
   refine aw_ret ?_
   show resOf zG _ [.tmp 2] = some _
   simp only [amset, amlib, zset, eq_self, ↓reduceIte, reduceCtorEq, Nat.reduceBEq, reduceEqDiff, reduceAdd, reduceMul, reduceLeDiff, reduceLT, reduceSub]
   simp only [hdA, h0, h1, htx0, Bool.false_eq_true, ↓reduceIte, List.append_assoc, List.cons_append, List.nil_append]
  ·
   refine aw_ops zT fun K8 hK8 => ?_
   refine sg ?_
   refine hK8 _ ?_
   clear hK8
   refine aw_cond rfl (fun h2 => ?_) (fun h2 => ?_)
   ·
    have hi := i64_itoa x.n hn
    refine aw_ops zT fun K9 hK9 => ?_
    refine sg ?_
    refine ⟨_, holds86 x.n hi.1 hi.2.1, ?_⟩
    refine sgl ?_
    refine ⟨by omega, ?_⟩
    refine ⟨by omega, ?_⟩
    refine hK9 _ ?_
    clear hK9
    refine aw_ret ?_
    show resOf zG _ [.tmp 2] = some _
    simp only [amset, amlib, zset, eq_self, ↓reduceIte, reduceCtorEq, Nat.reduceBEq, reduceEqDiff, reduceAdd, reduceMul, reduceLeDiff, reduceLT, reduceSub]
    simp only [hdA, h0, h1, h2, Bool.false_eq_true, ↓reduceIte, List.append_assoc, List.cons_append, List.nil_append]
   ·
    refine aw_ops zT fun K10 hK10 => ?_
    refine sg ?_
    refine hK10 _ ?_
    clear hK10
    refine aw_cond rfl (fun h3 => ?_) (fun h3 => ?_)
    ·
     have hi := i64_itoa x.n hn
     refine aw_ops zT fun K11 hK11 => ?_
     refine sg ?_
     refine ⟨_, holds86 x.n hi.1 hi.2.1, ?_⟩
     refine sgl ?_
     refine ⟨by omega, ?_⟩
     refine ⟨by omega, ?_⟩
     refine hK11 _ ?_
     clear hK11
     refine aw_ret ?_
     show resOf zG _ [.tmp 2] = some _
     simp only [amset, amlib, zset, eq_self, ↓reduceIte, reduceCtorEq, Nat.reduceBEq, reduceEqDiff, reduceAdd, reduceMul, reduceLeDiff, reduceLT, reduceSub]
     simp only [hdA, h0, h1, h2, h3, Bool.false_eq_true, ↓reduceIte, List.append_assoc, List.cons_append, List.nil_append]
    ·
     refine aw_skip ?_
     simp only [thenQ, blkQ, if_true, reduceIte, Nat.reduceEqDiff, eq_self]
     refine hK2 _ ?_
     clear hK2
     have hi := i64_itoa x.n hn
     refine aw_ops zT fun K12 hK12 => ?_
     refine sg ?_
     refine ⟨_, holds86 x.n hi.1 hi.2.1, ?_⟩
     refine sgl ?_
     refine ⟨by omega, ?_⟩
     refine ⟨by omega, ?_⟩
     refine hK12 _ ?_
     clear hK12
     refine aw_ret ?_
     show resOf zG _ [.tmp 2] = some _
     simp only [amset, amlib, zset, eq_self, ↓reduceIte, reduceCtorEq, Nat.reduceBEq, reduceEqDiff, reduceAdd, reduceMul, reduceLeDiff, reduceLT, reduceSub]
     simp only [hdA, h0, h1, h2, h3, Bool.false_eq_true, ↓reduceIte, List.append_assoc, List.cons_append, List.nil_append]
theorem prog88 : Tryz.prog.funcs[88]? = some Tryz.f88 := by kernel_rfl
theorem holds88 (w : List UInt8) (n : Int) (hn : 0 ≤ n ∧ n ≤ 32767) (hw : w.length ≤ 100) : Holds Tryz.prog zG 88 [.c (.str w), .c (.int .i64 n)] [.c (.str (optA w n))] := by
 refine holds_of_body zT prog88 rfl rfl rfl (by simp [Tryz.f88]) ?_
 refine aw_ops zT fun K1 hK1 => ?_
 refine sg ?_
 refine hK1 _ ?_
 clear hK1
 refine aw_seq fun K2 hK2 => ?_
 refine aw_ops zT fun K3 hK3 => ?_
 refine sg ?_
 refine hK3 _ ?_
 clear hK3
 refine aw_cond rfl (fun h0 => ?_) (fun h0 => ?_)
 ·
  refine aw_ops zT fun K4 hK4 => ?_
  refine sg ?_
  refine hK4 _ ?_
  clear hK4
  refine aw_ret ?_
  show resOf zG _ [.tmp 4] = some _
  simp only [amset, amlib, zset, eq_self, ↓reduceIte, reduceCtorEq, Nat.reduceBEq, reduceEqDiff, reduceAdd, reduceMul, reduceLeDiff, reduceLT, reduceSub]
  simp only [optA, h0, Bool.false_eq_true, ↓reduceIte, List.append_assoc, List.cons_append, List.nil_append]
 ·
  refine aw_skip ?_
  simp only [thenQ, blkQ, if_true, reduceIte, Nat.reduceEqDiff, eq_self]
  refine hK2 _ ?_
  clear hK2
  have hi := i64_itoa n hn
  refine aw_ops zT fun K5 hK5 => ?_
  refine sg ?_
  refine ⟨by omega, ?_⟩
  refine ⟨by omega, ?_⟩
  refine ⟨_, holds86 n hi.1 hi.2.1, ?_⟩
  refine sgl ?_
  refine ⟨by omega, ?_⟩
  refine hK5 _ ?_
  clear hK5
  refine aw_ret ?_
  show resOf zG _ [.tmp 4] = some _
  simp only [amset, amlib, zset, eq_self, ↓reduceIte, reduceCtorEq, Nat.reduceBEq, reduceEqDiff, reduceAdd, reduceMul, reduceLeDiff, reduceLT, reduceSub]
  simp only [optA, h0, Bool.false_eq_true, ↓reduceIte, List.append_assoc, List.cons_append, List.nil_append]
theorem prog87 : Tryz.prog.funcs[87]? = some Tryz.f87 := by kernel_rfl
theorem holds87 (g : Gl) (hn : g.name.length ≤ 100) (h1 : g.len ≤ 32767) (h2 : -32768 ≤ g.init ∧ g.init ≤ 32767) : Holds Tryz.prog zG 87 [.agg [.str g.name, .int .i64 g.len, .int .i16 g.init, .int .i64 g.pos]] [.c (.str (varA g))] := by
 refine holds_of_body zT prog87 rfl rfl rfl (by simp [Tryz.f87]) ?_
 refine aw_ops zT fun K1 hK1 => ?_
 refine sg ?_
 refine hK1 _ ?_
 clear hK1
 refine aw_seq fun K2 hK2 => ?_
 refine aw_block ?_
 refine aw_ops zT fun K3 hK3 => ?_
 refine sg ?_
 refine hK3 _ ?_
 clear hK3
 refine aw_cond rfl (fun h0 => ?_) (fun h0 => ?_)
 ·
  have hp : 0 < g.len := by simpa using h0
  have hi := Lib.itoa_length_le g.len (by omega) (by omega)
  refine aw_draw zT prog_mixed fun K4 hK4 => ?_
  refine sg ?_
  refine ⟨by omega, ?_⟩
  refine ⟨by omega, ?_⟩
  refine ⟨_, holds86 g.len (by omega) (by omega), ?_⟩
  refine sgl ?_
  refine ⟨by omega, ?_⟩
  refine ⟨by omega, ?_⟩
  refine ⟨by kernel_rfl, ?_⟩
  refine hK4 _ ?_
  clear hK4
  refine aw_ret ?_
  show resOf zG _ [.tmp 2] = some _
  simp only [amset, amlib, zset, eq_self, ↓reduceIte, reduceCtorEq, Nat.reduceBEq, reduceEqDiff, reduceAdd, reduceMul, reduceLeDiff, reduceLT, reduceSub]
  simp only [varA, h0, Bool.false_eq_true, ↓reduceIte, List.append_assoc, List.cons_append, List.nil_append]
 ·
  refine aw_ops zT fun K5 hK5 => ?_
  refine sg ?_
  refine hK5 _ ?_
  clear hK5
  refine aw_cond rfl (fun h1 => ?_) (fun h1 => ?_)
  ·
   have hi := Lib.itoa_length_le g.init (by omega) (by omega)
   have ev := i64_same (n := g.init) (by omega)
   refine aw_draw zT prog_mixed fun K6 hK6 => ?_
   simp only [amset, amlib, zset, ev, eq_self, ↓reduceIte, reduceCtorEq, Nat.reduceBEq, reduceEqDiff, reduceAdd, reduceMul, reduceLeDiff, reduceLT, reduceSub]
   refine ⟨by omega, ?_⟩
   refine ⟨by omega, ?_⟩
   refine ⟨_, holds86 g.init (by omega) (by omega), ?_⟩
   simp only [later]
   simp only [amset, amlib, zset, ev, eq_self, ↓reduceIte, reduceCtorEq, Nat.reduceBEq, reduceEqDiff, reduceAdd, reduceMul, reduceLeDiff, reduceLT, reduceSub]
   refine ⟨by omega, ?_⟩
   refine ⟨by omega, ?_⟩
   refine ⟨by kernel_rfl, ?_⟩
   refine hK6 _ ?_
   clear hK6
   refine aw_ret ?_
   show resOf zG _ [.tmp 2] = some _
   simp only [amset, amlib, zset, eq_self, ↓reduceIte, reduceCtorEq, Nat.reduceBEq, reduceEqDiff, reduceAdd, reduceMul, reduceLeDiff, reduceLT, reduceSub]
   simp only [varA, h0, h1, Bool.false_eq_true, ↓reduceIte, List.append_assoc, List.cons_append, List.nil_append]
  ·
   refine aw_skip ?_
   simp only [thenQ, blkQ, if_true, reduceIte, Nat.reduceEqDiff, eq_self]
   refine hK2 _ ?_
   clear hK2
   refine aw_ops zT fun K7 hK7 => ?_
   refine sg ?_
   refine ⟨by omega, ?_⟩
   refine ⟨by omega, ?_⟩
   refine hK7 _ ?_
   clear hK7
   refine aw_ret ?_
   show resOf zG _ [.tmp 2] = some _
   simp only [amset, amlib, zset, eq_self, ↓reduceIte, reduceCtorEq, Nat.reduceBEq, reduceEqDiff, reduceAdd, reduceMul, reduceLeDiff, reduceLT, reduceSub]
   simp only [varA, h0, h1, Bool.false_eq_true, ↓reduceIte, List.append_assoc, List.cons_append, List.nil_append]
end Go.Proofs.Am
set_option maxRecDepth 100000
namespace Go.Proofs.Am
open Nat (reduceEqDiff reduceAdd reduceMul reduceLeDiff reduceLT reduceSub)
def numOk (n least : Int) : Bool := decide (n ≥ least) && decide (n ≤ 32767)
theorem prog103 : Tryz.prog.funcs[103]? = some Tryz.f103 := by kernel_rfl
theorem holds103 (n least : Int) : Holds Tryz.prog zG 103 [.c (.int .i64 n), .c (.int .i64 least)] [.c (.bool (numOk n least))] := by
 refine holds_of_body zT prog103 rfl rfl rfl (by simp [Tryz.f103]) ?_
 refine aw_ops zT fun K1 hK1 => ?_
 refine sg ?_
 refine hK1 _ ?_
 clear hK1
 refine aw_ops zT fun K2 hK2 => ?_
 cases g0 : decide (n ≥ least) with
 | true =>
  simp only [amset, amlib, zset, g0, eq_self, ↓reduceIte, reduceCtorEq, Nat.reduceBEq, reduceEqDiff, reduceAdd, reduceMul, reduceLeDiff, reduceLT, reduceSub]
  refine hK2 _ ?_
  clear hK2
  refine aw_ret ?_
  show resOf zG _ [.tmp 4] = some _
  simp only [amset, amlib, zset, eq_self, ↓reduceIte, reduceCtorEq, Nat.reduceBEq, reduceEqDiff, reduceAdd, reduceMul, reduceLeDiff, reduceLT, reduceSub]
  simp only [numOk, g0, bools, ↓reduceIte]
 | false =>
  simp only [amset, amlib, zset, g0, eq_self, ↓reduceIte, reduceCtorEq, Nat.reduceBEq, reduceEqDiff, reduceAdd, reduceMul, reduceLeDiff, reduceLT, reduceSub]
  refine hK2 _ ?_
  clear hK2
  refine aw_ret ?_
  show resOf zG _ [.tmp 4] = some _
  simp only [amset, amlib, zset, eq_self, ↓reduceIte, reduceCtorEq, Nat.reduceBEq, reduceEqDiff, reduceAdd, reduceMul, reduceLeDiff, reduceLT, reduceSub]
  simp only [numOk, g0, bools, ↓reduceIte]
end Go.Proofs.Am
set_option maxRecDepth 100000
namespace Go.Proofs.Am
open Nat (reduceEqDiff reduceAdd reduceMul reduceLeDiff reduceLT reduceSub)
structure Sh where
 name : Bool
 n : Bool
 body : Bool
 els : Bool
 args : Int
def encSh (x : Sh) : List C := [.bool x.name, .bool x.n, .bool x.body, .bool x.els, .int .i64 x.args]
def shapeK (k : Int) : Sh × Bool :=
 if (k == 1 || k == 2 || k == 7 || k == 9) then (⟨true, false, false, false, 1⟩, true)
 else if (k == 3) then (⟨true, false, false, false, 2⟩, true)
 else if (k == 4) then (⟨false, false, true, true, 1⟩, true)
 else if (k == 5 || k == 10 || k == 11) then (⟨false, true, true, false, 0⟩, true)
 else if (k == 6) then (⟨false, false, true, false, 1⟩, true)
 else if (k == 8) then (⟨false, false, false, false, 1⟩, true)
 else if (k == 12 || k == 13) then (⟨false, false, false, false, 0⟩, true)
 else (⟨false, false, false, false, 0⟩, false)
theorem prog146 : Tryz.prog.funcs[146]? = some Tryz.f146 := by kernel_rfl
theorem holds146 (k : Int) : Holds Tryz.prog zG 146 [.c (.int .i64 k)] [.agg (encSh (shapeK k).1), .c (.bool (shapeK k).2)] := by
 refine holds_of_body zT prog146 rfl rfl rfl (by simp [Tryz.f146]) ?_
 refine aw_ops zT fun K1 hK1 => ?_
 refine sg ?_
 refine hK1 _ ?_
 clear hK1
 refine aw_seq fun K2 hK2 => ?_
 refine aw_ops zT fun K3 hK3 => ?_
 refine sg ?_
 refine hK3 _ ?_
 clear hK3
 refine aw_block ?_
 refine aw_seq fun K4 hK4 => ?_
 refine aw_ops zT fun K5 hK5 => ?_
 refine sg ?_
 refine hK5 _ ?_
 clear hK5
 refine aw_cond rfl (fun h0 => ?_) (fun h0 => ?_)
 ·
  refine aw_norm (by simp only [amset, amlib, zset, h0, eq_self, ↓reduceIte, reduceCtorEq, Nat.reduceBEq, reduceEqDiff, reduceAdd, reduceMul, reduceLeDiff, reduceLT, reduceSub]; exact rfl) ?_
  refine aw_skip ?_
  simp only [thenQ, blkQ, if_true, reduceIte, Nat.reduceEqDiff, eq_self]
  refine hK4 _ ?_
  clear hK4
  refine aw_cond (t := true) rfl (fun _ => ?_) (fun h => nomatch h)
  refine aw_ops zT fun K6 hK6 => ?_
  refine sg ?_
  refine hK6 _ ?_
  clear hK6
  refine aw_ret ?_
  show resOf zG _ [.cell 2 184, .tmp 3] = some _
  simp only [amset, amlib, zset, eq_self, ↓reduceIte, reduceCtorEq, Nat.reduceBEq, reduceEqDiff, reduceAdd, reduceMul, reduceLeDiff, reduceLT, reduceSub]
  simp only [shapeK, encSh, h0, bools, ↓reduceIte]
 ·
  refine aw_norm (by simp only [amset, amlib, zset, h0, eq_self, ↓reduceIte, reduceCtorEq, Nat.reduceBEq, reduceEqDiff, reduceAdd, reduceMul, reduceLeDiff, reduceLT, reduceSub]; exact rfl) ?_
  refine aw_ops zT fun K7 hK7 => ?_
  refine sg ?_
  refine hK7 _ ?_
  clear hK7
  refine aw_cond rfl (fun h1 => ?_) (fun h1 => ?_)
  ·
   refine aw_norm (by simp only [amset, amlib, zset, h1, eq_self, ↓reduceIte, reduceCtorEq, Nat.reduceBEq, reduceEqDiff, reduceAdd, reduceMul, reduceLeDiff, reduceLT, reduceSub]; exact rfl) ?_
   refine aw_skip ?_
   simp only [thenQ, blkQ, if_true, reduceIte, Nat.reduceEqDiff, eq_self]
   refine hK4 _ ?_
   clear hK4
   refine aw_cond (t := true) rfl (fun _ => ?_) (fun h => nomatch h)
   refine aw_ops zT fun K8 hK8 => ?_
   refine sg ?_
   refine hK8 _ ?_
   clear hK8
   refine aw_ret ?_
   show resOf zG _ [.cell 2 184, .tmp 3] = some _
   simp only [amset, amlib, zset, eq_self, ↓reduceIte, reduceCtorEq, Nat.reduceBEq, reduceEqDiff, reduceAdd, reduceMul, reduceLeDiff, reduceLT, reduceSub]
   simp only [shapeK, encSh, h0, h1, bools, ↓reduceIte]
  ·
   refine aw_norm (by simp only [amset, amlib, zset, h1, eq_self, ↓reduceIte, reduceCtorEq, Nat.reduceBEq, reduceEqDiff, reduceAdd, reduceMul, reduceLeDiff, reduceLT, reduceSub]; exact rfl) ?_
   refine aw_ops zT fun K9 hK9 => ?_
   refine sg ?_
   refine hK9 _ ?_
   clear hK9
   refine aw_cond rfl (fun h2 => ?_) (fun h2 => ?_)
   ·
    refine aw_norm (by simp only [amset, amlib, zset, h2, eq_self, ↓reduceIte, reduceCtorEq, Nat.reduceBEq, reduceEqDiff, reduceAdd, reduceMul, reduceLeDiff, reduceLT, reduceSub]; exact rfl) ?_
    refine aw_skip ?_
    simp only [thenQ, blkQ, if_true, reduceIte, Nat.reduceEqDiff, eq_self]
    refine hK4 _ ?_
    clear hK4
    refine aw_cond (t := true) rfl (fun _ => ?_) (fun h => nomatch h)
    refine aw_ops zT fun K10 hK10 => ?_
    refine sg ?_
    refine hK10 _ ?_
    clear hK10
    refine aw_ret ?_
    show resOf zG _ [.cell 2 184, .tmp 3] = some _
    simp only [amset, amlib, zset, eq_self, ↓reduceIte, reduceCtorEq, Nat.reduceBEq, reduceEqDiff, reduceAdd, reduceMul, reduceLeDiff, reduceLT, reduceSub]
    simp only [shapeK, encSh, h0, h1, h2, bools, ↓reduceIte]
   ·
    refine aw_norm (by simp only [amset, amlib, zset, h2, eq_self, ↓reduceIte, reduceCtorEq, Nat.reduceBEq, reduceEqDiff, reduceAdd, reduceMul, reduceLeDiff, reduceLT, reduceSub]; exact rfl) ?_
    refine aw_region zT ?_
    refine sg ?_
    refine hK4 _ ?_
    clear hK4
    refine aw_cond rfl (fun h3 => ?_) (fun h3 => ?_)
    ·
     refine aw_norm (by simp only [amset, amlib, zset, h3, eq_self, ↓reduceIte, reduceCtorEq, Nat.reduceBEq, reduceEqDiff, reduceAdd, reduceMul, reduceLeDiff, reduceLT, reduceSub]; exact rfl) ?_
     refine aw_ops zT fun K11 hK11 => ?_
     refine sg ?_
     refine hK11 _ ?_
     clear hK11
     refine aw_ret ?_
     show resOf zG _ [.cell 2 184, .tmp 3] = some _
     simp only [amset, amlib, zset, eq_self, ↓reduceIte, reduceCtorEq, Nat.reduceBEq, reduceEqDiff, reduceAdd, reduceMul, reduceLeDiff, reduceLT, reduceSub]
     simp only [shapeK, encSh, h0, h1, h2, h3, bools, ↓reduceIte]
    ·
     refine aw_norm (by simp only [amset, amlib, zset, h3, eq_self, ↓reduceIte, reduceCtorEq, Nat.reduceBEq, reduceEqDiff, reduceAdd, reduceMul, reduceLeDiff, reduceLT, reduceSub]; exact rfl) ?_
     refine aw_ops zT fun K12 hK12 => ?_
     refine sg ?_
     refine hK12 _ ?_
     clear hK12
     refine aw_cond rfl (fun h4 => ?_) (fun h4 => ?_)
     ·
      refine aw_ops zT fun K13 hK13 => ?_
      refine sg ?_
      refine hK13 _ ?_
      clear hK13
      refine aw_ret ?_
      show resOf zG _ [.cell 2 184, .tmp 3] = some _
      simp only [amset, amlib, zset, eq_self, ↓reduceIte, reduceCtorEq, Nat.reduceBEq, reduceEqDiff, reduceAdd, reduceMul, reduceLeDiff, reduceLT, reduceSub]
      simp only [shapeK, encSh, h0, h1, h2, h3, h4, bools, ↓reduceIte]
     ·
      refine aw_ops zT fun K14 hK14 => ?_
      refine sg ?_
      refine hK14 _ ?_
      clear hK14
      refine aw_cond rfl (fun h5 => ?_) (fun h5 => ?_)
      ·
       refine aw_ops zT fun K15 hK15 => ?_
       refine sg ?_
       refine hK15 _ ?_
       clear hK15
       refine aw_ret ?_
       show resOf zG _ [.cell 2 184, .tmp 3] = some _
       simp only [amset, amlib, zset, eq_self, ↓reduceIte, reduceCtorEq, Nat.reduceBEq, reduceEqDiff, reduceAdd, reduceMul, reduceLeDiff, reduceLT, reduceSub]
       simp only [shapeK, encSh, h0, h1, h2, h3, h4, h5, bools, ↓reduceIte]
      ·
       refine aw_seq fun K16 hK16 => ?_
       refine aw_ops zT fun K17 hK17 => ?_
       refine sg ?_
       refine hK17 _ ?_
       clear hK17
       refine aw_cond rfl (fun h6 => ?_) (fun h6 => ?_)
       ·
        refine aw_norm (by simp only [amset, amlib, zset, h6, eq_self, ↓reduceIte, reduceCtorEq, Nat.reduceBEq, reduceEqDiff, reduceAdd, reduceMul, reduceLeDiff, reduceLT, reduceSub]; exact rfl) ?_
        refine aw_skip ?_
        simp only [thenQ, blkQ, if_true, reduceIte, Nat.reduceEqDiff, eq_self]
        refine hK16 _ ?_
        clear hK16
        refine aw_cond (t := true) rfl (fun _ => ?_) (fun h => nomatch h)
        refine aw_ops zT fun K18 hK18 => ?_
        refine sg ?_
        refine hK18 _ ?_
        clear hK18
        refine aw_ret ?_
        show resOf zG _ [.cell 2 184, .tmp 3] = some _
        simp only [amset, amlib, zset, eq_self, ↓reduceIte, reduceCtorEq, Nat.reduceBEq, reduceEqDiff, reduceAdd, reduceMul, reduceLeDiff, reduceLT, reduceSub]
        simp only [shapeK, encSh, h0, h1, h2, h3, h4, h5, h6, bools, ↓reduceIte]
       ·
        refine aw_norm (by simp only [amset, amlib, zset, h6, eq_self, ↓reduceIte, reduceCtorEq, Nat.reduceBEq, reduceEqDiff, reduceAdd, reduceMul, reduceLeDiff, reduceLT, reduceSub]; exact rfl) ?_
        refine aw_ops zT fun K19 hK19 => ?_
        refine sg ?_
        refine hK19 _ ?_
        clear hK19
        refine aw_cond rfl (fun h7 => ?_) (fun h7 => ?_)
        ·
         refine aw_norm (by simp only [amset, amlib, zset, h7, eq_self, ↓reduceIte, reduceCtorEq, Nat.reduceBEq, reduceEqDiff, reduceAdd, reduceMul, reduceLeDiff, reduceLT, reduceSub]; exact rfl) ?_
         refine aw_skip ?_
         simp only [thenQ, blkQ, if_true, reduceIte, Nat.reduceEqDiff, eq_self]
         refine hK16 _ ?_
         clear hK16
         refine aw_cond (t := true) rfl (fun _ => ?_) (fun h => nomatch h)
         refine aw_ops zT fun K20 hK20 => ?_
         refine sg ?_
         refine hK20 _ ?_
         clear hK20
         refine aw_ret ?_
         show resOf zG _ [.cell 2 184, .tmp 3] = some _
         simp only [amset, amlib, zset, eq_self, ↓reduceIte, reduceCtorEq, Nat.reduceBEq, reduceEqDiff, reduceAdd, reduceMul, reduceLeDiff, reduceLT, reduceSub]
         simp only [shapeK, encSh, h0, h1, h2, h3, h4, h5, h6, h7, bools, ↓reduceIte]
        ·
         refine aw_norm (by simp only [amset, amlib, zset, h7, eq_self, ↓reduceIte, reduceCtorEq, Nat.reduceBEq, reduceEqDiff, reduceAdd, reduceMul, reduceLeDiff, reduceLT, reduceSub]; exact rfl) ?_
         refine aw_region zT ?_
         refine sg ?_
         refine hK16 _ ?_
         clear hK16
         refine aw_cond rfl (fun h8 => ?_) (fun h8 => ?_)
         ·
          refine aw_norm (by simp only [amset, amlib, zset, h8, eq_self, ↓reduceIte, reduceCtorEq, Nat.reduceBEq, reduceEqDiff, reduceAdd, reduceMul, reduceLeDiff, reduceLT, reduceSub]; exact rfl) ?_
          refine aw_ops zT fun K21 hK21 => ?_
          refine sg ?_
          refine hK21 _ ?_
          clear hK21
          refine aw_ret ?_
          show resOf zG _ [.cell 2 184, .tmp 3] = some _
          simp only [amset, amlib, zset, eq_self, ↓reduceIte, reduceCtorEq, Nat.reduceBEq, reduceEqDiff, reduceAdd, reduceMul, reduceLeDiff, reduceLT, reduceSub]
          simp only [shapeK, encSh, h0, h1, h2, h3, h4, h5, h6, h7, h8, bools, ↓reduceIte]
         ·
          refine aw_norm (by simp only [amset, amlib, zset, h8, eq_self, ↓reduceIte, reduceCtorEq, Nat.reduceBEq, reduceEqDiff, reduceAdd, reduceMul, reduceLeDiff, reduceLT, reduceSub]; exact rfl) ?_
          refine aw_ops zT fun K22 hK22 => ?_
          refine sg ?_
          refine hK22 _ ?_
          clear hK22
          refine aw_cond rfl (fun h9 => ?_) (fun h9 => ?_)
          ·
           refine aw_ops zT fun K23 hK23 => ?_
           refine sg ?_
           refine hK23 _ ?_
           clear hK23
           refine aw_ret ?_
           show resOf zG _ [.cell 2 184, .tmp 3] = some _
           simp only [amset, amlib, zset, eq_self, ↓reduceIte, reduceCtorEq, Nat.reduceBEq, reduceEqDiff, reduceAdd, reduceMul, reduceLeDiff, reduceLT, reduceSub]
           simp only [shapeK, encSh, h0, h1, h2, h3, h4, h5, h6, h7, h8, h9, bools, ↓reduceIte]
          ·
           refine aw_ops zT fun K24 hK24 => ?_
           refine sg ?_
           refine hK24 _ ?_
           clear hK24
           refine aw_cond rfl (fun h10 => ?_) (fun h10 => ?_)
           ·
            refine aw_ops zT fun K25 hK25 => ?_
            refine sg ?_
            refine hK25 _ ?_
            clear hK25
            refine aw_ret ?_
            show resOf zG _ [.cell 2 184, .tmp 3] = some _
            simp only [amset, amlib, zset, eq_self, ↓reduceIte, reduceCtorEq, Nat.reduceBEq, reduceEqDiff, reduceAdd, reduceMul, reduceLeDiff, reduceLT, reduceSub]
            simp only [shapeK, encSh, h0, h1, h2, h3, h4, h5, h6, h7, h8, h9, h10, bools, ↓reduceIte]
           ·
            refine aw_seq fun K26 hK26 => ?_
            refine aw_ops zT fun K27 hK27 => ?_
            refine sg ?_
            refine hK27 _ ?_
            clear hK27
            refine aw_cond rfl (fun h11 => ?_) (fun h11 => ?_)
            ·
             refine aw_norm (by simp only [amset, amlib, zset, h11, eq_self, ↓reduceIte, reduceCtorEq, Nat.reduceBEq, reduceEqDiff, reduceAdd, reduceMul, reduceLeDiff, reduceLT, reduceSub]; exact rfl) ?_
             refine aw_skip ?_
             simp only [thenQ, blkQ, if_true, reduceIte, Nat.reduceEqDiff, eq_self]
             refine hK26 _ ?_
             clear hK26
             refine aw_cond (t := true) rfl (fun _ => ?_) (fun h => nomatch h)
             refine aw_ops zT fun K28 hK28 => ?_
             refine sg ?_
             refine hK28 _ ?_
             clear hK28
             refine aw_ret ?_
             show resOf zG _ [.cell 2 184, .tmp 3] = some _
             simp only [amset, amlib, zset, eq_self, ↓reduceIte, reduceCtorEq, Nat.reduceBEq, reduceEqDiff, reduceAdd, reduceMul, reduceLeDiff, reduceLT, reduceSub]
             simp only [shapeK, encSh, h0, h1, h2, h3, h4, h5, h6, h7, h8, h9, h10, h11, bools, ↓reduceIte]
            ·
             refine aw_norm (by simp only [amset, amlib, zset, h11, eq_self, ↓reduceIte, reduceCtorEq, Nat.reduceBEq, reduceEqDiff, reduceAdd, reduceMul, reduceLeDiff, reduceLT, reduceSub]; exact rfl) ?_
             refine aw_region zT ?_
             refine sg ?_
             refine hK26 _ ?_
             clear hK26
             refine aw_cond rfl (fun h12 => ?_) (fun h12 => ?_)
             ·
              refine aw_norm (by simp only [amset, amlib, zset, h12, eq_self, ↓reduceIte, reduceCtorEq, Nat.reduceBEq, reduceEqDiff, reduceAdd, reduceMul, reduceLeDiff, reduceLT, reduceSub]; exact rfl) ?_
              refine aw_ops zT fun K29 hK29 => ?_
              refine sg ?_
              refine hK29 _ ?_
              clear hK29
              refine aw_ret ?_
              show resOf zG _ [.cell 2 184, .tmp 3] = some _
              simp only [amset, amlib, zset, eq_self, ↓reduceIte, reduceCtorEq, Nat.reduceBEq, reduceEqDiff, reduceAdd, reduceMul, reduceLeDiff, reduceLT, reduceSub]
              simp only [shapeK, encSh, h0, h1, h2, h3, h4, h5, h6, h7, h8, h9, h10, h11, h12, bools, ↓reduceIte]
             ·
              refine aw_norm (by simp only [amset, amlib, zset, h12, eq_self, ↓reduceIte, reduceCtorEq, Nat.reduceBEq, reduceEqDiff, reduceAdd, reduceMul, reduceLeDiff, reduceLT, reduceSub]; exact rfl) ?_
              refine aw_skip ?_
              simp only [thenQ, blkQ, if_true, reduceIte, Nat.reduceEqDiff, eq_self]
              refine hK2 _ ?_
              clear hK2
              refine aw_ops zT fun K30 hK30 => ?_
              refine sg ?_
              refine hK30 _ ?_
              clear hK30
              refine aw_ret ?_
              show resOf zG _ [.cell 2 184, .tmp 3] = some _
              simp only [amset, amlib, zset, eq_self, ↓reduceIte, reduceCtorEq, Nat.reduceBEq, reduceEqDiff, reduceAdd, reduceMul, reduceLeDiff, reduceLT, reduceSub]
              simp only [shapeK, encSh, h0, h1, h2, h3, h4, h5, h6, h7, h8, h9, h10, h11, h12, bools, ↓reduceIte]
end Go.Proofs.Am
set_option maxRecDepth 100000
set_option maxHeartbeats 4000000
namespace Go.Proofs.Am
open Nat (reduceEqDiff reduceAdd reduceMul reduceLeDiff reduceLT reduceSub)
def stBad (y : St) : Bool := (!(shapeK y.kind).2) || ((y.args.length : Int) != (shapeK y.kind).1.args) || ((shapeK y.kind).1.name && (!ident y.name)) || (!(shapeK y.kind).1.name && (!(y.name == []))) || (!numOk y.n 0) || (!(shapeK y.kind).1.n && (y.n != 0)) || (!(shapeK y.kind).1.body && decide ((y.body.length : Int) > 0)) || (!(shapeK y.kind).1.els && decide ((y.els.length : Int) > 0))
mutual
def stOK : St → Bool
 | .mk k n v a b e p => !stBad (.mk k n v a b e p) && exOKs a && stsOK b && stsOK e
def stsOK : List St → Bool
 | [] => true
 | x :: r => stOK x && stsOK r
end
theorem stOK_eq (x : St) : stOK x = (!stBad x && exOKs x.args && stsOK x.body && stsOK x.els) := by cases x; rfl
theorem stsOK_append (a b : List St) : stsOK (a ++ b) = (stsOK a && stsOK b) := by
 induction a with
 | nil => rfl
 | cons x r ih => simp [stsOK, ih, Bool.and_assoc]
theorem prog69 : Tryz.prog.funcs[69]? = some Tryz.f69 := by kernel_rfl
theorem step69 (l : List St) (ih : ∀ m : List St, SizeOf.sizeOf m < SizeOf.sizeOf l → Holds Tryz.prog zG 69 [.c (.sl 7 (encSs m))] [.c (.bool (stsOK m))]) : Holds Tryz.prog zG 69 [.c (.sl 7 (encSs l))] [.c (.bool (stsOK l))] := by
 refine holds_of_body zT prog69 rfl rfl rfl (by simp [Tryz.f69]) ?_
 refine aw_ops zT fun K1 hK1 => ?_
 simp only [amset, amlib, zset, encSh, eq_self, ↓reduceIte, reduceCtorEq, Nat.reduceBEq, reduceEqDiff, reduceAdd, reduceMul, reduceLeDiff, reduceLT, reduceSub]
 refine hK1 _ ?_
 clear hK1
 refine aw_seq fun K2 hK2 => ?_
 refine aw_ops zT fun K3 hK3 => ?_
 simp only [amset, amlib, zset, encSh, eq_self, ↓reduceIte, reduceCtorEq, Nat.reduceBEq, reduceEqDiff, reduceAdd, reduceMul, reduceLeDiff, reduceLT, reduceSub]
 intros
 refine hK3 _ ?_
 clear hK3
 refine aw_block ?_
 refine aw_to ⟨[(9, .cell (.c (.sl 7 (encSs l)))), (10, .cell (.c (.int .i64 l.length))), (11, .cell (.c (.int .i64 0)))], []⟩ ?_ ?_ ?_
 ·
  simp only [amset, amlib, zset, encSh, eq_self, ↓reduceIte, reduceCtorEq, Nat.reduceBEq, reduceEqDiff, reduceAdd, reduceMul, reduceLeDiff, reduceLT, reduceSub] <;> simp [eq_self]
 ·
  simp only [amset, amlib, zset, encSh, eq_self, ↓reduceIte, reduceCtorEq, Nat.reduceBEq, reduceEqDiff, reduceAdd, reduceMul, reduceLeDiff, reduceLT, reduceSub] <;> simp [eq_self]
 refine aw_range (α := St) (l) (fun dn => stsOK dn = true) (fun dn => [(11, .cell (.c (.int .i64 dn.length)))]) (fun dn => []) [] [2, 4, 5, 6, 8, 11, 12, 13, 14, 15, 16, 17, 18, 19, 20, 21, 22, 23, 24, 25, 26, 27, 28, 29, 30, 31, 32, 33, 34, 35, 36, 37, 38, 39, 40, 41, 42, 43, 44, 45, 46, 47, 48, 49, 50, 51, 52, 53, 54, 55, 56, 57, 58, 59, 60, 61, 62, 63, 64, 65, 66, 67, 68, 69, 70, 71, 72, 73, 74, 75, 76, 77, 78, 79, 80, 81, 82, 83, 84, 85, 86, 87, 88, 89, 90, 91, 92, 93, 94, 95, 96, 97, 98, 99, 100, 101, 102, 103, 104, 105, 106, 107, 108, 109, 110] [4, 5, 8] rfl ?_ ?_ ?_ ?_
 ·
  simp only [amset, amlib, zset, encSh, eq_self, ↓reduceIte, reduceCtorEq, Nat.reduceBEq, reduceEqDiff, reduceAdd, reduceMul, reduceLeDiff, reduceLT, reduceSub] <;> simp [eq_self]
 ·
  simp only [amset, amlib, zset, encSh, eq_self, ↓reduceIte, reduceCtorEq, Nat.reduceBEq, reduceEqDiff, reduceAdd, reduceMul, reduceLeDiff, reduceLT, reduceSub] <;> simp [eq_self]
 ·
  intro hI R
  refine aw_norm (by simp only [amset, amlib, zset, encSh, eq_self, ↓reduceIte, reduceCtorEq, Nat.reduceBEq, reduceEqDiff, reduceAdd, reduceMul, reduceLeDiff, reduceLT, reduceSub]; exact rfl) ?_
  refine aw_ops zT fun K4 hK4 => ?_
  simp only [amset, amlib, zset, encSh, eq_self, ↓reduceIte, reduceCtorEq, Nat.reduceBEq, reduceEqDiff, reduceAdd, reduceMul, reduceLeDiff, reduceLT, reduceSub]
  refine hK4 _ ?_
  clear hK4
  refine aw_seq fun K5 hK5 => ?_
  refine aw_cond (t := false) (by simp [evalO, S.get, amLook]) (fun h => nomatch h) (fun _ => ?_)
  refine aw_exit ?_
  simp only [thenQ, blkQ, if_true, reduceIte, Nat.reduceEqDiff, eq_self]
  refine hK2 _ ?_
  clear hK2
  refine aw_ops zT fun K6 hK6 => ?_
  simp only [amset, amlib, zset, encSh, eq_self, ↓reduceIte, reduceCtorEq, Nat.reduceBEq, reduceEqDiff, reduceAdd, reduceMul, reduceLeDiff, reduceLT, reduceSub]
  refine hK6 _ ?_
  clear hK6
  refine aw_ret ?_
  show resOf zG _ [.tmp 2] = some _
  simp only [amset, amlib, zset, encSh, eq_self, ↓reduceIte, reduceCtorEq, Nat.reduceBEq, reduceEqDiff, reduceAdd, reduceMul, reduceLeDiff, reduceLT, reduceSub]
  simp only [hI]
 ·
  intro dn y td harg hI R hR
  have hl : (l).length = dn.length + (td.length + 1) := by rw [harg]; simp
  have hmem : y ∈ l := by rw [harg]; simp
  refine aw_norm (by simp only [amset, amlib, zset, encSh, eq_self, ↓reduceIte, reduceCtorEq, Nat.reduceBEq, reduceEqDiff, reduceAdd, reduceMul, reduceLeDiff, reduceLT, reduceSub]; exact rfl) ?_
  have hget : (encSs (l)).getD dn.length [] = encS y := by rw [harg]; exact encSs_mid dn td y
  refine aw_ops zT fun K7 hK7 => ?_
  simp only [amset, amlib, zset, encSh, eq_self, ↓reduceIte, reduceCtorEq, Nat.reduceBEq, reduceEqDiff, reduceAdd, reduceMul, reduceLeDiff, reduceLT, reduceSub]
  refine hK7 _ ?_
  clear hK7
  refine aw_seq fun K8 hK8 => ?_
  refine aw_cond (t := true) (by simp [evalO, S.get, amLook]; omega) (fun _ => ?_) (fun h => nomatch h)
  refine aw_skip ?_
  simp only [thenQ, blkQ, if_true, reduceIte, Nat.reduceEqDiff, eq_self]
  refine hK8 _ ?_
  clear hK8
  refine aw_seq fun K9 hK9 => ?_
  refine aw_block ?_
  refine aw_ops zT fun K10 hK10 => ?_
  simp only [amset, amlib, zset, hget, encSh, eq_self, ↓reduceIte, reduceCtorEq, Nat.reduceBEq, reduceEqDiff, reduceAdd, reduceMul, reduceLeDiff, reduceLT, reduceSub]
  refine ⟨⟨by omega, by omega⟩, ?_⟩
  refine hK10 _ ?_
  clear hK10
  refine aw_ops zT fun K11 hK11 => ?_
  simp only [amset, amlib, zset, encSh, eq_self, ↓reduceIte, reduceCtorEq, Nat.reduceBEq, reduceEqDiff, reduceAdd, reduceMul, reduceLeDiff, reduceLT, reduceSub]
  refine ⟨_, holds146 y.kind, ?_⟩
  simp only [later]
  simp only [amset, amlib, zset, encSh, eq_self, ↓reduceIte, reduceCtorEq, Nat.reduceBEq, reduceEqDiff, reduceAdd, reduceMul, reduceLeDiff, reduceLT, reduceSub]
  refine hK11 _ ?_
  clear hK11
  refine aw_seq fun K12 hK12 => ?_
  refine aw_ops zT fun K13 hK13 => ?_
  have keyK13 : ∀ E B, envIn E ([(4, .ptr 4 0), (9, .cell (.c (.sl 7 (encSs l)))), (10, .cell (.c (.int .i64 l.length))), (11, .cell (.c (.int .i64 dn.length))), (88, .cell (.c (.bool (stBad y))))] : List (Nat × V)) → envIn B ([(4, (encS y).map .c)] : List (Nat × List Cell)) → K13 ⟨E, B⟩ := by
   intro E B he hb
   refine hK13 _ (aw_to ⟨[(4, .ptr 4 0), (9, .cell (.c (.sl 7 (encSs l)))), (10, .cell (.c (.int .i64 l.length))), (11, .cell (.c (.int .i64 dn.length))), (88, .cell (.c (.bool (stBad y))))], [(4, (encS y).map .c)]⟩ he hb ?_)
   refine aw_cond rfl (fun h0 => ?_) (fun h0 => ?_)
   ·
    refine aw_ops zT fun K14 hK14 => ?_
    simp only [amset, amlib, zset, encSh, eq_self, ↓reduceIte, reduceCtorEq, Nat.reduceBEq, reduceEqDiff, reduceAdd, reduceMul, reduceLeDiff, reduceLT, reduceSub]
    refine hK14 _ ?_
    clear hK14
    refine aw_ret ?_
    show resOf zG _ [.tmp 2] = some _
    simp only [amset, amlib, zset, encSh, eq_self, ↓reduceIte, reduceCtorEq, Nat.reduceBEq, reduceEqDiff, reduceAdd, reduceMul, reduceLeDiff, reduceLT, reduceSub]
    have hf : stOK y = false := by
     rw [stOK_eq]
     simp [h0]
    rw [harg, stsOK_append]
    simp [stsOK, hf]
   ·
    refine aw_skip ?_
    simp only [thenQ, blkQ, if_true, reduceIte, Nat.reduceEqDiff, eq_self]
    refine hK12 _ ?_
    clear hK12
    refine aw_seq fun K15 hK15 => ?_
    refine aw_ops zT fun K16 hK16 => ?_
    simp only [amset, amlib, zset, encSh, eq_self, ↓reduceIte, reduceCtorEq, Nat.reduceBEq, reduceEqDiff, reduceAdd, reduceMul, reduceLeDiff, reduceLT, reduceSub]
    intros
    refine hK16 _ ?_
    clear hK16
    refine aw_block ?_
    refine aw_range (α := Ex) (y.args) (fun dn1 => exOKs dn1 = true) (fun dn1 => [(92, .cell (.c (.int .i64 dn1.length)))]) (fun dn1 => []) [] [2, 8, 92, 93, 94, 95, 96, 97, 98, 99] [8] rfl ?_ ?_ ?_ ?_
    ·
     simp only [amset, amlib, zset, encSh, eq_self, ↓reduceIte, reduceCtorEq, Nat.reduceBEq, reduceEqDiff, reduceAdd, reduceMul, reduceLeDiff, reduceLT, reduceSub] <;> simp [eq_self]
    ·
     simp only [amset, amlib, zset, encSh, eq_self, ↓reduceIte, reduceCtorEq, Nat.reduceBEq, reduceEqDiff, reduceAdd, reduceMul, reduceLeDiff, reduceLT, reduceSub] <;> simp [eq_self]
    ·
     intro hI1 R1
     refine aw_norm (by simp only [amset, amlib, zset, encSh, eq_self, ↓reduceIte, reduceCtorEq, Nat.reduceBEq, reduceEqDiff, reduceAdd, reduceMul, reduceLeDiff, reduceLT, reduceSub]; exact rfl) ?_
     refine aw_ops zT fun K17 hK17 => ?_
     simp only [amset, amlib, zset, encSh, eq_self, ↓reduceIte, reduceCtorEq, Nat.reduceBEq, reduceEqDiff, reduceAdd, reduceMul, reduceLeDiff, reduceLT, reduceSub]
     refine hK17 _ ?_
     clear hK17
     refine aw_seq fun K18 hK18 => ?_
     refine aw_cond (t := false) (by simp [evalO, S.get, amLook]) (fun h => nomatch h) (fun _ => ?_)
     refine aw_exit ?_
     simp only [thenQ, blkQ, if_true, reduceIte, Nat.reduceEqDiff, eq_self]
     refine hK15 _ ?_
     clear hK15
     refine aw_ops zT fun K19 hK19 => ?_
     cases q0 : (!stsOK y.body) with
     | true =>
      simp only [amset, amlib, zset, q0, encSh, eq_self, ↓reduceIte, reduceCtorEq, Nat.reduceBEq, reduceEqDiff, reduceAdd, reduceMul, reduceLeDiff, reduceLT, reduceSub]
      refine ⟨_, ih y.body (sizeOf_body hmem), ?_⟩
      simp only [later]
      simp only [amset, amlib, zset, q0, encSh, eq_self, ↓reduceIte, reduceCtorEq, Nat.reduceBEq, reduceEqDiff, reduceAdd, reduceMul, reduceLeDiff, reduceLT, reduceSub]
      refine hK19 _ ?_
      clear hK19
      refine aw_cond (t := true) rfl (fun _ => ?_) (fun h => nomatch h)
      refine aw_ops zT fun K20 hK20 => ?_
      simp only [amset, amlib, zset, encSh, eq_self, ↓reduceIte, reduceCtorEq, Nat.reduceBEq, reduceEqDiff, reduceAdd, reduceMul, reduceLeDiff, reduceLT, reduceSub]
      refine hK20 _ ?_
      clear hK20
      refine aw_ret ?_
      show resOf zG _ [.tmp 2] = some _
      simp only [amset, amlib, zset, encSh, eq_self, ↓reduceIte, reduceCtorEq, Nat.reduceBEq, reduceEqDiff, reduceAdd, reduceMul, reduceLeDiff, reduceLT, reduceSub]
      have hf : stOK y = false := by
       rw [stOK_eq]
       simp at q0
       simp [q0]
      rw [harg, stsOK_append]
      simp [stsOK, hf]
     | false =>
      cases q1 : (!stsOK y.els) with
      | true =>
       simp only [amset, amlib, zset, q0, q1, encSh, eq_self, ↓reduceIte, reduceCtorEq, Nat.reduceBEq, reduceEqDiff, reduceAdd, reduceMul, reduceLeDiff, reduceLT, reduceSub]
       refine ⟨_, ih y.body (sizeOf_body hmem), ?_⟩
       simp only [later]
       simp only [amset, amlib, zset, q0, q1, encSh, eq_self, ↓reduceIte, reduceCtorEq, Nat.reduceBEq, reduceEqDiff, reduceAdd, reduceMul, reduceLeDiff, reduceLT, reduceSub]
       refine ⟨_, ih y.els (sizeOf_els hmem), ?_⟩
       simp only [later]
       simp only [amset, amlib, zset, q0, q1, encSh, eq_self, ↓reduceIte, reduceCtorEq, Nat.reduceBEq, reduceEqDiff, reduceAdd, reduceMul, reduceLeDiff, reduceLT, reduceSub]
       refine hK19 _ ?_
       clear hK19
       refine aw_cond (t := true) rfl (fun _ => ?_) (fun h => nomatch h)
       refine aw_ops zT fun K21 hK21 => ?_
       simp only [amset, amlib, zset, encSh, eq_self, ↓reduceIte, reduceCtorEq, Nat.reduceBEq, reduceEqDiff, reduceAdd, reduceMul, reduceLeDiff, reduceLT, reduceSub]
       refine hK21 _ ?_
       clear hK21
       refine aw_ret ?_
       show resOf zG _ [.tmp 2] = some _
       simp only [amset, amlib, zset, encSh, eq_self, ↓reduceIte, reduceCtorEq, Nat.reduceBEq, reduceEqDiff, reduceAdd, reduceMul, reduceLeDiff, reduceLT, reduceSub]
       have hf : stOK y = false := by
        rw [stOK_eq]
        simp at q1
        simp [q1]
       rw [harg, stsOK_append]
       simp [stsOK, hf]
      | false =>
       simp only [amset, amlib, zset, q0, q1, encSh, eq_self, ↓reduceIte, reduceCtorEq, Nat.reduceBEq, reduceEqDiff, reduceAdd, reduceMul, reduceLeDiff, reduceLT, reduceSub]
       refine ⟨_, ih y.body (sizeOf_body hmem), ?_⟩
       simp only [later]
       simp only [amset, amlib, zset, q0, q1, encSh, eq_self, ↓reduceIte, reduceCtorEq, Nat.reduceBEq, reduceEqDiff, reduceAdd, reduceMul, reduceLeDiff, reduceLT, reduceSub]
       refine ⟨_, ih y.els (sizeOf_els hmem), ?_⟩
       simp only [later]
       simp only [amset, amlib, zset, q0, q1, encSh, eq_self, ↓reduceIte, reduceCtorEq, Nat.reduceBEq, reduceEqDiff, reduceAdd, reduceMul, reduceLeDiff, reduceLT, reduceSub]
       refine hK19 _ ?_
       clear hK19
       refine aw_cond (t := false) rfl (fun h => nomatch h) (fun _ => ?_)
       refine aw_skip ?_
       simp only [thenQ, blkQ, if_true, reduceIte, Nat.reduceEqDiff, eq_self]
       refine hK9 _ ?_
       clear hK9
       refine aw_region zT ?_
       simp only [amset, amlib, zset, encSh, eq_self, ↓reduceIte, reduceCtorEq, Nat.reduceBEq, reduceEqDiff, reduceAdd, reduceMul, reduceLeDiff, reduceLT, reduceSub]
       refine ⟨⟨by omega, by omega⟩, ?_⟩
       refine hR _ (by rw [stsOK_append, hI]; simp only [stsOK, stOK_eq, hI1, q0, q1, h0, bools, ↓reduceIte]; simp at q0 q1; simp [q0, q1]) ?_
       refine Reach.to ?_ ?_
       ·
        simp only [amset, amlib, zset, encSh, eq_self, ↓reduceIte, reduceCtorEq, Nat.reduceBEq, reduceEqDiff, reduceAdd, reduceMul, reduceLeDiff, reduceLT, reduceSub] <;> simp [eq_self]
       ·
        simp only [amset, amlib, zset, encSh, eq_self, ↓reduceIte, reduceCtorEq, Nat.reduceBEq, reduceEqDiff, reduceAdd, reduceMul, reduceLeDiff, reduceLT, reduceSub] <;> simp [eq_self]
    ·
     intro dn1 y1 td1 harg1 hI1 R1 hR1
     have hl1 : (y.args).length = dn1.length + (td1.length + 1) := by rw [harg1]; simp
     have hmem1 : y1 ∈ y.args := by rw [harg1]; simp
     refine aw_norm (by simp only [amset, amlib, zset, encSh, eq_self, ↓reduceIte, reduceCtorEq, Nat.reduceBEq, reduceEqDiff, reduceAdd, reduceMul, reduceLeDiff, reduceLT, reduceSub]; exact rfl) ?_
     have hget1 : (encEs (y.args)).getD dn1.length [] = encE y1 := by rw [harg1]; exact encEs_mid dn1 td1 y1
     refine aw_ops zT fun K22 hK22 => ?_
     simp only [amset, amlib, zset, encSh, eq_self, ↓reduceIte, reduceCtorEq, Nat.reduceBEq, reduceEqDiff, reduceAdd, reduceMul, reduceLeDiff, reduceLT, reduceSub]
     refine hK22 _ ?_
     clear hK22
     refine aw_seq fun K23 hK23 => ?_
     refine aw_cond (t := true) (by simp [evalO, S.get, amLook]; omega) (fun _ => ?_) (fun h => nomatch h)
     refine aw_skip ?_
     simp only [thenQ, blkQ, if_true, reduceIte, Nat.reduceEqDiff, eq_self]
     refine hK23 _ ?_
     clear hK23
     refine aw_seq fun K24 hK24 => ?_
     refine aw_block ?_
     refine aw_ops zT fun K25 hK25 => ?_
     simp only [amset, amlib, zset, hget1, encSh, eq_self, ↓reduceIte, reduceCtorEq, Nat.reduceBEq, reduceEqDiff, reduceAdd, reduceMul, reduceLeDiff, reduceLT, reduceSub]
     refine ⟨⟨by omega, by omega⟩, ?_⟩
     refine hK25 _ ?_
     clear hK25
     refine aw_ops zT fun K26 hK26 => ?_
     simp only [amset, amlib, zset, encSh, eq_self, ↓reduceIte, reduceCtorEq, Nat.reduceBEq, reduceEqDiff, reduceAdd, reduceMul, reduceLeDiff, reduceLT, reduceSub]
     refine ⟨_, holds26 y1, ?_⟩
     simp only [later]
     simp only [amset, amlib, zset, encSh, eq_self, ↓reduceIte, reduceCtorEq, Nat.reduceBEq, reduceEqDiff, reduceAdd, reduceMul, reduceLeDiff, reduceLT, reduceSub]
     refine hK26 _ ?_
     clear hK26
     refine aw_cond rfl (fun h1 => ?_) (fun h1 => ?_)
     ·
      refine aw_ops zT fun K27 hK27 => ?_
      simp only [amset, amlib, zset, encSh, eq_self, ↓reduceIte, reduceCtorEq, Nat.reduceBEq, reduceEqDiff, reduceAdd, reduceMul, reduceLeDiff, reduceLT, reduceSub]
      refine hK27 _ ?_
      clear hK27
      refine aw_ret ?_
      show resOf zG _ [.tmp 2] = some _
      simp only [amset, amlib, zset, encSh, eq_self, ↓reduceIte, reduceCtorEq, Nat.reduceBEq, reduceEqDiff, reduceAdd, reduceMul, reduceLeDiff, reduceLT, reduceSub]
      have hf : stOK y = false := by
       rw [stOK_eq]
       have : exOKs y.args = false := (by rw [harg1, exOKs_append]; simp at h1; simp [exOKs, h1])
       simp [this]
      rw [harg, stsOK_append]
      simp [stsOK, hf]
     ·
      refine aw_skip ?_
      simp only [thenQ, blkQ, if_true, reduceIte, Nat.reduceEqDiff, eq_self]
      refine hK24 _ ?_
      clear hK24
      refine aw_region zT ?_
      simp only [amset, amlib, zset, encSh, eq_self, ↓reduceIte, reduceCtorEq, Nat.reduceBEq, reduceEqDiff, reduceAdd, reduceMul, reduceLeDiff, reduceLT, reduceSub]
      refine ⟨⟨by omega, by omega⟩, ?_⟩
      refine hR1 _ (by rw [exOKs_append, hI1]; simp [exOKs]; simpa using h1) ?_
      refine Reach.to ?_ ?_
      ·
       simp only [amset, amlib, zset, encSh, eq_self, ↓reduceIte, reduceCtorEq, Nat.reduceBEq, reduceEqDiff, reduceAdd, reduceMul, reduceLeDiff, reduceLT, reduceSub] <;> simp [eq_self]
      ·
       simp only [amset, amlib, zset, encSh, eq_self, ↓reduceIte, reduceCtorEq, Nat.reduceBEq, reduceEqDiff, reduceAdd, reduceMul, reduceLeDiff, reduceLT, reduceSub] <;> simp [eq_self]
  cases p0 : (shapeK y.kind).2 with
  | true =>
   cases p1 : ((y.args.length : Int) != (shapeK y.kind).1.args) with
   | true =>
    simp only [amset, amlib, zset, p0, p1, encSh, eq_self, ↓reduceIte, reduceCtorEq, Nat.reduceBEq, reduceEqDiff, reduceAdd, reduceMul, reduceLeDiff, reduceLT, reduceSub]
    intros
    intros
    intros
    refine keyK13 _ _ ?_ ?_
    ·
     simp only [amset, amlib, zset, encSh, eq_self, ↓reduceIte, reduceCtorEq, Nat.reduceBEq, reduceEqDiff, reduceAdd, reduceMul, reduceLeDiff, reduceLT, reduceSub] <;> simp only [stBad, p0, p1, bools, ↓reduceIte]
    ·
     simp only [amset, amlib, zset, encSh, eq_self, ↓reduceIte, reduceCtorEq, Nat.reduceBEq, reduceEqDiff, reduceAdd, reduceMul, reduceLeDiff, reduceLT, reduceSub]
   | false =>
    cases p2 : (shapeK y.kind).1.name with
    | true =>
     cases p3 : (!ident y.name) with
     | true =>
      simp only [amset, amlib, zset, p0, p1, p2, p3, encSh, eq_self, ↓reduceIte, reduceCtorEq, Nat.reduceBEq, reduceEqDiff, reduceAdd, reduceMul, reduceLeDiff, reduceLT, reduceSub]
      intros
      refine ⟨_, holds74 y.name, ?_⟩
      simp only [later]
      simp only [amset, amlib, zset, p0, p1, p2, p3, encSh, eq_self, ↓reduceIte, reduceCtorEq, Nat.reduceBEq, reduceEqDiff, reduceAdd, reduceMul, reduceLeDiff, reduceLT, reduceSub]
      intros
      intros
      refine keyK13 _ _ ?_ ?_
      ·
       simp only [amset, amlib, zset, encSh, eq_self, ↓reduceIte, reduceCtorEq, Nat.reduceBEq, reduceEqDiff, reduceAdd, reduceMul, reduceLeDiff, reduceLT, reduceSub] <;> simp only [stBad, p0, p1, p2, p3, bools, ↓reduceIte]
      ·
       simp only [amset, amlib, zset, encSh, eq_self, ↓reduceIte, reduceCtorEq, Nat.reduceBEq, reduceEqDiff, reduceAdd, reduceMul, reduceLeDiff, reduceLT, reduceSub]
     | false =>
      cases p5 : (!numOk y.n 0) with
      | true =>
       simp only [amset, amlib, zset, p0, p1, p2, p3, p5, encSh, eq_self, ↓reduceIte, reduceCtorEq, Nat.reduceBEq, reduceEqDiff, reduceAdd, reduceMul, reduceLeDiff, reduceLT, reduceSub]
       intros
       refine ⟨_, holds74 y.name, ?_⟩
       simp only [later]
       simp only [amset, amlib, zset, p0, p1, p2, p3, p5, encSh, eq_self, ↓reduceIte, reduceCtorEq, Nat.reduceBEq, reduceEqDiff, reduceAdd, reduceMul, reduceLeDiff, reduceLT, reduceSub]
       refine ⟨_, holds103 y.n 0, ?_⟩
       simp only [later]
       simp only [amset, amlib, zset, p0, p1, p2, p3, p5, encSh, eq_self, ↓reduceIte, reduceCtorEq, Nat.reduceBEq, reduceEqDiff, reduceAdd, reduceMul, reduceLeDiff, reduceLT, reduceSub]
       intros
       intros
       refine keyK13 _ _ ?_ ?_
       ·
        simp only [amset, amlib, zset, encSh, eq_self, ↓reduceIte, reduceCtorEq, Nat.reduceBEq, reduceEqDiff, reduceAdd, reduceMul, reduceLeDiff, reduceLT, reduceSub] <;> simp only [stBad, p0, p1, p2, p3, p5, bools, ↓reduceIte]
       ·
        simp only [amset, amlib, zset, encSh, eq_self, ↓reduceIte, reduceCtorEq, Nat.reduceBEq, reduceEqDiff, reduceAdd, reduceMul, reduceLeDiff, reduceLT, reduceSub]
      | false =>
       cases p6 : (shapeK y.kind).1.n with
       | true =>
        cases p8 : (shapeK y.kind).1.body with
        | true =>
         cases p10 : (shapeK y.kind).1.els with
         | true =>
          simp only [amset, amlib, zset, p0, p1, p2, p3, p5, p6, p8, p10, encSh, eq_self, ↓reduceIte, reduceCtorEq, Nat.reduceBEq, reduceEqDiff, reduceAdd, reduceMul, reduceLeDiff, reduceLT, reduceSub]
          intros
          refine ⟨_, holds74 y.name, ?_⟩
          simp only [later]
          simp only [amset, amlib, zset, p0, p1, p2, p3, p5, p6, p8, p10, encSh, eq_self, ↓reduceIte, reduceCtorEq, Nat.reduceBEq, reduceEqDiff, reduceAdd, reduceMul, reduceLeDiff, reduceLT, reduceSub]
          refine ⟨_, holds103 y.n 0, ?_⟩
          simp only [later]
          simp only [amset, amlib, zset, p0, p1, p2, p3, p5, p6, p8, p10, encSh, eq_self, ↓reduceIte, reduceCtorEq, Nat.reduceBEq, reduceEqDiff, reduceAdd, reduceMul, reduceLeDiff, reduceLT, reduceSub]
          intros
          intros
          refine keyK13 _ _ ?_ ?_
          ·
           simp only [amset, amlib, zset, encSh, eq_self, ↓reduceIte, reduceCtorEq, Nat.reduceBEq, reduceEqDiff, reduceAdd, reduceMul, reduceLeDiff, reduceLT, reduceSub] <;> simp only [stBad, p0, p1, p2, p3, p5, p6, p8, p10, bools, ↓reduceIte]
          ·
           simp only [amset, amlib, zset, encSh, eq_self, ↓reduceIte, reduceCtorEq, Nat.reduceBEq, reduceEqDiff, reduceAdd, reduceMul, reduceLeDiff, reduceLT, reduceSub]
         | false =>
          cases p11 : decide ((y.els.length : Int) > 0) with
          | true =>
           simp only [amset, amlib, zset, p0, p1, p2, p3, p5, p6, p8, p10, p11, encSh, eq_self, ↓reduceIte, reduceCtorEq, Nat.reduceBEq, reduceEqDiff, reduceAdd, reduceMul, reduceLeDiff, reduceLT, reduceSub]
           intros
           refine ⟨_, holds74 y.name, ?_⟩
           simp only [later]
           simp only [amset, amlib, zset, p0, p1, p2, p3, p5, p6, p8, p10, p11, encSh, eq_self, ↓reduceIte, reduceCtorEq, Nat.reduceBEq, reduceEqDiff, reduceAdd, reduceMul, reduceLeDiff, reduceLT, reduceSub]
           refine ⟨_, holds103 y.n 0, ?_⟩
           simp only [later]
           simp only [amset, amlib, zset, p0, p1, p2, p3, p5, p6, p8, p10, p11, encSh, eq_self, ↓reduceIte, reduceCtorEq, Nat.reduceBEq, reduceEqDiff, reduceAdd, reduceMul, reduceLeDiff, reduceLT, reduceSub]
           intros
           intros
           refine keyK13 _ _ ?_ ?_
           ·
            simp only [amset, amlib, zset, encSh, eq_self, ↓reduceIte, reduceCtorEq, Nat.reduceBEq, reduceEqDiff, reduceAdd, reduceMul, reduceLeDiff, reduceLT, reduceSub] <;> simp only [stBad, p0, p1, p2, p3, p5, p6, p8, p10, p11, bools, ↓reduceIte]
           ·
            simp only [amset, amlib, zset, encSh, eq_self, ↓reduceIte, reduceCtorEq, Nat.reduceBEq, reduceEqDiff, reduceAdd, reduceMul, reduceLeDiff, reduceLT, reduceSub]
          | false =>
           simp only [amset, amlib, zset, p0, p1, p2, p3, p5, p6, p8, p10, p11, encSh, eq_self, ↓reduceIte, reduceCtorEq, Nat.reduceBEq, reduceEqDiff, reduceAdd, reduceMul, reduceLeDiff, reduceLT, reduceSub]
           intros
           refine ⟨_, holds74 y.name, ?_⟩
           simp only [later]
           simp only [amset, amlib, zset, p0, p1, p2, p3, p5, p6, p8, p10, p11, encSh, eq_self, ↓reduceIte, reduceCtorEq, Nat.reduceBEq, reduceEqDiff, reduceAdd, reduceMul, reduceLeDiff, reduceLT, reduceSub]
           refine ⟨_, holds103 y.n 0, ?_⟩
           simp only [later]
           simp only [amset, amlib, zset, p0, p1, p2, p3, p5, p6, p8, p10, p11, encSh, eq_self, ↓reduceIte, reduceCtorEq, Nat.reduceBEq, reduceEqDiff, reduceAdd, reduceMul, reduceLeDiff, reduceLT, reduceSub]
           intros
           intros
           refine keyK13 _ _ ?_ ?_
           ·
            simp only [amset, amlib, zset, encSh, eq_self, ↓reduceIte, reduceCtorEq, Nat.reduceBEq, reduceEqDiff, reduceAdd, reduceMul, reduceLeDiff, reduceLT, reduceSub] <;> simp only [stBad, p0, p1, p2, p3, p5, p6, p8, p10, p11, bools, ↓reduceIte]
           ·
            simp only [amset, amlib, zset, encSh, eq_self, ↓reduceIte, reduceCtorEq, Nat.reduceBEq, reduceEqDiff, reduceAdd, reduceMul, reduceLeDiff, reduceLT, reduceSub]
        | false =>
         cases p9 : decide ((y.body.length : Int) > 0) with
         | true =>
          simp only [amset, amlib, zset, p0, p1, p2, p3, p5, p6, p8, p9, encSh, eq_self, ↓reduceIte, reduceCtorEq, Nat.reduceBEq, reduceEqDiff, reduceAdd, reduceMul, reduceLeDiff, reduceLT, reduceSub]
          intros
          refine ⟨_, holds74 y.name, ?_⟩
          simp only [later]
          simp only [amset, amlib, zset, p0, p1, p2, p3, p5, p6, p8, p9, encSh, eq_self, ↓reduceIte, reduceCtorEq, Nat.reduceBEq, reduceEqDiff, reduceAdd, reduceMul, reduceLeDiff, reduceLT, reduceSub]
          refine ⟨_, holds103 y.n 0, ?_⟩
          simp only [later]
          simp only [amset, amlib, zset, p0, p1, p2, p3, p5, p6, p8, p9, encSh, eq_self, ↓reduceIte, reduceCtorEq, Nat.reduceBEq, reduceEqDiff, reduceAdd, reduceMul, reduceLeDiff, reduceLT, reduceSub]
          intros
          intros
          refine keyK13 _ _ ?_ ?_
          ·
           simp only [amset, amlib, zset, encSh, eq_self, ↓reduceIte, reduceCtorEq, Nat.reduceBEq, reduceEqDiff, reduceAdd, reduceMul, reduceLeDiff, reduceLT, reduceSub] <;> simp only [stBad, p0, p1, p2, p3, p5, p6, p8, p9, bools, ↓reduceIte]
          ·
           simp only [amset, amlib, zset, encSh, eq_self, ↓reduceIte, reduceCtorEq, Nat.reduceBEq, reduceEqDiff, reduceAdd, reduceMul, reduceLeDiff, reduceLT, reduceSub]
         | false =>
          cases p10 : (shapeK y.kind).1.els with
          | true =>
           simp only [amset, amlib, zset, p0, p1, p2, p3, p5, p6, p8, p9, p10, encSh, eq_self, ↓reduceIte, reduceCtorEq, Nat.reduceBEq, reduceEqDiff, reduceAdd, reduceMul, reduceLeDiff, reduceLT, reduceSub]
           intros
           refine ⟨_, holds74 y.name, ?_⟩
           simp only [later]
           simp only [amset, amlib, zset, p0, p1, p2, p3, p5, p6, p8, p9, p10, encSh, eq_self, ↓reduceIte, reduceCtorEq, Nat.reduceBEq, reduceEqDiff, reduceAdd, reduceMul, reduceLeDiff, reduceLT, reduceSub]
           refine ⟨_, holds103 y.n 0, ?_⟩
           simp only [later]
           simp only [amset, amlib, zset, p0, p1, p2, p3, p5, p6, p8, p9, p10, encSh, eq_self, ↓reduceIte, reduceCtorEq, Nat.reduceBEq, reduceEqDiff, reduceAdd, reduceMul, reduceLeDiff, reduceLT, reduceSub]
           intros
           intros
           refine keyK13 _ _ ?_ ?_
           ·
            simp only [amset, amlib, zset, encSh, eq_self, ↓reduceIte, reduceCtorEq, Nat.reduceBEq, reduceEqDiff, reduceAdd, reduceMul, reduceLeDiff, reduceLT, reduceSub] <;> simp only [stBad, p0, p1, p2, p3, p5, p6, p8, p9, p10, bools, ↓reduceIte]
           ·
            simp only [amset, amlib, zset, encSh, eq_self, ↓reduceIte, reduceCtorEq, Nat.reduceBEq, reduceEqDiff, reduceAdd, reduceMul, reduceLeDiff, reduceLT, reduceSub]
          | false =>
           cases p11 : decide ((y.els.length : Int) > 0) with
           | true =>
            simp only [amset, amlib, zset, p0, p1, p2, p3, p5, p6, p8, p9, p10, p11, encSh, eq_self, ↓reduceIte, reduceCtorEq, Nat.reduceBEq, reduceEqDiff, reduceAdd, reduceMul, reduceLeDiff, reduceLT, reduceSub]
            intros
            refine ⟨_, holds74 y.name, ?_⟩
            simp only [later]
            simp only [amset, amlib, zset, p0, p1, p2, p3, p5, p6, p8, p9, p10, p11, encSh, eq_self, ↓reduceIte, reduceCtorEq, Nat.reduceBEq, reduceEqDiff, reduceAdd, reduceMul, reduceLeDiff, reduceLT, reduceSub]
            refine ⟨_, holds103 y.n 0, ?_⟩
            simp only [later]
            simp only [amset, amlib, zset, p0, p1, p2, p3, p5, p6, p8, p9, p10, p11, encSh, eq_self, ↓reduceIte, reduceCtorEq, Nat.reduceBEq, reduceEqDiff, reduceAdd, reduceMul, reduceLeDiff, reduceLT, reduceSub]
            intros
            intros
            refine keyK13 _ _ ?_ ?_
            ·
             simp only [amset, amlib, zset, encSh, eq_self, ↓reduceIte, reduceCtorEq, Nat.reduceBEq, reduceEqDiff, reduceAdd, reduceMul, reduceLeDiff, reduceLT, reduceSub] <;> simp only [stBad, p0, p1, p2, p3, p5, p6, p8, p9, p10, p11, bools, ↓reduceIte]
            ·
             simp only [amset, amlib, zset, encSh, eq_self, ↓reduceIte, reduceCtorEq, Nat.reduceBEq, reduceEqDiff, reduceAdd, reduceMul, reduceLeDiff, reduceLT, reduceSub]
           | false =>
            simp only [amset, amlib, zset, p0, p1, p2, p3, p5, p6, p8, p9, p10, p11, encSh, eq_self, ↓reduceIte, reduceCtorEq, Nat.reduceBEq, reduceEqDiff, reduceAdd, reduceMul, reduceLeDiff, reduceLT, reduceSub]
            intros
            refine ⟨_, holds74 y.name, ?_⟩
            simp only [later]
            simp only [amset, amlib, zset, p0, p1, p2, p3, p5, p6, p8, p9, p10, p11, encSh, eq_self, ↓reduceIte, reduceCtorEq, Nat.reduceBEq, reduceEqDiff, reduceAdd, reduceMul, reduceLeDiff, reduceLT, reduceSub]
            refine ⟨_, holds103 y.n 0, ?_⟩
            simp only [later]
            simp only [amset, amlib, zset, p0, p1, p2, p3, p5, p6, p8, p9, p10, p11, encSh, eq_self, ↓reduceIte, reduceCtorEq, Nat.reduceBEq, reduceEqDiff, reduceAdd, reduceMul, reduceLeDiff, reduceLT, reduceSub]
            intros
            intros
            refine keyK13 _ _ ?_ ?_
            ·
             simp only [amset, amlib, zset, encSh, eq_self, ↓reduceIte, reduceCtorEq, Nat.reduceBEq, reduceEqDiff, reduceAdd, reduceMul, reduceLeDiff, reduceLT, reduceSub] <;> simp only [stBad, p0, p1, p2, p3, p5, p6, p8, p9, p10, p11, bools, ↓reduceIte]
            ·
             simp only [amset, amlib, zset, encSh, eq_self, ↓reduceIte, reduceCtorEq, Nat.reduceBEq, reduceEqDiff, reduceAdd, reduceMul, reduceLeDiff, reduceLT, reduceSub]
       | false =>
        cases p7 : (y.n != 0) with
        | true =>
         simp only [amset, amlib, zset, p0, p1, p2, p3, p5, p6, p7, encSh, eq_self, ↓reduceIte, reduceCtorEq, Nat.reduceBEq, reduceEqDiff, reduceAdd, reduceMul, reduceLeDiff, reduceLT, reduceSub]
         intros
         refine ⟨_, holds74 y.name, ?_⟩
         simp only [later]
         simp only [amset, amlib, zset, p0, p1, p2, p3, p5, p6, p7, encSh, eq_self, ↓reduceIte, reduceCtorEq, Nat.reduceBEq, reduceEqDiff, reduceAdd, reduceMul, reduceLeDiff, reduceLT, reduceSub]
         refine ⟨_, holds103 y.n 0, ?_⟩
         simp only [later]
         simp only [amset, amlib, zset, p0, p1, p2, p3, p5, p6, p7, encSh, eq_self, ↓reduceIte, reduceCtorEq, Nat.reduceBEq, reduceEqDiff, reduceAdd, reduceMul, reduceLeDiff, reduceLT, reduceSub]
         intros
         intros
         refine keyK13 _ _ ?_ ?_
         ·
          simp only [amset, amlib, zset, encSh, eq_self, ↓reduceIte, reduceCtorEq, Nat.reduceBEq, reduceEqDiff, reduceAdd, reduceMul, reduceLeDiff, reduceLT, reduceSub] <;> simp only [stBad, p0, p1, p2, p3, p5, p6, p7, bools, ↓reduceIte]
         ·
          simp only [amset, amlib, zset, encSh, eq_self, ↓reduceIte, reduceCtorEq, Nat.reduceBEq, reduceEqDiff, reduceAdd, reduceMul, reduceLeDiff, reduceLT, reduceSub]
        | false =>
         cases p8 : (shapeK y.kind).1.body with
         | true =>
          cases p10 : (shapeK y.kind).1.els with
          | true =>
           simp only [amset, amlib, zset, p0, p1, p2, p3, p5, p6, p7, p8, p10, encSh, eq_self, ↓reduceIte, reduceCtorEq, Nat.reduceBEq, reduceEqDiff, reduceAdd, reduceMul, reduceLeDiff, reduceLT, reduceSub]
           intros
           refine ⟨_, holds74 y.name, ?_⟩
           simp only [later]
           simp only [amset, amlib, zset, p0, p1, p2, p3, p5, p6, p7, p8, p10, encSh, eq_self, ↓reduceIte, reduceCtorEq, Nat.reduceBEq, reduceEqDiff, reduceAdd, reduceMul, reduceLeDiff, reduceLT, reduceSub]
           refine ⟨_, holds103 y.n 0, ?_⟩
           simp only [later]
           simp only [amset, amlib, zset, p0, p1, p2, p3, p5, p6, p7, p8, p10, encSh, eq_self, ↓reduceIte, reduceCtorEq, Nat.reduceBEq, reduceEqDiff, reduceAdd, reduceMul, reduceLeDiff, reduceLT, reduceSub]
           intros
           intros
           refine keyK13 _ _ ?_ ?_
           ·
            simp only [amset, amlib, zset, encSh, eq_self, ↓reduceIte, reduceCtorEq, Nat.reduceBEq, reduceEqDiff, reduceAdd, reduceMul, reduceLeDiff, reduceLT, reduceSub] <;> simp only [stBad, p0, p1, p2, p3, p5, p6, p7, p8, p10, bools, ↓reduceIte]
           ·
            simp only [amset, amlib, zset, encSh, eq_self, ↓reduceIte, reduceCtorEq, Nat.reduceBEq, reduceEqDiff, reduceAdd, reduceMul, reduceLeDiff, reduceLT, reduceSub]
          | false =>
           cases p11 : decide ((y.els.length : Int) > 0) with
           | true =>
            simp only [amset, amlib, zset, p0, p1, p2, p3, p5, p6, p7, p8, p10, p11, encSh, eq_self, ↓reduceIte, reduceCtorEq, Nat.reduceBEq, reduceEqDiff, reduceAdd, reduceMul, reduceLeDiff, reduceLT, reduceSub]
            intros
            refine ⟨_, holds74 y.name, ?_⟩
            simp only [later]
            simp only [amset, amlib, zset, p0, p1, p2, p3, p5, p6, p7, p8, p10, p11, encSh, eq_self, ↓reduceIte, reduceCtorEq, Nat.reduceBEq, reduceEqDiff, reduceAdd, reduceMul, reduceLeDiff, reduceLT, reduceSub]
            refine ⟨_, holds103 y.n 0, ?_⟩
            simp only [later]
            simp only [amset, amlib, zset, p0, p1, p2, p3, p5, p6, p7, p8, p10, p11, encSh, eq_self, ↓reduceIte, reduceCtorEq, Nat.reduceBEq, reduceEqDiff, reduceAdd, reduceMul, reduceLeDiff, reduceLT, reduceSub]
            intros
            intros
            refine keyK13 _ _ ?_ ?_
            ·
             simp only [amset, amlib, zset, encSh, eq_self, ↓reduceIte, reduceCtorEq, Nat.reduceBEq, reduceEqDiff, reduceAdd, reduceMul, reduceLeDiff, reduceLT, reduceSub] <;> simp only [stBad, p0, p1, p2, p3, p5, p6, p7, p8, p10, p11, bools, ↓reduceIte]
            ·
             simp only [amset, amlib, zset, encSh, eq_self, ↓reduceIte, reduceCtorEq, Nat.reduceBEq, reduceEqDiff, reduceAdd, reduceMul, reduceLeDiff, reduceLT, reduceSub]
           | false =>
            simp only [amset, amlib, zset, p0, p1, p2, p3, p5, p6, p7, p8, p10, p11, encSh, eq_self, ↓reduceIte, reduceCtorEq, Nat.reduceBEq, reduceEqDiff, reduceAdd, reduceMul, reduceLeDiff, reduceLT, reduceSub]
            intros
            refine ⟨_, holds74 y.name, ?_⟩
            simp only [later]
            simp only [amset, amlib, zset, p0, p1, p2, p3, p5, p6, p7, p8, p10, p11, encSh, eq_self, ↓reduceIte, reduceCtorEq, Nat.reduceBEq, reduceEqDiff, reduceAdd, reduceMul, reduceLeDiff, reduceLT, reduceSub]
            refine ⟨_, holds103 y.n 0, ?_⟩
            simp only [later]
            simp only [amset, amlib, zset, p0, p1, p2, p3, p5, p6, p7, p8, p10, p11, encSh, eq_self, ↓reduceIte, reduceCtorEq, Nat.reduceBEq, reduceEqDiff, reduceAdd, reduceMul, reduceLeDiff, reduceLT, reduceSub]
            intros
            intros
            refine keyK13 _ _ ?_ ?_
            ·
             simp only [amset, amlib, zset, encSh, eq_self, ↓reduceIte, reduceCtorEq, Nat.reduceBEq, reduceEqDiff, reduceAdd, reduceMul, reduceLeDiff, reduceLT, reduceSub] <;> simp only [stBad, p0, p1, p2, p3, p5, p6, p7, p8, p10, p11, bools, ↓reduceIte]
            ·
             simp only [amset, amlib, zset, encSh, eq_self, ↓reduceIte, reduceCtorEq, Nat.reduceBEq, reduceEqDiff, reduceAdd, reduceMul, reduceLeDiff, reduceLT, reduceSub]
         | false =>
          cases p9 : decide ((y.body.length : Int) > 0) with
          | true =>
           simp only [amset, amlib, zset, p0, p1, p2, p3, p5, p6, p7, p8, p9, encSh, eq_self, ↓reduceIte, reduceCtorEq, Nat.reduceBEq, reduceEqDiff, reduceAdd, reduceMul, reduceLeDiff, reduceLT, reduceSub]
           intros
           refine ⟨_, holds74 y.name, ?_⟩
           simp only [later]
           simp only [amset, amlib, zset, p0, p1, p2, p3, p5, p6, p7, p8, p9, encSh, eq_self, ↓reduceIte, reduceCtorEq, Nat.reduceBEq, reduceEqDiff, reduceAdd, reduceMul, reduceLeDiff, reduceLT, reduceSub]
           refine ⟨_, holds103 y.n 0, ?_⟩
           simp only [later]
           simp only [amset, amlib, zset, p0, p1, p2, p3, p5, p6, p7, p8, p9, encSh, eq_self, ↓reduceIte, reduceCtorEq, Nat.reduceBEq, reduceEqDiff, reduceAdd, reduceMul, reduceLeDiff, reduceLT, reduceSub]
           intros
           intros
           refine keyK13 _ _ ?_ ?_
           ·
            simp only [amset, amlib, zset, encSh, eq_self, ↓reduceIte, reduceCtorEq, Nat.reduceBEq, reduceEqDiff, reduceAdd, reduceMul, reduceLeDiff, reduceLT, reduceSub] <;> simp only [stBad, p0, p1, p2, p3, p5, p6, p7, p8, p9, bools, ↓reduceIte]
           ·
            simp only [amset, amlib, zset, encSh, eq_self, ↓reduceIte, reduceCtorEq, Nat.reduceBEq, reduceEqDiff, reduceAdd, reduceMul, reduceLeDiff, reduceLT, reduceSub]
          | false =>
           cases p10 : (shapeK y.kind).1.els with
           | true =>
            simp only [amset, amlib, zset, p0, p1, p2, p3, p5, p6, p7, p8, p9, p10, encSh, eq_self, ↓reduceIte, reduceCtorEq, Nat.reduceBEq, reduceEqDiff, reduceAdd, reduceMul, reduceLeDiff, reduceLT, reduceSub]
            intros
            refine ⟨_, holds74 y.name, ?_⟩
            simp only [later]
            simp only [amset, amlib, zset, p0, p1, p2, p3, p5, p6, p7, p8, p9, p10, encSh, eq_self, ↓reduceIte, reduceCtorEq, Nat.reduceBEq, reduceEqDiff, reduceAdd, reduceMul, reduceLeDiff, reduceLT, reduceSub]
            refine ⟨_, holds103 y.n 0, ?_⟩
            simp only [later]
            simp only [amset, amlib, zset, p0, p1, p2, p3, p5, p6, p7, p8, p9, p10, encSh, eq_self, ↓reduceIte, reduceCtorEq, Nat.reduceBEq, reduceEqDiff, reduceAdd, reduceMul, reduceLeDiff, reduceLT, reduceSub]
            intros
            intros
            refine keyK13 _ _ ?_ ?_
            ·
             simp only [amset, amlib, zset, encSh, eq_self, ↓reduceIte, reduceCtorEq, Nat.reduceBEq, reduceEqDiff, reduceAdd, reduceMul, reduceLeDiff, reduceLT, reduceSub] <;> simp only [stBad, p0, p1, p2, p3, p5, p6, p7, p8, p9, p10, bools, ↓reduceIte]
            ·
             simp only [amset, amlib, zset, encSh, eq_self, ↓reduceIte, reduceCtorEq, Nat.reduceBEq, reduceEqDiff, reduceAdd, reduceMul, reduceLeDiff, reduceLT, reduceSub]
           | false =>
            cases p11 : decide ((y.els.length : Int) > 0) with
            | true =>
             simp only [amset, amlib, zset, p0, p1, p2, p3, p5, p6, p7, p8, p9, p10, p11, encSh, eq_self, ↓reduceIte, reduceCtorEq, Nat.reduceBEq, reduceEqDiff, reduceAdd, reduceMul, reduceLeDiff, reduceLT, reduceSub]
             intros
             refine ⟨_, holds74 y.name, ?_⟩
             simp only [later]
             simp only [amset, amlib, zset, p0, p1, p2, p3, p5, p6, p7, p8, p9, p10, p11, encSh, eq_self, ↓reduceIte, reduceCtorEq, Nat.reduceBEq, reduceEqDiff, reduceAdd, reduceMul, reduceLeDiff, reduceLT, reduceSub]
             refine ⟨_, holds103 y.n 0, ?_⟩
             simp only [later]
             simp only [amset, amlib, zset, p0, p1, p2, p3, p5, p6, p7, p8, p9, p10, p11, encSh, eq_self, ↓reduceIte, reduceCtorEq, Nat.reduceBEq, reduceEqDiff, reduceAdd, reduceMul, reduceLeDiff, reduceLT, reduceSub]
             intros
             intros
             refine keyK13 _ _ ?_ ?_
             ·
              simp only [amset, amlib, zset, encSh, eq_self, ↓reduceIte, reduceCtorEq, Nat.reduceBEq, reduceEqDiff, reduceAdd, reduceMul, reduceLeDiff, reduceLT, reduceSub] <;> simp only [stBad, p0, p1, p2, p3, p5, p6, p7, p8, p9, p10, p11, bools, ↓reduceIte]
             ·
              simp only [amset, amlib, zset, encSh, eq_self, ↓reduceIte, reduceCtorEq, Nat.reduceBEq, reduceEqDiff, reduceAdd, reduceMul, reduceLeDiff, reduceLT, reduceSub]
            | false =>
             simp only [amset, amlib, zset, p0, p1, p2, p3, p5, p6, p7, p8, p9, p10, p11, encSh, eq_self, ↓reduceIte, reduceCtorEq, Nat.reduceBEq, reduceEqDiff, reduceAdd, reduceMul, reduceLeDiff, reduceLT, reduceSub]
             intros
             refine ⟨_, holds74 y.name, ?_⟩
             simp only [later]
             simp only [amset, amlib, zset, p0, p1, p2, p3, p5, p6, p7, p8, p9, p10, p11, encSh, eq_self, ↓reduceIte, reduceCtorEq, Nat.reduceBEq, reduceEqDiff, reduceAdd, reduceMul, reduceLeDiff, reduceLT, reduceSub]
             refine ⟨_, holds103 y.n 0, ?_⟩
             simp only [later]
             simp only [amset, amlib, zset, p0, p1, p2, p3, p5, p6, p7, p8, p9, p10, p11, encSh, eq_self, ↓reduceIte, reduceCtorEq, Nat.reduceBEq, reduceEqDiff, reduceAdd, reduceMul, reduceLeDiff, reduceLT, reduceSub]
             intros
             intros
             refine keyK13 _ _ ?_ ?_
             ·
              simp only [amset, amlib, zset, encSh, eq_self, ↓reduceIte, reduceCtorEq, Nat.reduceBEq, reduceEqDiff, reduceAdd, reduceMul, reduceLeDiff, reduceLT, reduceSub] <;> simp only [stBad, p0, p1, p2, p3, p5, p6, p7, p8, p9, p10, p11, bools, ↓reduceIte]
             ·
              simp only [amset, amlib, zset, encSh, eq_self, ↓reduceIte, reduceCtorEq, Nat.reduceBEq, reduceEqDiff, reduceAdd, reduceMul, reduceLeDiff, reduceLT, reduceSub]
    | false =>
     cases p4 : (!(y.name == [])) with
     | true =>
      simp only [amset, amlib, zset, p0, p1, p2, p4, encSh, eq_self, ↓reduceIte, reduceCtorEq, Nat.reduceBEq, reduceEqDiff, reduceAdd, reduceMul, reduceLeDiff, reduceLT, reduceSub]
      intros
      intros
      intros
      refine keyK13 _ _ ?_ ?_
      ·
       simp only [amset, amlib, zset, encSh, eq_self, ↓reduceIte, reduceCtorEq, Nat.reduceBEq, reduceEqDiff, reduceAdd, reduceMul, reduceLeDiff, reduceLT, reduceSub] <;> simp only [stBad, p0, p1, p2, p4, bools, ↓reduceIte]
      ·
       simp only [amset, amlib, zset, encSh, eq_self, ↓reduceIte, reduceCtorEq, Nat.reduceBEq, reduceEqDiff, reduceAdd, reduceMul, reduceLeDiff, reduceLT, reduceSub]
     | false =>
      cases p5 : (!numOk y.n 0) with
      | true =>
       simp only [amset, amlib, zset, p0, p1, p2, p4, p5, encSh, eq_self, ↓reduceIte, reduceCtorEq, Nat.reduceBEq, reduceEqDiff, reduceAdd, reduceMul, reduceLeDiff, reduceLT, reduceSub]
       intros
       refine ⟨_, holds103 y.n 0, ?_⟩
       simp only [later]
       simp only [amset, amlib, zset, p0, p1, p2, p4, p5, encSh, eq_self, ↓reduceIte, reduceCtorEq, Nat.reduceBEq, reduceEqDiff, reduceAdd, reduceMul, reduceLeDiff, reduceLT, reduceSub]
       intros
       intros
       refine keyK13 _ _ ?_ ?_
       ·
        simp only [amset, amlib, zset, encSh, eq_self, ↓reduceIte, reduceCtorEq, Nat.reduceBEq, reduceEqDiff, reduceAdd, reduceMul, reduceLeDiff, reduceLT, reduceSub] <;> simp only [stBad, p0, p1, p2, p4, p5, bools, ↓reduceIte]
       ·
        simp only [amset, amlib, zset, encSh, eq_self, ↓reduceIte, reduceCtorEq, Nat.reduceBEq, reduceEqDiff, reduceAdd, reduceMul, reduceLeDiff, reduceLT, reduceSub]
      | false =>
       cases p6 : (shapeK y.kind).1.n with
       | true =>
        cases p8 : (shapeK y.kind).1.body with
        | true =>
         cases p10 : (shapeK y.kind).1.els with
         | true =>
          simp only [amset, amlib, zset, p0, p1, p2, p4, p5, p6, p8, p10, encSh, eq_self, ↓reduceIte, reduceCtorEq, Nat.reduceBEq, reduceEqDiff, reduceAdd, reduceMul, reduceLeDiff, reduceLT, reduceSub]
          intros
          refine ⟨_, holds103 y.n 0, ?_⟩
          simp only [later]
          simp only [amset, amlib, zset, p0, p1, p2, p4, p5, p6, p8, p10, encSh, eq_self, ↓reduceIte, reduceCtorEq, Nat.reduceBEq, reduceEqDiff, reduceAdd, reduceMul, reduceLeDiff, reduceLT, reduceSub]
          intros
          intros
          refine keyK13 _ _ ?_ ?_
          ·
           simp only [amset, amlib, zset, encSh, eq_self, ↓reduceIte, reduceCtorEq, Nat.reduceBEq, reduceEqDiff, reduceAdd, reduceMul, reduceLeDiff, reduceLT, reduceSub] <;> simp only [stBad, p0, p1, p2, p4, p5, p6, p8, p10, bools, ↓reduceIte]
          ·
           simp only [amset, amlib, zset, encSh, eq_self, ↓reduceIte, reduceCtorEq, Nat.reduceBEq, reduceEqDiff, reduceAdd, reduceMul, reduceLeDiff, reduceLT, reduceSub]
         | false =>
          cases p11 : decide ((y.els.length : Int) > 0) with
          | true =>
           simp only [amset, amlib, zset, p0, p1, p2, p4, p5, p6, p8, p10, p11, encSh, eq_self, ↓reduceIte, reduceCtorEq, Nat.reduceBEq, reduceEqDiff, reduceAdd, reduceMul, reduceLeDiff, reduceLT, reduceSub]
           intros
           refine ⟨_, holds103 y.n 0, ?_⟩
           simp only [later]
           simp only [amset, amlib, zset, p0, p1, p2, p4, p5, p6, p8, p10, p11, encSh, eq_self, ↓reduceIte, reduceCtorEq, Nat.reduceBEq, reduceEqDiff, reduceAdd, reduceMul, reduceLeDiff, reduceLT, reduceSub]
           intros
           intros
           refine keyK13 _ _ ?_ ?_
           ·
            simp only [amset, amlib, zset, encSh, eq_self, ↓reduceIte, reduceCtorEq, Nat.reduceBEq, reduceEqDiff, reduceAdd, reduceMul, reduceLeDiff, reduceLT, reduceSub] <;> simp only [stBad, p0, p1, p2, p4, p5, p6, p8, p10, p11, bools, ↓reduceIte]
           ·
            simp only [amset, amlib, zset, encSh, eq_self, ↓reduceIte, reduceCtorEq, Nat.reduceBEq, reduceEqDiff, reduceAdd, reduceMul, reduceLeDiff, reduceLT, reduceSub]
          | false =>
           simp only [amset, amlib, zset, p0, p1, p2, p4, p5, p6, p8, p10, p11, encSh, eq_self, ↓reduceIte, reduceCtorEq, Nat.reduceBEq, reduceEqDiff, reduceAdd, reduceMul, reduceLeDiff, reduceLT, reduceSub]
           intros
           refine ⟨_, holds103 y.n 0, ?_⟩
           simp only [later]
           simp only [amset, amlib, zset, p0, p1, p2, p4, p5, p6, p8, p10, p11, encSh, eq_self, ↓reduceIte, reduceCtorEq, Nat.reduceBEq, reduceEqDiff, reduceAdd, reduceMul, reduceLeDiff, reduceLT, reduceSub]
           intros
           intros
           refine keyK13 _ _ ?_ ?_
           ·
            simp only [amset, amlib, zset, encSh, eq_self, ↓reduceIte, reduceCtorEq, Nat.reduceBEq, reduceEqDiff, reduceAdd, reduceMul, reduceLeDiff, reduceLT, reduceSub] <;> simp only [stBad, p0, p1, p2, p4, p5, p6, p8, p10, p11, bools, ↓reduceIte]
           ·
            simp only [amset, amlib, zset, encSh, eq_self, ↓reduceIte, reduceCtorEq, Nat.reduceBEq, reduceEqDiff, reduceAdd, reduceMul, reduceLeDiff, reduceLT, reduceSub]
        | false =>
         cases p9 : decide ((y.body.length : Int) > 0) with
         | true =>
          simp only [amset, amlib, zset, p0, p1, p2, p4, p5, p6, p8, p9, encSh, eq_self, ↓reduceIte, reduceCtorEq, Nat.reduceBEq, reduceEqDiff, reduceAdd, reduceMul, reduceLeDiff, reduceLT, reduceSub]
          intros
          refine ⟨_, holds103 y.n 0, ?_⟩
          simp only [later]
          simp only [amset, amlib, zset, p0, p1, p2, p4, p5, p6, p8, p9, encSh, eq_self, ↓reduceIte, reduceCtorEq, Nat.reduceBEq, reduceEqDiff, reduceAdd, reduceMul, reduceLeDiff, reduceLT, reduceSub]
          intros
          intros
          refine keyK13 _ _ ?_ ?_
          ·
           simp only [amset, amlib, zset, encSh, eq_self, ↓reduceIte, reduceCtorEq, Nat.reduceBEq, reduceEqDiff, reduceAdd, reduceMul, reduceLeDiff, reduceLT, reduceSub] <;> simp only [stBad, p0, p1, p2, p4, p5, p6, p8, p9, bools, ↓reduceIte]
          ·
           simp only [amset, amlib, zset, encSh, eq_self, ↓reduceIte, reduceCtorEq, Nat.reduceBEq, reduceEqDiff, reduceAdd, reduceMul, reduceLeDiff, reduceLT, reduceSub]
         | false =>
          cases p10 : (shapeK y.kind).1.els with
          | true =>
           simp only [amset, amlib, zset, p0, p1, p2, p4, p5, p6, p8, p9, p10, encSh, eq_self, ↓reduceIte, reduceCtorEq, Nat.reduceBEq, reduceEqDiff, reduceAdd, reduceMul, reduceLeDiff, reduceLT, reduceSub]
           intros
           refine ⟨_, holds103 y.n 0, ?_⟩
           simp only [later]
           simp only [amset, amlib, zset, p0, p1, p2, p4, p5, p6, p8, p9, p10, encSh, eq_self, ↓reduceIte, reduceCtorEq, Nat.reduceBEq, reduceEqDiff, reduceAdd, reduceMul, reduceLeDiff, reduceLT, reduceSub]
           intros
           intros
           refine keyK13 _ _ ?_ ?_
           ·
            simp only [amset, amlib, zset, encSh, eq_self, ↓reduceIte, reduceCtorEq, Nat.reduceBEq, reduceEqDiff, reduceAdd, reduceMul, reduceLeDiff, reduceLT, reduceSub] <;> simp only [stBad, p0, p1, p2, p4, p5, p6, p8, p9, p10, bools, ↓reduceIte]
           ·
            simp only [amset, amlib, zset, encSh, eq_self, ↓reduceIte, reduceCtorEq, Nat.reduceBEq, reduceEqDiff, reduceAdd, reduceMul, reduceLeDiff, reduceLT, reduceSub]
          | false =>
           cases p11 : decide ((y.els.length : Int) > 0) with
           | true =>
            simp only [amset, amlib, zset, p0, p1, p2, p4, p5, p6, p8, p9, p10, p11, encSh, eq_self, ↓reduceIte, reduceCtorEq, Nat.reduceBEq, reduceEqDiff, reduceAdd, reduceMul, reduceLeDiff, reduceLT, reduceSub]
            intros
            refine ⟨_, holds103 y.n 0, ?_⟩
            simp only [later]
            simp only [amset, amlib, zset, p0, p1, p2, p4, p5, p6, p8, p9, p10, p11, encSh, eq_self, ↓reduceIte, reduceCtorEq, Nat.reduceBEq, reduceEqDiff, reduceAdd, reduceMul, reduceLeDiff, reduceLT, reduceSub]
            intros
            intros
            refine keyK13 _ _ ?_ ?_
            ·
             simp only [amset, amlib, zset, encSh, eq_self, ↓reduceIte, reduceCtorEq, Nat.reduceBEq, reduceEqDiff, reduceAdd, reduceMul, reduceLeDiff, reduceLT, reduceSub] <;> simp only [stBad, p0, p1, p2, p4, p5, p6, p8, p9, p10, p11, bools, ↓reduceIte]
            ·
             simp only [amset, amlib, zset, encSh, eq_self, ↓reduceIte, reduceCtorEq, Nat.reduceBEq, reduceEqDiff, reduceAdd, reduceMul, reduceLeDiff, reduceLT, reduceSub]
           | false =>
            simp only [amset, amlib, zset, p0, p1, p2, p4, p5, p6, p8, p9, p10, p11, encSh, eq_self, ↓reduceIte, reduceCtorEq, Nat.reduceBEq, reduceEqDiff, reduceAdd, reduceMul, reduceLeDiff, reduceLT, reduceSub]
            intros
            refine ⟨_, holds103 y.n 0, ?_⟩
            simp only [later]
            simp only [amset, amlib, zset, p0, p1, p2, p4, p5, p6, p8, p9, p10, p11, encSh, eq_self, ↓reduceIte, reduceCtorEq, Nat.reduceBEq, reduceEqDiff, reduceAdd, reduceMul, reduceLeDiff, reduceLT, reduceSub]
            intros
            intros
            refine keyK13 _ _ ?_ ?_
            ·
             simp only [amset, amlib, zset, encSh, eq_self, ↓reduceIte, reduceCtorEq, Nat.reduceBEq, reduceEqDiff, reduceAdd, reduceMul, reduceLeDiff, reduceLT, reduceSub] <;> simp only [stBad, p0, p1, p2, p4, p5, p6, p8, p9, p10, p11, bools, ↓reduceIte]
            ·
             simp only [amset, amlib, zset, encSh, eq_self, ↓reduceIte, reduceCtorEq, Nat.reduceBEq, reduceEqDiff, reduceAdd, reduceMul, reduceLeDiff, reduceLT, reduceSub]
       | false =>
        cases p7 : (y.n != 0) with
        | true =>
         simp only [amset, amlib, zset, p0, p1, p2, p4, p5, p6, p7, encSh, eq_self, ↓reduceIte, reduceCtorEq, Nat.reduceBEq, reduceEqDiff, reduceAdd, reduceMul, reduceLeDiff, reduceLT, reduceSub]
         intros
         refine ⟨_, holds103 y.n 0, ?_⟩
         simp only [later]
         simp only [amset, amlib, zset, p0, p1, p2, p4, p5, p6, p7, encSh, eq_self, ↓reduceIte, reduceCtorEq, Nat.reduceBEq, reduceEqDiff, reduceAdd, reduceMul, reduceLeDiff, reduceLT, reduceSub]
         intros
         intros
         refine keyK13 _ _ ?_ ?_
         ·
          simp only [amset, amlib, zset, encSh, eq_self, ↓reduceIte, reduceCtorEq, Nat.reduceBEq, reduceEqDiff, reduceAdd, reduceMul, reduceLeDiff, reduceLT, reduceSub] <;> simp only [stBad, p0, p1, p2, p4, p5, p6, p7, bools, ↓reduceIte]
         ·
          simp only [amset, amlib, zset, encSh, eq_self, ↓reduceIte, reduceCtorEq, Nat.reduceBEq, reduceEqDiff, reduceAdd, reduceMul, reduceLeDiff, reduceLT, reduceSub]
        | false =>
         cases p8 : (shapeK y.kind).1.body with
         | true =>
          cases p10 : (shapeK y.kind).1.els with
          | true =>
           simp only [amset, amlib, zset, p0, p1, p2, p4, p5, p6, p7, p8, p10, encSh, eq_self, ↓reduceIte, reduceCtorEq, Nat.reduceBEq, reduceEqDiff, reduceAdd, reduceMul, reduceLeDiff, reduceLT, reduceSub]
           intros
           refine ⟨_, holds103 y.n 0, ?_⟩
           simp only [later]
           simp only [amset, amlib, zset, p0, p1, p2, p4, p5, p6, p7, p8, p10, encSh, eq_self, ↓reduceIte, reduceCtorEq, Nat.reduceBEq, reduceEqDiff, reduceAdd, reduceMul, reduceLeDiff, reduceLT, reduceSub]
           intros
           intros
           refine keyK13 _ _ ?_ ?_
           ·
            simp only [amset, amlib, zset, encSh, eq_self, ↓reduceIte, reduceCtorEq, Nat.reduceBEq, reduceEqDiff, reduceAdd, reduceMul, reduceLeDiff, reduceLT, reduceSub] <;> simp only [stBad, p0, p1, p2, p4, p5, p6, p7, p8, p10, bools, ↓reduceIte]
           ·
            simp only [amset, amlib, zset, encSh, eq_self, ↓reduceIte, reduceCtorEq, Nat.reduceBEq, reduceEqDiff, reduceAdd, reduceMul, reduceLeDiff, reduceLT, reduceSub]
          | false =>
           cases p11 : decide ((y.els.length : Int) > 0) with
           | true =>
            simp only [amset, amlib, zset, p0, p1, p2, p4, p5, p6, p7, p8, p10, p11, encSh, eq_self, ↓reduceIte, reduceCtorEq, Nat.reduceBEq, reduceEqDiff, reduceAdd, reduceMul, reduceLeDiff, reduceLT, reduceSub]
            intros
            refine ⟨_, holds103 y.n 0, ?_⟩
            simp only [later]
            simp only [amset, amlib, zset, p0, p1, p2, p4, p5, p6, p7, p8, p10, p11, encSh, eq_self, ↓reduceIte, reduceCtorEq, Nat.reduceBEq, reduceEqDiff, reduceAdd, reduceMul, reduceLeDiff, reduceLT, reduceSub]
            intros
            intros
            refine keyK13 _ _ ?_ ?_
            ·
             simp only [amset, amlib, zset, encSh, eq_self, ↓reduceIte, reduceCtorEq, Nat.reduceBEq, reduceEqDiff, reduceAdd, reduceMul, reduceLeDiff, reduceLT, reduceSub] <;> simp only [stBad, p0, p1, p2, p4, p5, p6, p7, p8, p10, p11, bools, ↓reduceIte]
            ·
             simp only [amset, amlib, zset, encSh, eq_self, ↓reduceIte, reduceCtorEq, Nat.reduceBEq, reduceEqDiff, reduceAdd, reduceMul, reduceLeDiff, reduceLT, reduceSub]
           | false =>
            simp only [amset, amlib, zset, p0, p1, p2, p4, p5, p6, p7, p8, p10, p11, encSh, eq_self, ↓reduceIte, reduceCtorEq, Nat.reduceBEq, reduceEqDiff, reduceAdd, reduceMul, reduceLeDiff, reduceLT, reduceSub]
            intros
            refine ⟨_, holds103 y.n 0, ?_⟩
            simp only [later]
            simp only [amset, amlib, zset, p0, p1, p2, p4, p5, p6, p7, p8, p10, p11, encSh, eq_self, ↓reduceIte, reduceCtorEq, Nat.reduceBEq, reduceEqDiff, reduceAdd, reduceMul, reduceLeDiff, reduceLT, reduceSub]
            intros
            intros
            refine keyK13 _ _ ?_ ?_
            ·
             simp only [amset, amlib, zset, encSh, eq_self, ↓reduceIte, reduceCtorEq, Nat.reduceBEq, reduceEqDiff, reduceAdd, reduceMul, reduceLeDiff, reduceLT, reduceSub] <;> simp only [stBad, p0, p1, p2, p4, p5, p6, p7, p8, p10, p11, bools, ↓reduceIte]
            ·
             simp only [amset, amlib, zset, encSh, eq_self, ↓reduceIte, reduceCtorEq, Nat.reduceBEq, reduceEqDiff, reduceAdd, reduceMul, reduceLeDiff, reduceLT, reduceSub]
         | false =>
          cases p9 : decide ((y.body.length : Int) > 0) with
          | true =>
           simp only [amset, amlib, zset, p0, p1, p2, p4, p5, p6, p7, p8, p9, encSh, eq_self, ↓reduceIte, reduceCtorEq, Nat.reduceBEq, reduceEqDiff, reduceAdd, reduceMul, reduceLeDiff, reduceLT, reduceSub]
           intros
           refine ⟨_, holds103 y.n 0, ?_⟩
           simp only [later]
           simp only [amset, amlib, zset, p0, p1, p2, p4, p5, p6, p7, p8, p9, encSh, eq_self, ↓reduceIte, reduceCtorEq, Nat.reduceBEq, reduceEqDiff, reduceAdd, reduceMul, reduceLeDiff, reduceLT, reduceSub]
           intros
           intros
           refine keyK13 _ _ ?_ ?_
           ·
            simp only [amset, amlib, zset, encSh, eq_self, ↓reduceIte, reduceCtorEq, Nat.reduceBEq, reduceEqDiff, reduceAdd, reduceMul, reduceLeDiff, reduceLT, reduceSub] <;> simp only [stBad, p0, p1, p2, p4, p5, p6, p7, p8, p9, bools, ↓reduceIte]
           ·
            simp only [amset, amlib, zset, encSh, eq_self, ↓reduceIte, reduceCtorEq, Nat.reduceBEq, reduceEqDiff, reduceAdd, reduceMul, reduceLeDiff, reduceLT, reduceSub]
          | false =>
           cases p10 : (shapeK y.kind).1.els with
           | true =>
            simp only [amset, amlib, zset, p0, p1, p2, p4, p5, p6, p7, p8, p9, p10, encSh, eq_self, ↓reduceIte, reduceCtorEq, Nat.reduceBEq, reduceEqDiff, reduceAdd, reduceMul, reduceLeDiff, reduceLT, reduceSub]
            intros
            refine ⟨_, holds103 y.n 0, ?_⟩
            simp only [later]
            simp only [amset, amlib, zset, p0, p1, p2, p4, p5, p6, p7, p8, p9, p10, encSh, eq_self, ↓reduceIte, reduceCtorEq, Nat.reduceBEq, reduceEqDiff, reduceAdd, reduceMul, reduceLeDiff, reduceLT, reduceSub]
            intros
            intros
            refine keyK13 _ _ ?_ ?_
            ·
             simp only [amset, amlib, zset, encSh, eq_self, ↓reduceIte, reduceCtorEq, Nat.reduceBEq, reduceEqDiff, reduceAdd, reduceMul, reduceLeDiff, reduceLT, reduceSub] <;> simp only [stBad, p0, p1, p2, p4, p5, p6, p7, p8, p9, p10, bools, ↓reduceIte]
            ·
             simp only [amset, amlib, zset, encSh, eq_self, ↓reduceIte, reduceCtorEq, Nat.reduceBEq, reduceEqDiff, reduceAdd, reduceMul, reduceLeDiff, reduceLT, reduceSub]
           | false =>
            cases p11 : decide ((y.els.length : Int) > 0) with
            | true =>
             simp only [amset, amlib, zset, p0, p1, p2, p4, p5, p6, p7, p8, p9, p10, p11, encSh, eq_self, ↓reduceIte, reduceCtorEq, Nat.reduceBEq, reduceEqDiff, reduceAdd, reduceMul, reduceLeDiff, reduceLT, reduceSub]
             intros
             refine ⟨_, holds103 y.n 0, ?_⟩
             simp only [later]
             simp only [amset, amlib, zset, p0, p1, p2, p4, p5, p6, p7, p8, p9, p10, p11, encSh, eq_self, ↓reduceIte, reduceCtorEq, Nat.reduceBEq, reduceEqDiff, reduceAdd, reduceMul, reduceLeDiff, reduceLT, reduceSub]
             intros
             intros
             refine keyK13 _ _ ?_ ?_
             ·
              simp only [amset, amlib, zset, encSh, eq_self, ↓reduceIte, reduceCtorEq, Nat.reduceBEq, reduceEqDiff, reduceAdd, reduceMul, reduceLeDiff, reduceLT, reduceSub] <;> simp only [stBad, p0, p1, p2, p4, p5, p6, p7, p8, p9, p10, p11, bools, ↓reduceIte]
             ·
              simp only [amset, amlib, zset, encSh, eq_self, ↓reduceIte, reduceCtorEq, Nat.reduceBEq, reduceEqDiff, reduceAdd, reduceMul, reduceLeDiff, reduceLT, reduceSub]
            | false =>
             simp only [amset, amlib, zset, p0, p1, p2, p4, p5, p6, p7, p8, p9, p10, p11, encSh, eq_self, ↓reduceIte, reduceCtorEq, Nat.reduceBEq, reduceEqDiff, reduceAdd, reduceMul, reduceLeDiff, reduceLT, reduceSub]
             intros
             refine ⟨_, holds103 y.n 0, ?_⟩
             simp only [later]
             simp only [amset, amlib, zset, p0, p1, p2, p4, p5, p6, p7, p8, p9, p10, p11, encSh, eq_self, ↓reduceIte, reduceCtorEq, Nat.reduceBEq, reduceEqDiff, reduceAdd, reduceMul, reduceLeDiff, reduceLT, reduceSub]
             intros
             intros
             refine keyK13 _ _ ?_ ?_
             ·
              simp only [amset, amlib, zset, encSh, eq_self, ↓reduceIte, reduceCtorEq, Nat.reduceBEq, reduceEqDiff, reduceAdd, reduceMul, reduceLeDiff, reduceLT, reduceSub] <;> simp only [stBad, p0, p1, p2, p4, p5, p6, p7, p8, p9, p10, p11, bools, ↓reduceIte]
             ·
              simp only [amset, amlib, zset, encSh, eq_self, ↓reduceIte, reduceCtorEq, Nat.reduceBEq, reduceEqDiff, reduceAdd, reduceMul, reduceLeDiff, reduceLT, reduceSub]
  | false =>
   simp only [amset, amlib, zset, p0, encSh, eq_self, ↓reduceIte, reduceCtorEq, Nat.reduceBEq, reduceEqDiff, reduceAdd, reduceMul, reduceLeDiff, reduceLT, reduceSub]
   intros
   intros
   intros
   refine keyK13 _ _ ?_ ?_
   ·
    simp only [amset, amlib, zset, encSh, eq_self, ↓reduceIte, reduceCtorEq, Nat.reduceBEq, reduceEqDiff, reduceAdd, reduceMul, reduceLeDiff, reduceLT, reduceSub] <;> simp only [stBad, p0, bools, ↓reduceIte]
   ·
    simp only [amset, amlib, zset, encSh, eq_self, ↓reduceIte, reduceCtorEq, Nat.reduceBEq, reduceEqDiff, reduceAdd, reduceMul, reduceLeDiff, reduceLT, reduceSub]
theorem holds69 (l : List St) : Holds Tryz.prog zG 69 [.c (.sl 7 (encSs l))] [.c (.bool (stsOK l))] := step69 l fun m hm => holds69 m
  termination_by SizeOf.sizeOf l
  decreasing_by exact hm
end Go.Proofs.Am
set_option maxRecDepth 100000
set_option maxHeartbeats 4000000
namespace Go.Proofs.Am
open Go.RowKit
theorem prog99 : Tryz.prog.funcs[99]? = some Tryz.f99 := by kernel_rfl
end Go.Proofs.Am
set_option maxRecDepth 100000
set_option maxHeartbeats 4000000
namespace Go.Proofs.Am
open Nat (reduceEqDiff reduceAdd reduceMul reduceLeDiff reduceLT reduceSub)
def stTab : List (Bool × Bool × Bool × Bool × Int) := [(false, false, false, false, 0), (true, false, false, false, 1), (true, false, false, false, 1), (true, false, false, false, 2), (false, false, true, true, 1), (false, true, true, false, 0), (false, false, true, false, 1), (true, false, false, false, 1), (false, false, false, false, 1), (true, false, false, false, 1), (false, true, true, false, 0), (false, true, true, false, 0), (false, false, false, false, 0), (false, false, false, false, 0)]
def stR (k : Int) : Bool × Bool × Bool × Bool × Int := stTab.getD k.toNat (false, false, false, false, 0)
def sN (k : Int) : Bool := (stR k).1
def sI (k : Int) : Bool := (stR k).2.1
def sB (k : Int) : Bool := (stR k).2.2.1
def sA (k : Int) : Bool := (stR k).2.2.2.1
def sC (k : Int) : Int := (stR k).2.2.2.2
theorem st_at (k : Int) (h : 1 ≤ k ∧ k ≤ 13) : gStatements.drop (k.toNat * 5) = .bool (sN k) :: .bool (sI k) :: .bool (sB k) :: .bool (sA k) :: .int .i64 (sC k) :: gStatements.drop (k.toNat * 5 + 5) := by
 have : k = 1 ∨ k = 2 ∨ k = 3 ∨ k = 4 ∨ k = 5 ∨ k = 6 ∨ k = 7 ∨ k = 8 ∨ k = 9 ∨ k = 10 ∨ k = 11 ∨ k = 12 ∨ k = 13 := by omega
 rcases this with rfl | rfl | rfl | rfl | rfl | rfl | rfl | rfl | rfl | rfl | rfl | rfl | rfl <;> rfl
def nmA (x : St) : Bool := (sN x.kind && ident x.name) || (!sN x.kind && (x.name == []))
def nuA (x : St) : Bool := (sI x.kind && numA x.n) || (!sI x.kind && (x.n == 0))
def lsA (x : St) : Bool := (sB x.kind || ((x.body.length : Int) == 0)) && (sA x.kind || ((x.els.length : Int) == 0))
def bdA (x : St) : Bool := decide (x.kind < 1) || decide (x.kind > 13) || !nmA x || !nuA x || !lsA x || ((x.args.length : Int) != sC x.kind) || x.args.any (fun y => !wfA y)
mutual
def wfS : St → Bool
 | .mk k n v a b e p => !bdA (.mk k n v a b e p) && wfSs b && wfSs e
def wfSs : List St → Bool
 | [] => true
 | x :: r => wfS x && wfSs r
end
theorem wfS_not (x : St) : (!wfS x) = (bdA x || !wfSs x.body || !wfSs x.els) := by
 cases x
 rw [wfS, Bool.not_and, Bool.not_and, Bool.not_not]
 rfl
theorem wfSs_any (l : List St) : (!(l.any fun y => !wfS y)) = wfSs l := by
 induction l with
 | nil => rfl
 | cons y r ih => rw [List.any_cons, Bool.not_or, ih, wfSs, Bool.not_not]
theorem prog209 : Tryz.prog.funcs[209]? = some Tryz.f209 := by kernel_rfl
theorem holds209 (x : Ex) : Holds Tryz.prog zG 209 [.agg [.int .i64 x.kind, .str x.name, .int .i16 x.value, .int .i64 x.op, .sl 6 (encEs x.args), .int .i64 x.pos]] [.c (.bool (!wfA x))] := by
 refine holds_of_body zT prog209 rfl rfl rfl (by simp [Tryz.f209]) ?_
 refine aw_ops zT fun K1 hK1 => ?_
 refine sg ?_
 refine hK1 _ ?_
 clear hK1
 refine aw_ops zT fun K2 hK2 => ?_
 refine sg ?_
 refine ⟨_, holds93 x, ?_⟩
 refine sgl ?_
 refine hK2 _ ?_
 clear hK2
 refine aw_ret ?_
 show resOf zG _ [.tmp 2] = some _
 simp only [amset, amlib, zset, eq_self, ↓reduceIte, reduceCtorEq, Nat.reduceBEq, reduceEqDiff, reduceAdd, reduceMul, reduceLeDiff, reduceLT, reduceSub]
theorem prog208 : Tryz.prog.funcs[208]? = some Tryz.f208 := by kernel_rfl
theorem step208 (x : St) (ih : Holds Tryz.prog zG 174 [.c (.sl 7 (encSs x.body))] [.c (.bool (wfSs x.body))]) (ihe : Holds Tryz.prog zG 174 [.c (.sl 7 (encSs x.els))] [.c (.bool (wfSs x.els))]) : Holds Tryz.prog zG 208 [.agg [.int .i64 x.kind, .str x.name, .int .i64 x.n, .sl 6 (encEs x.args), .sl 7 (encSs x.body), .sl 7 (encSs x.els), .int .i64 x.pos]] [.c (.bool (!wfS x))] := by
 refine holds_of_body zT prog208 rfl rfl rfl (by simp [Tryz.f208]) ?_
 refine aw_ops zT fun K1 hK1 => ?_
 refine sg ?_
 refine hK1 _ ?_
 clear hK1
 refine aw_seq fun K2 hK2 => ?_
 refine aw_ops zT fun K3 hK3 => ?_
 cases k0 : decide (x.kind < 1) with
 | true =>
  simp only [amset, amlib, zset, k0, eq_self, ↓reduceIte, reduceCtorEq, Nat.reduceBEq, reduceEqDiff, reduceAdd, reduceMul, reduceLeDiff, reduceLT, reduceSub]
  refine hK3 _ ?_
  clear hK3
  refine aw_cond (t := true) rfl (fun _ => ?_) (fun h => nomatch h)
  refine aw_ops zT fun K4 hK4 => ?_
  refine sg ?_
  refine hK4 _ ?_
  clear hK4
  refine aw_ret ?_
  show resOf zG _ [.tmp 2] = some _
  simp only [amset, amlib, zset, eq_self, ↓reduceIte, reduceCtorEq, Nat.reduceBEq, reduceEqDiff, reduceAdd, reduceMul, reduceLeDiff, reduceLT, reduceSub]
  rw [wfS_not]
  simp only [bdA, k0, bools, ↓reduceIte]
 | false =>
  cases k1 : decide (x.kind > 13) with
  | true =>
   simp only [amset, amlib, zset, k0, k1, eq_self, ↓reduceIte, reduceCtorEq, Nat.reduceBEq, reduceEqDiff, reduceAdd, reduceMul, reduceLeDiff, reduceLT, reduceSub]
   refine hK3 _ ?_
   clear hK3
   refine aw_cond (t := true) rfl (fun _ => ?_) (fun h => nomatch h)
   refine aw_ops zT fun K5 hK5 => ?_
   refine sg ?_
   refine hK5 _ ?_
   clear hK5
   refine aw_ret ?_
   show resOf zG _ [.tmp 2] = some _
   simp only [amset, amlib, zset, eq_self, ↓reduceIte, reduceCtorEq, Nat.reduceBEq, reduceEqDiff, reduceAdd, reduceMul, reduceLeDiff, reduceLT, reduceSub]
   rw [wfS_not]
   simp only [bdA, k0, k1, bools, ↓reduceIte]
  | false =>
   simp only [amset, amlib, zset, k0, k1, eq_self, ↓reduceIte, reduceCtorEq, Nat.reduceBEq, reduceEqDiff, reduceAdd, reduceMul, reduceLeDiff, reduceLT, reduceSub]
   refine hK3 _ ?_
   clear hK3
   refine aw_cond (t := false) rfl (fun h => nomatch h) (fun _ => ?_)
   refine aw_skip ?_
   simp only [thenQ, blkQ, if_true, reduceIte, Nat.reduceEqDiff, eq_self]
   refine hK2 _ ?_
   clear hK2
   have hst := st_at x.kind (by simp at k0 k1; omega)
   refine aw_ops zT fun K6 hK6 => ?_
   simp only [amset, amlib, zset, hst, eq_self, ↓reduceIte, reduceCtorEq, Nat.reduceBEq, reduceEqDiff, reduceAdd, reduceMul, reduceLeDiff, reduceLT, reduceSub]
   refine ⟨⟨by simp at k0; omega, by simp at k1; omega⟩, ?_⟩
   refine hK6 _ ?_
   clear hK6
   refine aw_ops zT fun K7 hK7 => ?_
   have keyK7 : ∀ E B, envIn E ([(1, .ptr 1 0), (3, .ptr 3 0), (4, .cell (.c (.bool (nmA x))))] : List (Nat × V)) → envIn B ([(1, (encS x).map .c), (3, [.c (.bool (sN x.kind)), .c (.bool (sI x.kind)), .c (.bool (sB x.kind)), .c (.bool (sA x.kind)), .c (.int .i64 (sC x.kind))])] : List (Nat × List Cell)) → K7 ⟨E, B⟩ := by
    intro E B he hb
    refine hK7 _ (aw_to ⟨[(1, .ptr 1 0), (3, .ptr 3 0), (4, .cell (.c (.bool (nmA x))))], [(1, (encS x).map .c), (3, [.c (.bool (sN x.kind)), .c (.bool (sI x.kind)), .c (.bool (sB x.kind)), .c (.bool (sA x.kind)), .c (.int .i64 (sC x.kind))])]⟩ he hb ?_)
    refine aw_ops zT fun K8 hK8 => ?_
    have keyK8 : ∀ E B, envIn E ([(1, .ptr 1 0), (3, .ptr 3 0), (4, .cell (.c (.bool (nmA x)))), (5, .cell (.c (.bool (nuA x))))] : List (Nat × V)) → envIn B ([(1, (encS x).map .c), (3, [.c (.bool (sN x.kind)), .c (.bool (sI x.kind)), .c (.bool (sB x.kind)), .c (.bool (sA x.kind)), .c (.int .i64 (sC x.kind))])] : List (Nat × List Cell)) → K8 ⟨E, B⟩ := by
     intro E B he hb
     refine hK8 _ (aw_to ⟨[(1, .ptr 1 0), (3, .ptr 3 0), (4, .cell (.c (.bool (nmA x)))), (5, .cell (.c (.bool (nuA x))))], [(1, (encS x).map .c), (3, [.c (.bool (sN x.kind)), .c (.bool (sI x.kind)), .c (.bool (sB x.kind)), .c (.bool (sA x.kind)), .c (.int .i64 (sC x.kind))])]⟩ he hb ?_)
     refine aw_ops zT fun K9 hK9 => ?_
     have keyK9 : ∀ E B, envIn E ([(1, .ptr 1 0), (3, .ptr 3 0), (4, .cell (.c (.bool (nmA x)))), (5, .cell (.c (.bool (nuA x)))), (6, .cell (.c (.bool (lsA x))))] : List (Nat × V)) → envIn B ([(1, (encS x).map .c), (3, [.c (.bool (sN x.kind)), .c (.bool (sI x.kind)), .c (.bool (sB x.kind)), .c (.bool (sA x.kind)), .c (.int .i64 (sC x.kind))])] : List (Nat × List Cell)) → K9 ⟨E, B⟩ := by
      intro E B he hb
      refine hK9 _ (aw_to ⟨[(1, .ptr 1 0), (3, .ptr 3 0), (4, .cell (.c (.bool (nmA x)))), (5, .cell (.c (.bool (nuA x)))), (6, .cell (.c (.bool (lsA x))))], [(1, (encS x).map .c), (3, [.c (.bool (sN x.kind)), .c (.bool (sI x.kind)), .c (.bool (sB x.kind)), .c (.bool (sA x.kind)), .c (.int .i64 (sC x.kind))])]⟩ he hb ?_)
      refine aw_ops zT fun K10 hK10 => ?_
      cases u0 : (!nmA x) with
      | true =>
       simp only [amset, amlib, zset, k0, k1, u0, eq_self, ↓reduceIte, reduceCtorEq, Nat.reduceBEq, reduceEqDiff, reduceAdd, reduceMul, reduceLeDiff, reduceLT, reduceSub]
       refine hK10 _ ?_
       clear hK10
       refine aw_ret ?_
       show resOf zG _ [.tmp 2] = some _
       simp only [amset, amlib, zset, eq_self, ↓reduceIte, reduceCtorEq, Nat.reduceBEq, reduceEqDiff, reduceAdd, reduceMul, reduceLeDiff, reduceLT, reduceSub]
       rw [wfS_not]
       simp only [bdA, k0, k1, u0, bools, ↓reduceIte]
      | false =>
       cases u1 : (!nuA x) with
       | true =>
        simp only [amset, amlib, zset, k0, k1, u0, u1, eq_self, ↓reduceIte, reduceCtorEq, Nat.reduceBEq, reduceEqDiff, reduceAdd, reduceMul, reduceLeDiff, reduceLT, reduceSub]
        refine hK10 _ ?_
        clear hK10
        refine aw_ret ?_
        show resOf zG _ [.tmp 2] = some _
        simp only [amset, amlib, zset, eq_self, ↓reduceIte, reduceCtorEq, Nat.reduceBEq, reduceEqDiff, reduceAdd, reduceMul, reduceLeDiff, reduceLT, reduceSub]
        rw [wfS_not]
        simp only [bdA, k0, k1, u0, u1, bools, ↓reduceIte]
       | false =>
        cases u2 : (!lsA x) with
        | true =>
         simp only [amset, amlib, zset, k0, k1, u0, u1, u2, eq_self, ↓reduceIte, reduceCtorEq, Nat.reduceBEq, reduceEqDiff, reduceAdd, reduceMul, reduceLeDiff, reduceLT, reduceSub]
         refine hK10 _ ?_
         clear hK10
         refine aw_ret ?_
         show resOf zG _ [.tmp 2] = some _
         simp only [amset, amlib, zset, eq_self, ↓reduceIte, reduceCtorEq, Nat.reduceBEq, reduceEqDiff, reduceAdd, reduceMul, reduceLeDiff, reduceLT, reduceSub]
         rw [wfS_not]
         simp only [bdA, k0, k1, u0, u1, u2, bools, ↓reduceIte]
        | false =>
         cases u3 : ((x.args.length : Int) != sC x.kind) with
         | true =>
          simp only [amset, amlib, zset, k0, k1, u0, u1, u2, u3, eq_self, ↓reduceIte, reduceCtorEq, Nat.reduceBEq, reduceEqDiff, reduceAdd, reduceMul, reduceLeDiff, reduceLT, reduceSub]
          intros
          refine hK10 _ ?_
          clear hK10
          refine aw_ret ?_
          show resOf zG _ [.tmp 2] = some _
          simp only [amset, amlib, zset, eq_self, ↓reduceIte, reduceCtorEq, Nat.reduceBEq, reduceEqDiff, reduceAdd, reduceMul, reduceLeDiff, reduceLT, reduceSub]
          rw [wfS_not]
          simp only [bdA, k0, k1, u0, u1, u2, u3, bools, ↓reduceIte]
         | false =>
          cases u4 : (x.args.any fun y => !wfA y) with
          | true =>
           simp only [amset, amlib, zset, k0, k1, u0, u1, u2, u3, u4, eq_self, ↓reduceIte, reduceCtorEq, Nat.reduceBEq, reduceEqDiff, reduceAdd, reduceMul, reduceLeDiff, reduceLT, reduceSub]
           intros
           refine ⟨_, holds79 209 (fun y => !wfA y) x.args (fun y _ => holds209 y), ?_⟩
           simp only [later]
           simp only [amset, amlib, zset, k0, k1, u0, u1, u2, u3, u4, eq_self, ↓reduceIte, reduceCtorEq, Nat.reduceBEq, reduceEqDiff, reduceAdd, reduceMul, reduceLeDiff, reduceLT, reduceSub]
           refine hK10 _ ?_
           clear hK10
           refine aw_ret ?_
           show resOf zG _ [.tmp 2] = some _
           simp only [amset, amlib, zset, eq_self, ↓reduceIte, reduceCtorEq, Nat.reduceBEq, reduceEqDiff, reduceAdd, reduceMul, reduceLeDiff, reduceLT, reduceSub]
           rw [wfS_not]
           simp only [bdA, k0, k1, u0, u1, u2, u3, u4, bools, ↓reduceIte]
          | false =>
           cases u5 : (!wfSs x.body) with
           | true =>
            simp only [amset, amlib, zset, k0, k1, u0, u1, u2, u3, u4, u5, eq_self, ↓reduceIte, reduceCtorEq, Nat.reduceBEq, reduceEqDiff, reduceAdd, reduceMul, reduceLeDiff, reduceLT, reduceSub]
            intros
            refine ⟨_, holds79 209 (fun y => !wfA y) x.args (fun y _ => holds209 y), ?_⟩
            simp only [later]
            simp only [amset, amlib, zset, k0, k1, u0, u1, u2, u3, u4, u5, eq_self, ↓reduceIte, reduceCtorEq, Nat.reduceBEq, reduceEqDiff, reduceAdd, reduceMul, reduceLeDiff, reduceLT, reduceSub]
            refine ⟨_, ih, ?_⟩
            simp only [later]
            simp only [amset, amlib, zset, k0, k1, u0, u1, u2, u3, u4, u5, eq_self, ↓reduceIte, reduceCtorEq, Nat.reduceBEq, reduceEqDiff, reduceAdd, reduceMul, reduceLeDiff, reduceLT, reduceSub]
            refine hK10 _ ?_
            clear hK10
            refine aw_ret ?_
            show resOf zG _ [.tmp 2] = some _
            simp only [amset, amlib, zset, eq_self, ↓reduceIte, reduceCtorEq, Nat.reduceBEq, reduceEqDiff, reduceAdd, reduceMul, reduceLeDiff, reduceLT, reduceSub]
            rw [wfS_not]
            simp only [bdA, k0, k1, u0, u1, u2, u3, u4, u5, bools, ↓reduceIte]
           | false =>
            cases u6 : (!wfSs x.els) with
            | true =>
             simp only [amset, amlib, zset, k0, k1, u0, u1, u2, u3, u4, u5, u6, eq_self, ↓reduceIte, reduceCtorEq, Nat.reduceBEq, reduceEqDiff, reduceAdd, reduceMul, reduceLeDiff, reduceLT, reduceSub]
             intros
             refine ⟨_, holds79 209 (fun y => !wfA y) x.args (fun y _ => holds209 y), ?_⟩
             simp only [later]
             simp only [amset, amlib, zset, k0, k1, u0, u1, u2, u3, u4, u5, u6, eq_self, ↓reduceIte, reduceCtorEq, Nat.reduceBEq, reduceEqDiff, reduceAdd, reduceMul, reduceLeDiff, reduceLT, reduceSub]
             refine ⟨_, ih, ?_⟩
             simp only [later]
             simp only [amset, amlib, zset, k0, k1, u0, u1, u2, u3, u4, u5, u6, eq_self, ↓reduceIte, reduceCtorEq, Nat.reduceBEq, reduceEqDiff, reduceAdd, reduceMul, reduceLeDiff, reduceLT, reduceSub]
             refine ⟨_, ihe, ?_⟩
             simp only [later]
             simp only [amset, amlib, zset, k0, k1, u0, u1, u2, u3, u4, u5, u6, eq_self, ↓reduceIte, reduceCtorEq, Nat.reduceBEq, reduceEqDiff, reduceAdd, reduceMul, reduceLeDiff, reduceLT, reduceSub]
             refine hK10 _ ?_
             clear hK10
             refine aw_ret ?_
             show resOf zG _ [.tmp 2] = some _
             simp only [amset, amlib, zset, eq_self, ↓reduceIte, reduceCtorEq, Nat.reduceBEq, reduceEqDiff, reduceAdd, reduceMul, reduceLeDiff, reduceLT, reduceSub]
             rw [wfS_not]
             simp only [bdA, k0, k1, u0, u1, u2, u3, u4, u5, u6, bools, ↓reduceIte]
            | false =>
             simp only [amset, amlib, zset, k0, k1, u0, u1, u2, u3, u4, u5, u6, eq_self, ↓reduceIte, reduceCtorEq, Nat.reduceBEq, reduceEqDiff, reduceAdd, reduceMul, reduceLeDiff, reduceLT, reduceSub]
             intros
             refine ⟨_, holds79 209 (fun y => !wfA y) x.args (fun y _ => holds209 y), ?_⟩
             simp only [later]
             simp only [amset, amlib, zset, k0, k1, u0, u1, u2, u3, u4, u5, u6, eq_self, ↓reduceIte, reduceCtorEq, Nat.reduceBEq, reduceEqDiff, reduceAdd, reduceMul, reduceLeDiff, reduceLT, reduceSub]
             refine ⟨_, ih, ?_⟩
             simp only [later]
             simp only [amset, amlib, zset, k0, k1, u0, u1, u2, u3, u4, u5, u6, eq_self, ↓reduceIte, reduceCtorEq, Nat.reduceBEq, reduceEqDiff, reduceAdd, reduceMul, reduceLeDiff, reduceLT, reduceSub]
             refine ⟨_, ihe, ?_⟩
             simp only [later]
             simp only [amset, amlib, zset, k0, k1, u0, u1, u2, u3, u4, u5, u6, eq_self, ↓reduceIte, reduceCtorEq, Nat.reduceBEq, reduceEqDiff, reduceAdd, reduceMul, reduceLeDiff, reduceLT, reduceSub]
             refine hK10 _ ?_
             clear hK10
             refine aw_ret ?_
             show resOf zG _ [.tmp 2] = some _
             simp only [amset, amlib, zset, eq_self, ↓reduceIte, reduceCtorEq, Nat.reduceBEq, reduceEqDiff, reduceAdd, reduceMul, reduceLeDiff, reduceLT, reduceSub]
             rw [wfS_not]
             simp only [bdA, k0, k1, u0, u1, u2, u3, u4, u5, u6, bools, ↓reduceIte]
     cases c0 : sB x.kind with
     | true =>
      cases c2 : sA x.kind with
      | true =>
       simp only [amset, amlib, zset, k0, k1, c0, c2, eq_self, ↓reduceIte, reduceCtorEq, Nat.reduceBEq, reduceEqDiff, reduceAdd, reduceMul, reduceLeDiff, reduceLT, reduceSub]
       refine keyK9 _ _ ?_ ?_
       ·
        simp only [amset, amlib, zset, eq_self, ↓reduceIte, reduceCtorEq, Nat.reduceBEq, reduceEqDiff, reduceAdd, reduceMul, reduceLeDiff, reduceLT, reduceSub] <;> simp only [lsA, k0, k1, c0, c2, bools, ↓reduceIte]
       ·
        simp only [amset, amlib, zset, eq_self, ↓reduceIte, reduceCtorEq, Nat.reduceBEq, reduceEqDiff, reduceAdd, reduceMul, reduceLeDiff, reduceLT, reduceSub] <;> simp only [k0, k1, c0, c2]
      | false =>
       simp only [amset, amlib, zset, k0, k1, c0, c2, eq_self, ↓reduceIte, reduceCtorEq, Nat.reduceBEq, reduceEqDiff, reduceAdd, reduceMul, reduceLeDiff, reduceLT, reduceSub]
       intros
       refine keyK9 _ _ ?_ ?_
       ·
        simp only [amset, amlib, zset, eq_self, ↓reduceIte, reduceCtorEq, Nat.reduceBEq, reduceEqDiff, reduceAdd, reduceMul, reduceLeDiff, reduceLT, reduceSub] <;> simp only [lsA, k0, k1, c0, c2, bools, ↓reduceIte]
       ·
        simp only [amset, amlib, zset, eq_self, ↓reduceIte, reduceCtorEq, Nat.reduceBEq, reduceEqDiff, reduceAdd, reduceMul, reduceLeDiff, reduceLT, reduceSub] <;> simp only [k0, k1, c0, c2]
     | false =>
      cases c1 : ((x.body.length : Int) == 0) with
      | true =>
       cases c2 : sA x.kind with
       | true =>
        simp only [amset, amlib, zset, k0, k1, c0, c1, c2, eq_self, ↓reduceIte, reduceCtorEq, Nat.reduceBEq, reduceEqDiff, reduceAdd, reduceMul, reduceLeDiff, reduceLT, reduceSub]
        intros
        refine keyK9 _ _ ?_ ?_
        ·
         simp only [amset, amlib, zset, eq_self, ↓reduceIte, reduceCtorEq, Nat.reduceBEq, reduceEqDiff, reduceAdd, reduceMul, reduceLeDiff, reduceLT, reduceSub] <;> simp only [lsA, k0, k1, c0, c1, c2, bools, ↓reduceIte]
        ·
         simp only [amset, amlib, zset, eq_self, ↓reduceIte, reduceCtorEq, Nat.reduceBEq, reduceEqDiff, reduceAdd, reduceMul, reduceLeDiff, reduceLT, reduceSub] <;> simp only [k0, k1, c0, c1, c2]
       | false =>
        simp only [amset, amlib, zset, k0, k1, c0, c1, c2, eq_self, ↓reduceIte, reduceCtorEq, Nat.reduceBEq, reduceEqDiff, reduceAdd, reduceMul, reduceLeDiff, reduceLT, reduceSub]
        intros
        intros
        refine keyK9 _ _ ?_ ?_
        ·
         simp only [amset, amlib, zset, eq_self, ↓reduceIte, reduceCtorEq, Nat.reduceBEq, reduceEqDiff, reduceAdd, reduceMul, reduceLeDiff, reduceLT, reduceSub] <;> simp only [lsA, k0, k1, c0, c1, c2, bools, ↓reduceIte]
        ·
         simp only [amset, amlib, zset, eq_self, ↓reduceIte, reduceCtorEq, Nat.reduceBEq, reduceEqDiff, reduceAdd, reduceMul, reduceLeDiff, reduceLT, reduceSub] <;> simp only [k0, k1, c0, c1, c2]
      | false =>
       simp only [amset, amlib, zset, k0, k1, c0, c1, eq_self, ↓reduceIte, reduceCtorEq, Nat.reduceBEq, reduceEqDiff, reduceAdd, reduceMul, reduceLeDiff, reduceLT, reduceSub]
       intros
       refine keyK9 _ _ ?_ ?_
       ·
        simp only [amset, amlib, zset, eq_self, ↓reduceIte, reduceCtorEq, Nat.reduceBEq, reduceEqDiff, reduceAdd, reduceMul, reduceLeDiff, reduceLT, reduceSub] <;> simp only [lsA, k0, k1, c0, c1, bools, ↓reduceIte]
       ·
        simp only [amset, amlib, zset, eq_self, ↓reduceIte, reduceCtorEq, Nat.reduceBEq, reduceEqDiff, reduceAdd, reduceMul, reduceLeDiff, reduceLT, reduceSub] <;> simp only [k0, k1, c0, c1]
    cases b0 : sI x.kind with
    | true =>
     cases b1 : numA x.n with
     | true =>
      simp only [amset, amlib, zset, k0, k1, b0, b1, eq_self, ↓reduceIte, reduceCtorEq, Nat.reduceBEq, reduceEqDiff, reduceAdd, reduceMul, reduceLeDiff, reduceLT, reduceSub]
      refine ⟨_, holds98 x.n, ?_⟩
      simp only [later]
      simp only [amset, amlib, zset, k0, k1, b0, b1, eq_self, ↓reduceIte, reduceCtorEq, Nat.reduceBEq, reduceEqDiff, reduceAdd, reduceMul, reduceLeDiff, reduceLT, reduceSub]
      refine keyK8 _ _ ?_ ?_
      ·
       simp only [amset, amlib, zset, eq_self, ↓reduceIte, reduceCtorEq, Nat.reduceBEq, reduceEqDiff, reduceAdd, reduceMul, reduceLeDiff, reduceLT, reduceSub] <;> simp only [nuA, k0, k1, b0, b1, bools, ↓reduceIte]
      ·
       simp only [amset, amlib, zset, eq_self, ↓reduceIte, reduceCtorEq, Nat.reduceBEq, reduceEqDiff, reduceAdd, reduceMul, reduceLeDiff, reduceLT, reduceSub] <;> simp only [k0, k1, b0, b1]
     | false =>
      simp only [amset, amlib, zset, k0, k1, b0, b1, eq_self, ↓reduceIte, reduceCtorEq, Nat.reduceBEq, reduceEqDiff, reduceAdd, reduceMul, reduceLeDiff, reduceLT, reduceSub]
      refine ⟨_, holds98 x.n, ?_⟩
      simp only [later]
      simp only [amset, amlib, zset, k0, k1, b0, b1, eq_self, ↓reduceIte, reduceCtorEq, Nat.reduceBEq, reduceEqDiff, reduceAdd, reduceMul, reduceLeDiff, reduceLT, reduceSub]
      refine keyK8 _ _ ?_ ?_
      ·
       simp only [amset, amlib, zset, eq_self, ↓reduceIte, reduceCtorEq, Nat.reduceBEq, reduceEqDiff, reduceAdd, reduceMul, reduceLeDiff, reduceLT, reduceSub] <;> simp only [nuA, k0, k1, b0, b1, bools, ↓reduceIte]
      ·
       simp only [amset, amlib, zset, eq_self, ↓reduceIte, reduceCtorEq, Nat.reduceBEq, reduceEqDiff, reduceAdd, reduceMul, reduceLeDiff, reduceLT, reduceSub] <;> simp only [k0, k1, b0, b1]
    | false =>
     simp only [amset, amlib, zset, k0, k1, b0, eq_self, ↓reduceIte, reduceCtorEq, Nat.reduceBEq, reduceEqDiff, reduceAdd, reduceMul, reduceLeDiff, reduceLT, reduceSub]
     refine keyK8 _ _ ?_ ?_
     ·
      simp only [amset, amlib, zset, eq_self, ↓reduceIte, reduceCtorEq, Nat.reduceBEq, reduceEqDiff, reduceAdd, reduceMul, reduceLeDiff, reduceLT, reduceSub] <;> simp only [nuA, k0, k1, b0, bools, ↓reduceIte]
     ·
      simp only [amset, amlib, zset, eq_self, ↓reduceIte, reduceCtorEq, Nat.reduceBEq, reduceEqDiff, reduceAdd, reduceMul, reduceLeDiff, reduceLT, reduceSub] <;> simp only [k0, k1, b0]
   cases a0 : sN x.kind with
   | true =>
    cases a1 : ident x.name with
    | true =>
     simp only [amset, amlib, zset, k0, k1, a0, a1, eq_self, ↓reduceIte, reduceCtorEq, Nat.reduceBEq, reduceEqDiff, reduceAdd, reduceMul, reduceLeDiff, reduceLT, reduceSub]
     refine ⟨_, holds96 x.name, ?_⟩
     simp only [later]
     simp only [amset, amlib, zset, k0, k1, a0, a1, eq_self, ↓reduceIte, reduceCtorEq, Nat.reduceBEq, reduceEqDiff, reduceAdd, reduceMul, reduceLeDiff, reduceLT, reduceSub]
     refine keyK7 _ _ ?_ ?_
     ·
      simp only [amset, amlib, zset, eq_self, ↓reduceIte, reduceCtorEq, Nat.reduceBEq, reduceEqDiff, reduceAdd, reduceMul, reduceLeDiff, reduceLT, reduceSub] <;> simp only [nmA, k0, k1, a0, a1, bools, ↓reduceIte]
     ·
      simp only [amset, amlib, zset, eq_self, ↓reduceIte, reduceCtorEq, Nat.reduceBEq, reduceEqDiff, reduceAdd, reduceMul, reduceLeDiff, reduceLT, reduceSub] <;> simp only [k0, k1, a0, a1]
    | false =>
     simp only [amset, amlib, zset, k0, k1, a0, a1, eq_self, ↓reduceIte, reduceCtorEq, Nat.reduceBEq, reduceEqDiff, reduceAdd, reduceMul, reduceLeDiff, reduceLT, reduceSub]
     refine ⟨_, holds96 x.name, ?_⟩
     simp only [later]
     simp only [amset, amlib, zset, k0, k1, a0, a1, eq_self, ↓reduceIte, reduceCtorEq, Nat.reduceBEq, reduceEqDiff, reduceAdd, reduceMul, reduceLeDiff, reduceLT, reduceSub]
     refine keyK7 _ _ ?_ ?_
     ·
      simp only [amset, amlib, zset, eq_self, ↓reduceIte, reduceCtorEq, Nat.reduceBEq, reduceEqDiff, reduceAdd, reduceMul, reduceLeDiff, reduceLT, reduceSub] <;> simp only [nmA, k0, k1, a0, a1, bools, ↓reduceIte]
     ·
      simp only [amset, amlib, zset, eq_self, ↓reduceIte, reduceCtorEq, Nat.reduceBEq, reduceEqDiff, reduceAdd, reduceMul, reduceLeDiff, reduceLT, reduceSub] <;> simp only [k0, k1, a0, a1]
   | false =>
    simp only [amset, amlib, zset, k0, k1, a0, eq_self, ↓reduceIte, reduceCtorEq, Nat.reduceBEq, reduceEqDiff, reduceAdd, reduceMul, reduceLeDiff, reduceLT, reduceSub]
    refine keyK7 _ _ ?_ ?_
    ·
     simp only [amset, amlib, zset, eq_self, ↓reduceIte, reduceCtorEq, Nat.reduceBEq, reduceEqDiff, reduceAdd, reduceMul, reduceLeDiff, reduceLT, reduceSub] <;> simp only [nmA, k0, k1, a0, bools, ↓reduceIte]
    ·
     simp only [amset, amlib, zset, eq_self, ↓reduceIte, reduceCtorEq, Nat.reduceBEq, reduceEqDiff, reduceAdd, reduceMul, reduceLeDiff, reduceLT, reduceSub] <;> simp only [k0, k1, a0]
theorem prog174 : Tryz.prog.funcs[174]? = some Tryz.f174 := by kernel_rfl
theorem step174 (l : List St) (ih : ∀ y ∈ l, Holds Tryz.prog zG 208 [.agg [.int .i64 y.kind, .str y.name, .int .i64 y.n, .sl 6 (encEs y.args), .sl 7 (encSs y.body), .sl 7 (encSs y.els), .int .i64 y.pos]] [.c (.bool (!wfS y))]) : Holds Tryz.prog zG 174 [.c (.sl 7 (encSs l))] [.c (.bool (wfSs l))] := by
 refine holds_of_body zT prog174 rfl rfl rfl (by simp [Tryz.f174]) ?_
 refine aw_ops zT fun K1 hK1 => ?_
 refine sg ?_
 refine hK1 _ ?_
 clear hK1
 refine aw_ops zT fun K2 hK2 => ?_
 refine sg ?_
 refine ⟨_, holds207 208 (fun y => !wfS y) l ih, ?_⟩
 refine sgl ?_
 refine hK2 _ ?_
 clear hK2
 refine aw_ret ?_
 show resOf zG _ [.tmp 2] = some _
 simp only [amset, amlib, zset, eq_self, ↓reduceIte, reduceCtorEq, Nat.reduceBEq, reduceEqDiff, reduceAdd, reduceMul, reduceLeDiff, reduceLT, reduceSub]
 rw [wfSs_any]
theorem holds174 (l : List St) : Holds Tryz.prog zG 174 [.c (.sl 7 (encSs l))] [.c (.bool (wfSs l))] := step174 l fun y hy => step208 y (holds174 y.body) (holds174 y.els)
  termination_by SizeOf.sizeOf l
  decreasing_by
 ·
  exact sizeOf_body hy
 ·
  exact sizeOf_els hy
end Go.Proofs.Am
set_option maxRecDepth 100000
set_option maxHeartbeats 4000000
namespace Go.Proofs.Am
open Nat (reduceEqDiff reduceAdd reduceMul reduceLeDiff reduceLT reduceSub)
def isElif (l : List St) : Bool := match l with
 | [y] => y.kind == 4
 | _ => false
mutual
def lnA : St → List UInt8 → List UInt8
 | .mk k n v a b e p, i => if sB k then hdA (.mk k n v a b e p) ++ [10] ++ lnsA b (i ++ [32, 32, 32, 32]) ++ (if isElif e then i ++ [125, 32, 101, 108, 115, 101, 32] ++ ln1 e i else if decide ((e.length : Int) > 0) then i ++ [125, 32, 101, 108, 115, 101, 32, 123, 10] ++ lnsA e (i ++ [32, 32, 32, 32]) ++ (i ++ [125, 10]) else i ++ [125, 10])
  else smA (.mk k n v a b e p) ++ [10]
def lnsA : List St → List UInt8 → List UInt8
 | [], _ => []
 | x :: r, i => i ++ lnA x i ++ lnsA r i
def ln1 : List St → List UInt8 → List UInt8
 | [], _ => []
 | x :: _, i => lnA x i
end
theorem lnA_eq (x : St) (i : List UInt8) : lnA x i = if sB x.kind then hdA x ++ [10] ++ lnsA x.body (i ++ [32, 32, 32, 32]) ++ (if isElif x.els then i ++ [125, 32, 101, 108, 115, 101, 32] ++ ln1 x.els i else if decide ((x.els.length : Int) > 0) then i ++ [125, 32, 101, 108, 115, 101, 32, 123, 10] ++ lnsA x.els (i ++ [32, 32, 32, 32]) ++ (i ++ [125, 10]) else i ++ [125, 10]) else smA x ++ [10] := by cases x; rw [lnA]; rfl
theorem lnsA_append (a b : List St) (i : List UInt8) : lnsA (a ++ b) i = lnsA a i ++ lnsA b i := by
 induction a with
 | nil => simp [lnsA]
 | cons x r ih => simp [lnsA, ih]
/-- What is asked of one statement. -/
def okSt (z : St) : Prop := (1 ≤ z.kind ∧ z.kind ≤ 13) ∧ agOK z ∧ (∀ y ∈ z.args, wfA y = true) ∧ wdL z.args ∧ (subL z.args).length ≤ 1000000000000 ∧ (0 ≤ z.n ∧ z.n ≤ 32767)
theorem stm_self {x : St} : x ∈ stmS x := by rw [stmS_eq]; simp
theorem stm_body {x z : St} (h : z ∈ stmL x.body) : z ∈ stmS x := by rw [stmS_eq]; simp [h]
theorem stm_els {x z : St} (h : z ∈ stmL x.els) : z ∈ stmS x := by rw [stmS_eq]; simp [h]
theorem stm_mem {l : List St} {x z : St} (hx : x ∈ l) (h : z ∈ stmS x) : z ∈ stmL l := by
 induction l with
 | nil => cases hx
 | cons y r ih =>
  rw [stmL]
  rcases List.mem_cons.1 hx with rfl | hx
  ·
   simp [h]
  ·
   simp [ih hx]
theorem st_at2 (k : Int) (h : 1 ≤ k ∧ k ≤ 13) : List.drop 2 (List.drop (k.toNat * 5) gStatements) = .bool (sB k) :: .bool (sA k) :: .int .i64 (sC k) :: gStatements.drop (k.toNat * 5 + 5) := by
 rw [st_at k h]; rfl
def hd1 : List St → St
 | [] => .mk 0 [] 0 [] [] [] 0
 | y :: _ => y
theorem elif_if (l : List St) : isElif l = (((l.length : Int) == 1) && ((hd1 l).kind == 4)) := by
 match l with
 | [] => rfl
 | [y] => simp [isElif, hd1]
 | a :: b :: r => simp [isElif]; omega
theorem getD_hd1 {l : List St} (h : ((l.length : Int) == 1) = true) : (encSs l).getD (Int.toNat 0) [] = encS (hd1 l) := by
 match l, h with
 | [y], _ => rfl
theorem ln1_hd1 {l : List St} (h : ((l.length : Int) == 1) = true) (i : List UInt8) : ln1 l i = lnA (hd1 l) i := by
 match l, h with
 | [y], _ => rfl
theorem hd1_mem {l : List St} (h : ((l.length : Int) == 1) = true) : hd1 l ∈ l := by
 match l, h with
 | [y], _ => simp [hd1]
theorem szb (x : St) : SizeOf.sizeOf x.body < SizeOf.sizeOf x := by cases x; simp [St.body]; omega
theorem sze (x : St) : SizeOf.sizeOf x.els < SizeOf.sizeOf x := by cases x; simp [St.els]; omega
theorem prog160 : Tryz.prog.funcs[160]? = some Tryz.f160 := by kernel_rfl
theorem step160 (b : Nat) (l0 : List UInt8) (x : St) (i : List UInt8) (hok : ∀ z ∈ stmS x, okSt z) (hd : i.length + 4 * depS x ≤ 1000000000000) (hi : i ≠ []) (hl : l0.length + (lnA x i).length ≤ 1000000000000) (ih : ∀ (m : List St), SizeOf.sizeOf m < SizeOf.sizeOf x → ∀ l0 i, (∀ z ∈ stmL m, okSt z) → i.length + 4 * depM m ≤ 1000000000000 → i ≠ [] → l0.length + (lnsA m i).length ≤ 1000000000000 → HoldsO Tryz.prog zG 89 [.c (.val (.pointer (some ⟨b, 0, none⟩))), .c (.sl 7 (encSs m)), .c (.str i)] (bldP b l0) (some []) (bldP b (l0 ++ lnsA m i))) (ihs : ∀ y, SizeOf.sizeOf y < SizeOf.sizeOf x → ∀ l0 i, (∀ z ∈ stmS y, okSt z) → i.length + 4 * depS y ≤ 1000000000000 → i ≠ [] → l0.length + (lnA y i).length ≤ 1000000000000 → HoldsO Tryz.prog zG 160 [.c (.val (.pointer (some ⟨b, 0, none⟩))), .agg [.int .i64 y.kind, .str y.name, .int .i64 y.n, .sl 6 (encEs y.args), .sl 7 (encSs y.body), .sl 7 (encSs y.els), .int .i64 y.pos], .c (.str i)] (bldP b l0) (some []) (bldP b (l0 ++ lnA y i))) : HoldsO Tryz.prog zG 160 [.c (.val (.pointer (some ⟨b, 0, none⟩))), .agg [.int .i64 x.kind, .str x.name, .int .i64 x.n, .sl 6 (encEs x.args), .sl 7 (encSs x.body), .sl 7 (encSs x.els), .int .i64 x.pos], .c (.str i)] (bldP b l0) (some []) (bldP b (l0 ++ lnA x i)) := by
 refine holdsO_of_body zT prog160 rfl rfl rfl (by simp [Tryz.f160]) (Stab.bld) (Stab.bld) ?_
 have hx := hok x stm_self
 obtain ⟨hk, hg, ha, hw, hsz, hn⟩ := hx
 have hst := st_at2 x.kind hk
 have hdx := depS_eq x
 rw [hdx] at hd
 rw [lnA_eq] at hl
 refine aw_ops zT fun K1 hK1 => ?_
 refine sg ?_
 refine hK1 _ ?_
 clear hK1
 refine aw_seq fun K2 hK2 => ?_
 refine aw_ops zT fun K3 hK3 => ?_
 simp only [amset, amlib, zset, hst, eq_self, ↓reduceIte, reduceCtorEq, Nat.reduceBEq, reduceEqDiff, reduceAdd, reduceMul, reduceLeDiff, reduceLT, reduceSub]
 refine ⟨⟨by omega, by omega⟩, ?_⟩
 refine hK3 _ ?_
 clear hK3
 refine aw_cond rfl (fun h0 => ?_) (fun h0 => ?_)
 ·
  have hB : sB x.kind = false := by simpa using h0
  simp only [hB, Bool.false_eq_true, ↓reduceIte, List.length_append, List.length_cons, List.length_nil] at hl
  refine aw_ops zT fun K4 hK4 => ?_
  refine sg ?_
  refine ⟨_, holds200 x hg ha hw hsz (by omega), ?_⟩
  refine sgl ?_
  refine ⟨by omega, ?_⟩
  refine ⟨_, _, holds85 _ _ _ (by simp only [List.length_append, List.length_cons, List.length_nil]; omega) (by simp), ?_⟩
  refine sgl ?_
  refine hK4 _ ?_
  clear hK4
  refine aw_ret ?_
  try show resOf zG _ [] = some _ ∧ _ ∧ _
  try simp only [amset, amlib, zset, eq_self, ↓reduceIte, reduceCtorEq, Nat.reduceBEq, reduceEqDiff, reduceAdd, reduceMul, reduceLeDiff, reduceLT, reduceSub]
  rw [lnA_eq x i]
  simp only [hB, elif_if, h0, bools, ↓reduceIte, List.append_assoc, List.cons_append, List.nil_append]
  try exact ⟨rfl, trivial⟩
 ·
  refine aw_skip ?_
  simp only [thenQ, blkQ, if_true, reduceIte, Nat.reduceEqDiff, eq_self]
  refine hK2 _ ?_
  clear hK2
  have hB : sB x.kind = true := by simpa using h0
  simp only [hB, ↓reduceIte, List.length_append, List.length_cons, List.length_nil] at hl
  refine aw_ops zT fun K5 hK5 => ?_
  refine sg ?_
  refine ⟨_, holds201 x hg ha hw hsz hn (by omega), ?_⟩
  refine sgl ?_
  refine ⟨by omega, ?_⟩
  refine ⟨_, _, holds85 _ _ _ (by simp only [List.length_append, List.length_cons, List.length_nil]; omega) (by simp), ?_⟩
  refine sgl ?_
  refine hK5 _ ?_
  clear hK5
  refine aw_ops zT fun K6 hK6 => ?_
  refine sg ?_
  refine ⟨by omega, ?_⟩
  refine ⟨_, _, ih x.body (szb x) _ _ (fun z hz => hok z (stm_body hz)) (by simp only [List.length_append, List.length_cons, List.length_nil]; omega) (by simp) (by simp only [List.length_append, List.length_cons, List.length_nil]; omega), ?_⟩
  refine sgl ?_
  refine hK6 _ ?_
  clear hK6
  refine aw_seq fun K7 hK7 => ?_
  refine aw_block ?_
  refine aw_ops zT fun K8 hK8 => ?_
  cases e0 : ((x.els.length : Int) == 1) with
  | true =>
   cases e1 : ((hd1 x.els).kind == 4) with
   | true =>
    simp only [amset, amlib, zset, e0, e1, h0, getD_hd1, eq_self, ↓reduceIte, reduceCtorEq, Nat.reduceBEq, reduceEqDiff, reduceAdd, reduceMul, reduceLeDiff, reduceLT, reduceSub]
    intros
    refine ⟨⟨by omega, by simp at e0; omega⟩, ?_⟩
    refine hK8 _ ?_
    clear hK8
    refine aw_cond (t := true) rfl (fun _ => ?_) (fun h => nomatch h)
    simp only [elif_if, e0, e1, h0, bools, ↓reduceIte, List.length_append, List.length_cons, List.length_nil] at hl
    rw [ln1_hd1 e0] at hl
    refine aw_ops zT fun K9 hK9 => ?_
    refine sg ?_
    refine ⟨by omega, ?_⟩
    refine ⟨_, _, holds85 _ _ _ (by simp only [List.length_append, List.length_cons, List.length_nil]; omega) (by simp), ?_⟩
    refine sgl ?_
    refine hK9 _ ?_
    clear hK9
    refine aw_ops zT fun K10 hK10 => ?_
    simp only [amset, amlib, zset, e0, e1, h0, getD_hd1, eq_self, ↓reduceIte, reduceCtorEq, Nat.reduceBEq, reduceEqDiff, reduceAdd, reduceMul, reduceLeDiff, reduceLT, reduceSub]
    refine ⟨⟨by omega, by simp at e0; omega⟩, ?_⟩
    refine ⟨_, _, ihs (hd1 x.els) (Nat.lt_trans (List.sizeOf_lt_of_mem (hd1_mem e0)) (sze x)) _ _ (fun z hz => hok z (stm_els (stm_mem (hd1_mem e0) hz))) (by have := depM_mem (hd1_mem e0); omega) hi (by simp only [List.length_append, List.length_cons, List.length_nil]; omega), ?_⟩
    simp only [later]
    simp only [amset, amlib, zset, e0, e1, h0, getD_hd1, eq_self, ↓reduceIte, reduceCtorEq, Nat.reduceBEq, reduceEqDiff, reduceAdd, reduceMul, reduceLeDiff, reduceLT, reduceSub]
    refine hK10 _ ?_
    clear hK10
    refine aw_ret ?_
    try show resOf zG _ [] = some _ ∧ _ ∧ _
    try simp only [amset, amlib, zset, eq_self, ↓reduceIte, reduceCtorEq, Nat.reduceBEq, reduceEqDiff, reduceAdd, reduceMul, reduceLeDiff, reduceLT, reduceSub]
    rw [lnA_eq x i]
    simp only [hB, elif_if, e0, e1, h0, bools, ↓reduceIte, ln1_hd1 e0, List.append_assoc, List.cons_append, List.nil_append]
    try exact ⟨rfl, trivial⟩
   | false =>
    simp only [amset, amlib, zset, e0, e1, h0, getD_hd1, eq_self, ↓reduceIte, reduceCtorEq, Nat.reduceBEq, reduceEqDiff, reduceAdd, reduceMul, reduceLeDiff, reduceLT, reduceSub]
    intros
    refine ⟨⟨by omega, by simp at e0; omega⟩, ?_⟩
    refine hK8 _ ?_
    clear hK8
    refine aw_cond (t := false) rfl (fun h => nomatch h) (fun _ => ?_)
    refine aw_ops zT fun K11 hK11 => ?_
    refine sg ?_
    intros
    refine hK11 _ ?_
    clear hK11
    refine aw_cond rfl (fun h1 => ?_) (fun h1 => ?_)
    ·
     have hcl : isElif x.els = false := by rw [elif_if]; simp only [e0, e1, h0, h1, bools, ↓reduceIte]
     simp only [hcl, h1, ↓reduceIte, Bool.false_eq_true, List.length_append, List.length_cons, List.length_nil] at hl
     refine aw_ops zT fun K12 hK12 => ?_
     refine sg ?_
     refine ⟨by omega, ?_⟩
     refine ⟨_, _, holds85 _ _ _ (by simp only [List.length_append, List.length_cons, List.length_nil]; omega) (by simp), ?_⟩
     refine sgl ?_
     refine hK12 _ ?_
     clear hK12
     refine aw_region zT ?_
     refine sg ?_
     refine ⟨by omega, ?_⟩
     refine ⟨_, _, ih x.els (sze x) _ _ (fun z hz => hok z (stm_els hz)) (by simp only [List.length_append, List.length_cons, List.length_nil]; omega) (by simp) (by simp only [List.length_append, List.length_cons, List.length_nil]; omega), ?_⟩
     refine sgl ?_
     refine hK7 _ ?_
     clear hK7
     have hcl : isElif x.els = false := by rw [elif_if]; simp only [e0, e1, h0, h1, bools, ↓reduceIte]
     try simp only [hcl, h1, ↓reduceIte, Bool.false_eq_true, List.length_append, List.length_cons, List.length_nil] at hl
     refine aw_region zT ?_
     refine sg ?_
     refine ⟨by omega, ?_⟩
     refine ⟨_, _, holds85 _ _ _ (by simp only [List.length_append, List.length_cons, List.length_nil]; omega) (by simp), ?_⟩
     simp only [later]
     simp only [amset, amlib, zset, eq_self, ↓reduceIte, reduceCtorEq, Nat.reduceBEq, reduceEqDiff, reduceAdd, reduceMul, reduceLeDiff, reduceLT, reduceSub]
     try show resOf zG _ [] = some _ ∧ _ ∧ _
     try simp only [amset, amlib, zset, eq_self, ↓reduceIte, reduceCtorEq, Nat.reduceBEq, reduceEqDiff, reduceAdd, reduceMul, reduceLeDiff, reduceLT, reduceSub]
     rw [lnA_eq x i]
     simp only [hB, elif_if, e0, e1, h0, h1, bools, ↓reduceIte, List.append_assoc, List.cons_append, List.nil_append]
     try exact ⟨rfl, trivial⟩
    ·
     refine aw_skip ?_
     simp only [thenQ, blkQ, if_true, reduceIte, Nat.reduceEqDiff, eq_self]
     refine hK7 _ ?_
     clear hK7
     have hcl : isElif x.els = false := by rw [elif_if]; simp only [e0, e1, h0, h1, bools, ↓reduceIte]
     try simp only [hcl, h1, ↓reduceIte, Bool.false_eq_true, List.length_append, List.length_cons, List.length_nil] at hl
     refine aw_region zT ?_
     refine sg ?_
     refine ⟨by omega, ?_⟩
     refine ⟨_, _, holds85 _ _ _ (by simp only [List.length_append, List.length_cons, List.length_nil]; omega) (by simp), ?_⟩
     simp only [later]
     simp only [amset, amlib, zset, eq_self, ↓reduceIte, reduceCtorEq, Nat.reduceBEq, reduceEqDiff, reduceAdd, reduceMul, reduceLeDiff, reduceLT, reduceSub]
     try show resOf zG _ [] = some _ ∧ _ ∧ _
     try simp only [amset, amlib, zset, eq_self, ↓reduceIte, reduceCtorEq, Nat.reduceBEq, reduceEqDiff, reduceAdd, reduceMul, reduceLeDiff, reduceLT, reduceSub]
     rw [lnA_eq x i]
     simp only [hB, elif_if, e0, e1, h0, h1, bools, ↓reduceIte, List.append_assoc, List.cons_append, List.nil_append]
     try exact ⟨rfl, trivial⟩
  | false =>
   simp only [amset, amlib, zset, e0, h0, getD_hd1, eq_self, ↓reduceIte, reduceCtorEq, Nat.reduceBEq, reduceEqDiff, reduceAdd, reduceMul, reduceLeDiff, reduceLT, reduceSub]
   intros
   refine hK8 _ ?_
   clear hK8
   refine aw_cond (t := false) rfl (fun h => nomatch h) (fun _ => ?_)
   refine aw_ops zT fun K13 hK13 => ?_
   refine sg ?_
   intros
   refine hK13 _ ?_
   clear hK13
   refine aw_cond rfl (fun h1 => ?_) (fun h1 => ?_)
   ·
    have hcl : isElif x.els = false := by rw [elif_if]; simp only [e0, h0, h1, bools, ↓reduceIte]
    simp only [hcl, h1, ↓reduceIte, Bool.false_eq_true, List.length_append, List.length_cons, List.length_nil] at hl
    refine aw_ops zT fun K14 hK14 => ?_
    refine sg ?_
    refine ⟨by omega, ?_⟩
    refine ⟨_, _, holds85 _ _ _ (by simp only [List.length_append, List.length_cons, List.length_nil]; omega) (by simp), ?_⟩
    refine sgl ?_
    refine hK14 _ ?_
    clear hK14
    refine aw_region zT ?_
    refine sg ?_
    refine ⟨by omega, ?_⟩
    refine ⟨_, _, ih x.els (sze x) _ _ (fun z hz => hok z (stm_els hz)) (by simp only [List.length_append, List.length_cons, List.length_nil]; omega) (by simp) (by simp only [List.length_append, List.length_cons, List.length_nil]; omega), ?_⟩
    refine sgl ?_
    refine hK7 _ ?_
    clear hK7
    have hcl : isElif x.els = false := by rw [elif_if]; simp only [e0, h0, h1, bools, ↓reduceIte]
    try simp only [hcl, h1, ↓reduceIte, Bool.false_eq_true, List.length_append, List.length_cons, List.length_nil] at hl
    refine aw_region zT ?_
    refine sg ?_
    refine ⟨by omega, ?_⟩
    refine ⟨_, _, holds85 _ _ _ (by simp only [List.length_append, List.length_cons, List.length_nil]; omega) (by simp), ?_⟩
    simp only [later]
    simp only [amset, amlib, zset, eq_self, ↓reduceIte, reduceCtorEq, Nat.reduceBEq, reduceEqDiff, reduceAdd, reduceMul, reduceLeDiff, reduceLT, reduceSub]
    try show resOf zG _ [] = some _ ∧ _ ∧ _
    try simp only [amset, amlib, zset, eq_self, ↓reduceIte, reduceCtorEq, Nat.reduceBEq, reduceEqDiff, reduceAdd, reduceMul, reduceLeDiff, reduceLT, reduceSub]
    rw [lnA_eq x i]
    simp only [hB, elif_if, e0, h0, h1, bools, ↓reduceIte, List.append_assoc, List.cons_append, List.nil_append]
    try exact ⟨rfl, trivial⟩
   ·
    refine aw_skip ?_
    simp only [thenQ, blkQ, if_true, reduceIte, Nat.reduceEqDiff, eq_self]
    refine hK7 _ ?_
    clear hK7
    have hcl : isElif x.els = false := by rw [elif_if]; simp only [e0, h0, h1, bools, ↓reduceIte]
    try simp only [hcl, h1, ↓reduceIte, Bool.false_eq_true, List.length_append, List.length_cons, List.length_nil] at hl
    refine aw_region zT ?_
    refine sg ?_
    refine ⟨by omega, ?_⟩
    refine ⟨_, _, holds85 _ _ _ (by simp only [List.length_append, List.length_cons, List.length_nil]; omega) (by simp), ?_⟩
    simp only [later]
    simp only [amset, amlib, zset, eq_self, ↓reduceIte, reduceCtorEq, Nat.reduceBEq, reduceEqDiff, reduceAdd, reduceMul, reduceLeDiff, reduceLT, reduceSub]
    try show resOf zG _ [] = some _ ∧ _ ∧ _
    try simp only [amset, amlib, zset, eq_self, ↓reduceIte, reduceCtorEq, Nat.reduceBEq, reduceEqDiff, reduceAdd, reduceMul, reduceLeDiff, reduceLT, reduceSub]
    rw [lnA_eq x i]
    simp only [hB, elif_if, e0, h0, h1, bools, ↓reduceIte, List.append_assoc, List.cons_append, List.nil_append]
    try exact ⟨rfl, trivial⟩
theorem prog89 : Tryz.prog.funcs[89]? = some Tryz.f89 := by kernel_rfl
theorem step89 (b : Nat) (l0 : List UInt8) (l : List St) (i : List UInt8) (hok : ∀ z ∈ stmL l, okSt z) (hd : i.length + 4 * depM l ≤ 1000000000000) (hi : i ≠ []) (hl : l0.length + (lnsA l i).length ≤ 1000000000000) (ih : ∀ y ∈ l, ∀ l0 i, (∀ z ∈ stmS y, okSt z) → i.length + 4 * depS y ≤ 1000000000000 → i ≠ [] → l0.length + (lnA y i).length ≤ 1000000000000 → HoldsO Tryz.prog zG 160 [.c (.val (.pointer (some ⟨b, 0, none⟩))), .agg [.int .i64 y.kind, .str y.name, .int .i64 y.n, .sl 6 (encEs y.args), .sl 7 (encSs y.body), .sl 7 (encSs y.els), .int .i64 y.pos], .c (.str i)] (bldP b l0) (some []) (bldP b (l0 ++ lnA y i))) : HoldsO Tryz.prog zG 89 [.c (.val (.pointer (some ⟨b, 0, none⟩))), .c (.sl 7 (encSs l)), .c (.str i)] (bldP b l0) (some []) (bldP b (l0 ++ lnsA l i)) := by
 refine holdsO_of_body zT prog89 rfl rfl rfl (by simp [Tryz.f89]) (Stab.bld) (Stab.bld) ?_
 refine aw_ops zT fun K1 hK1 => ?_
 refine sg ?_
 intros
 refine hK1 _ ?_
 clear hK1
 refine aw_block ?_
 refine aw_range (α := St) (l) (fun dn => True) (fun dn => [(10, .cell (.c (.int .i64 dn.length)))]) (fun dn => [(1000000, [.objst (bldP b (l0 ++ lnsA dn i))])]) [] [7, 10, 11, 12, 13, 14, 15, 16, 17, 18, 19, 20, 21] [7, 1000000] trivial ?_ ?_ ?_ ?_
 ·
  simp only [amset, amlib, zset, eq_self, ↓reduceIte, reduceCtorEq, Nat.reduceBEq, reduceEqDiff, reduceAdd, reduceMul, reduceLeDiff, reduceLT, reduceSub] <;> simp [lnsA, lnsA_append, List.append_assoc, List.append_nil]
 ·
  simp only [amset, amlib, zset, eq_self, ↓reduceIte, reduceCtorEq, Nat.reduceBEq, reduceEqDiff, reduceAdd, reduceMul, reduceLeDiff, reduceLT, reduceSub] <;> simp [lnsA, lnsA_append, List.append_assoc, List.append_nil]
 ·
  intro hI R
  refine aw_nm ?_
  refine aw_ops zT fun K2 hK2 => ?_
  refine sg ?_
  refine hK2 _ ?_
  clear hK2
  refine aw_seq fun K3 hK3 => ?_
  refine aw_cond (t := false) (by simp [evalO, S.get, amLook]) (fun h => nomatch h) (fun _ => ?_)
  refine aw_exit ?_
  try show resOf zG _ [] = some _ ∧ _ ∧ _
  try simp only [amset, amlib, zset, eq_self, ↓reduceIte, reduceCtorEq, Nat.reduceBEq, reduceEqDiff, reduceAdd, reduceMul, reduceLeDiff, reduceLT, reduceSub]
  try exact ⟨rfl, trivial, rfl⟩
 ·
  intro dn y td harg hI R hR
  have hl : (l).length = dn.length + (td.length + 1) := by rw [harg]; simp
  have hmem : y ∈ l := by rw [harg]; simp
  refine aw_nm ?_
  have hget : (encSs (l)).getD dn.length [] = encS y := by rw [harg]; exact encSs_mid dn td y
  have hy := depM_mem hmem
  have hlen : (lnsA l i).length = (lnsA dn i).length + (i.length + (lnA y i).length + (lnsA td i).length) := by rw [harg, lnsA_append, lnsA]; simp only [List.length_append]
  refine aw_ops zT fun K4 hK4 => ?_
  refine sg ?_
  refine hK4 _ ?_
  clear hK4
  refine aw_seq fun K5 hK5 => ?_
  refine aw_cond (t := true) (by simp [evalO, S.get, amLook]; omega) (fun _ => ?_) (fun h => nomatch h)
  refine aw_skip ?_
  simp only [thenQ, blkQ, if_true, reduceIte, Nat.reduceEqDiff, eq_self]
  refine hK5 _ ?_
  clear hK5
  refine aw_seq fun K6 hK6 => ?_
  refine aw_block ?_
  refine aw_ops zT fun K7 hK7 => ?_
  simp only [amset, amlib, zset, hget, eq_self, ↓reduceIte, reduceCtorEq, Nat.reduceBEq, reduceEqDiff, reduceAdd, reduceMul, reduceLeDiff, reduceLT, reduceSub]
  refine ⟨⟨by omega, by omega⟩, ?_⟩
  refine hK7 _ ?_
  clear hK7
  refine aw_ops zT fun K8 hK8 => ?_
  refine sg ?_
  refine ⟨_, _, holds85 _ _ _ (by simp only [List.length_append, List.length_cons, List.length_nil]; omega) hi, ?_⟩
  refine sgl ?_
  refine hK8 _ ?_
  clear hK8
  refine aw_region zT ?_
  refine sg ?_
  refine ⟨_, _, ih y hmem _ _ (fun z hz => hok z (stm_mem hmem hz)) (by omega) hi (by simp only [List.length_append, List.length_cons, List.length_nil]; omega), ?_⟩
  refine sgl ?_
  refine hK6 _ ?_
  clear hK6
  refine aw_region zT ?_
  refine sg ?_
  refine ⟨⟨by omega, by omega⟩, ?_⟩
  refine hR _ trivial ?_
  refine Reach.to ?_ ?_
  ·
   simp only [amset, amlib, zset, eq_self, ↓reduceIte, reduceCtorEq, Nat.reduceBEq, reduceEqDiff, reduceAdd, reduceMul, reduceLeDiff, reduceLT, reduceSub] <;> simp [lnsA, lnsA_append, List.append_assoc, List.append_nil]
  ·
   simp only [amset, amlib, zset, eq_self, ↓reduceIte, reduceCtorEq, Nat.reduceBEq, reduceEqDiff, reduceAdd, reduceMul, reduceLeDiff, reduceLT, reduceSub] <;> simp [lnsA, lnsA_append, List.append_assoc, List.append_nil]
mutual
theorem holds160 (b : Nat) (l0 : List UInt8) (x : St) (i : List UInt8) (hok : ∀ z ∈ stmS x, okSt z) (hd : i.length + 4 * depS x ≤ 1000000000000) (hi : i ≠ []) (hl : l0.length + (lnA x i).length ≤ 1000000000000) : HoldsO Tryz.prog zG 160 [.c (.val (.pointer (some ⟨b, 0, none⟩))), .agg [.int .i64 x.kind, .str x.name, .int .i64 x.n, .sl 6 (encEs x.args), .sl 7 (encSs x.body), .sl 7 (encSs x.els), .int .i64 x.pos], .c (.str i)] (bldP b l0) (some []) (bldP b (l0 ++ lnA x i)) :=
 step160 b l0 x i hok hd hi hl (fun m hm l0 i h1 h2 h3 h4 => holds89 b l0 m i h1 h2 h3 h4) (fun y hy l0 i h1 h2 h3 h4 => holds160 b l0 y i h1 h2 h3 h4)
  termination_by SizeOf.sizeOf x
  decreasing_by
 ·
  exact hm
 ·
  exact hy
theorem holds89 (b : Nat) (l0 : List UInt8) (l : List St) (i : List UInt8) (hok : ∀ z ∈ stmL l, okSt z) (hd : i.length + 4 * depM l ≤ 1000000000000) (hi : i ≠ []) (hl : l0.length + (lnsA l i).length ≤ 1000000000000) : HoldsO Tryz.prog zG 89 [.c (.val (.pointer (some ⟨b, 0, none⟩))), .c (.sl 7 (encSs l)), .c (.str i)] (bldP b l0) (some []) (bldP b (l0 ++ lnsA l i)) :=
 step89 b l0 l i hok hd hi hl (fun y hy l0 i h1 h2 h3 h4 => holds160 b l0 y i h1 h2 h3 h4)
  termination_by SizeOf.sizeOf l
  decreasing_by exact List.sizeOf_lt_of_mem hy
end
end Go.Proofs.Am
set_option maxRecDepth 100000
set_option maxHeartbeats 4000000
namespace Go.Proofs.Am
open Nat (reduceEqDiff reduceAdd reduceMul reduceLeDiff reduceLT reduceSub)
def dig (d : Nat) : UInt8 := UInt8.ofNat (48 + d)
def numN (n : Nat) : List UInt8 := if h : n < 10 then [dig n] else numN (n / 10) ++ [dig (n % 10)]
  termination_by n
  decreasing_by omega
theorem numN_lt {n : Nat} (h : n < 10) : numN n = [dig n] := by unfold numN; simp [h]
theorem numN_ge {n : Nat} (h : ¬ n < 10) : numN n = numN (n / 10) ++ numN (n % 10) := by
 rw [numN_lt (n := n % 10) (by omega)]
 conv => lhs; unfold numN
 simp [h]
theorem dig_slice : ∀ d < 10, ((([48, 49, 50, 51, 52, 53, 54, 55, 56, 57] : List UInt8).drop d).take 1) = [dig d] := by decide
theorem numN_len (n : Nat) : (numN n).length ≤ n + 1 := by
 induction n using Nat.strongRecOn with
 | _ n ih =>
  unfold numN
  split
  ·
   simp
  ·
   have := ih (n / 10) (by omega)
   simp
   omega
theorem prog91 : Tryz.prog.funcs[91]? = some Tryz.f91 := by kernel_rfl
theorem step91 (n : Nat) (hn : n ≤ 4611686018427387904) (ih : ∀ m, m < n → m ≤ 4611686018427387904 → Holds Tryz.prog zG 91 [.c (.int .i64 (m : Nat))] [.c (.str (numN m))]) : Holds Tryz.prog zG 91 [.c (.int .i64 (n : Nat))] [.c (.str (numN n))] := by
 refine holds_of_body zT prog91 rfl rfl rfl (by simp [Tryz.f91]) ?_
 refine aw_ops zT fun K1 hK1 => ?_
 refine sg ?_
 refine hK1 _ ?_
 clear hK1
 refine aw_seq fun K2 hK2 => ?_
 refine aw_ops zT fun K3 hK3 => ?_
 refine sg ?_
 refine hK3 _ ?_
 clear hK3
 refine aw_cond (t := false) (by simp [evalO, S.get, amLook]) (fun h => nomatch h) (fun _ => ?_)
 refine aw_skip ?_
 simp only [thenQ, blkQ, if_true, reduceIte, Nat.reduceEqDiff, eq_self]
 refine hK2 _ ?_
 clear hK2
 refine aw_seq fun K4 hK4 => ?_
 refine aw_ops zT fun K5 hK5 => ?_
 refine sg ?_
 refine hK5 _ ?_
 clear hK5
 refine aw_cond (t := decide ((n : Int) < 10)) rfl (fun h1 => ?_) (fun h1 => ?_)
 ·
  have hlt : n < 10 := by simp at h1; omega
  refine aw_ops zT fun K6 hK6 => ?_
  refine sg ?_
  refine ⟨⟨by omega, by omega⟩, ?_⟩
  refine ⟨⟨by omega, by omega, by omega⟩, ?_⟩
  refine hK6 _ ?_
  clear hK6
  refine aw_ret ?_
  show resOf zG _ [.tmp 2] = some _
  simp only [amset, amlib, zset, eq_self, ↓reduceIte, reduceCtorEq, Nat.reduceBEq, reduceEqDiff, reduceAdd, reduceMul, reduceLeDiff, reduceLT, reduceSub]
  rw [numN_lt hlt, ← dig_slice n hlt]
  simp
 ·
  have hlt : ¬ n < 10 := by simp at h1; omega
  refine aw_skip ?_
  simp only [thenQ, blkQ, if_true, reduceIte, Nat.reduceEqDiff, eq_self]
  refine hK4 _ ?_
  clear hK4
  refine aw_ops zT fun K7 hK7 => ?_
  refine sg ?_
  refine ⟨by decide, ?_⟩
  have hq : ((n : Int).tdiv 10) = ((n / 10 : Nat) : Int) := by rw [Int.tdiv_eq_ediv_of_nonneg (by omega)]; rfl
  have hw : IntKind.i64.wrap ((n / 10 : Nat) : Int) = ((n / 10 : Nat) : Int) := wrap_id _ (by omega) (by omega)
  rw [hq, hw]
  refine ⟨_, ih (n / 10) (by omega) (by omega), ?_⟩
  refine sgl ?_
  refine ⟨by decide, ?_⟩
  have hr : ((n : Int).tmod 10) = ((n % 10 : Nat) : Int) := by rw [Int.tmod_eq_emod_of_nonneg (by omega)]; rfl
  rw [hr]
  refine ⟨_, ih (n % 10) (by omega) (by omega), ?_⟩
  refine sgl ?_
  have l1 := numN_len (n / 10)
  have l2 := numN_len (n % 10)
  refine ⟨by omega, ?_⟩
  refine hK7 _ ?_
  clear hK7
  refine aw_ret ?_
  show resOf zG _ [.tmp 2] = some _
  simp only [amset, amlib, zset, eq_self, ↓reduceIte, reduceCtorEq, Nat.reduceBEq, reduceEqDiff, reduceAdd, reduceMul, reduceLeDiff, reduceLT, reduceSub]
  rw [numN_ge hlt]
theorem holds91 (n : Nat) (hn : n ≤ 4611686018427387904) : Holds Tryz.prog zG 91 [.c (.int .i64 (n : Nat))] [.c (.str (numN n))] := step91 n hn fun m hm hb => holds91 m hb
  termination_by n
  decreasing_by exact hm
end Go.Proofs.Am
set_option maxRecDepth 100000
set_option maxHeartbeats 4000000
namespace Go.Proofs.Am
open Nat (reduceEqDiff reduceAdd reduceMul reduceLeDiff reduceLT reduceSub)
def lvTab : List Int := [0, 0, 0, 4, 4, 5, 5, 5, 3, 3, 3, 3, 3, 3, 2, 1]
theorem map_getD {α β : Type} (f : α → β) (l : List α) (n : Nat) (d : α) (e : β) (h : n < l.length) : (l.map f).getD n e = f (l.getD n d) := by
 simp [List.getD, h]
def lvRows : List (List C) := lvTab.map fun z => [.int .i64 z]
theorem lvRows_at (n : Nat) (h : n < 16) : lvRows.getD n [] = [.int .i64 (lvTab.getD n 0)] := map_getD (fun z => [C.int .i64 z]) lvTab n 0 [] h
def levelE (x : Ex) : Int := if (x.kind == 5) then 6 else if (x.kind != 6) then 7 else lvTab.getD x.op.toNat 0
theorem prog169 : Tryz.prog.funcs[169]? = some Tryz.f169 := by kernel_rfl
theorem holds169 (x : Ex) (hop : x.kind = 6 → 0 ≤ x.op ∧ x.op < 16) : Holds Tryz.prog zG 169 [.agg [.int .i64 x.kind, .str x.name, .int .i16 x.value, .int .i64 x.op, .sl 6 (encEs x.args), .int .i64 x.pos]] [.c (.int .i64 (levelE x))] := by
 refine holds_of_body zT prog169 rfl rfl rfl (by simp [Tryz.f169]) ?_
 refine aw_ops zT fun K1 hK1 => ?_
 refine sg ?_
 refine hK1 _ ?_
 clear hK1
 refine aw_seq fun K2 hK2 => ?_
 refine aw_ops zT fun K3 hK3 => ?_
 refine sg ?_
 refine hK3 _ ?_
 clear hK3
 refine aw_cond rfl (fun h0 => ?_) (fun h0 => ?_)
 ·
  refine aw_ops zT fun K4 hK4 => ?_
  refine sg ?_
  refine hK4 _ ?_
  clear hK4
  refine aw_ret ?_
  show resOf zG _ [.tmp 2] = some _
  simp only [amset, amlib, zset, eq_self, ↓reduceIte, reduceCtorEq, Nat.reduceBEq, reduceEqDiff, reduceAdd, reduceMul, reduceLeDiff, reduceLT, reduceSub]
  simp only [levelE, h0, bools, ↓reduceIte]
 ·
  refine aw_skip ?_
  simp only [thenQ, blkQ, if_true, reduceIte, Nat.reduceEqDiff, eq_self]
  refine hK2 _ ?_
  clear hK2
  refine aw_seq fun K5 hK5 => ?_
  refine aw_ops zT fun K6 hK6 => ?_
  refine sg ?_
  refine hK6 _ ?_
  clear hK6
  refine aw_cond rfl (fun h1 => ?_) (fun h1 => ?_)
  ·
   refine aw_ops zT fun K7 hK7 => ?_
   refine sg ?_
   refine hK7 _ ?_
   clear hK7
   refine aw_ret ?_
   show resOf zG _ [.tmp 2] = some _
   simp only [amset, amlib, zset, eq_self, ↓reduceIte, reduceCtorEq, Nat.reduceBEq, reduceEqDiff, reduceAdd, reduceMul, reduceLeDiff, reduceLT, reduceSub]
   simp only [levelE, h0, h1, bools, ↓reduceIte]
  ·
   have hk := hop (by simpa using h1)
   have hr : ([[C.int .i64 0], [C.int .i64 0], [C.int .i64 0], [C.int .i64 4], [C.int .i64 4], [C.int .i64 5], [C.int .i64 5], [C.int .i64 5], [C.int .i64 3], [C.int .i64 3], [C.int .i64 3], [C.int .i64 3], [C.int .i64 3], [C.int .i64 3], [C.int .i64 2], [C.int .i64 1]] : List (List C)).getD x.op.toNat [] = [.int .i64 (lvTab.getD x.op.toNat 0)] := lvRows_at x.op.toNat (by omega)
   refine aw_skip ?_
   simp only [thenQ, blkQ, if_true, reduceIte, Nat.reduceEqDiff, eq_self]
   refine hK5 _ ?_
   clear hK5
   refine aw_seq fun K8 hK8 => ?_
   refine aw_cut zT 1 9 (K1 := fun s1 => s1 = ?st) ?g1 ?g2 (by decide)
   case g1 =>
    simp only [amset, amlib, zset, eq_self, ↓reduceIte, reduceCtorEq, Nat.reduceBEq, reduceEqDiff, reduceAdd, reduceMul, reduceLeDiff, reduceLT, reduceSub]
    exact rfl
   rintro s1 rfl
   simp only [amset, amlib, zset, hr, eq_self, ↓reduceIte, reduceCtorEq, Nat.reduceBEq, reduceEqDiff, reduceAdd, reduceMul, reduceLeDiff, reduceLT, reduceSub]
   refine ⟨⟨by omega, by omega⟩, ?_⟩
   refine hK8 _ ?_
   clear hK8
   refine aw_ret ?_
   show resOf zG _ [.tmp 2] = some _
   simp only [amset, amlib, zset, eq_self, ↓reduceIte, reduceCtorEq, Nat.reduceBEq, reduceEqDiff, reduceAdd, reduceMul, reduceLeDiff, reduceLT, reduceSub]
   simp only [levelE, h0, h1, bools, ↓reduceIte]
end Go.Proofs.Am
set_option maxRecDepth 100000
set_option maxHeartbeats 4000000
namespace Go.Proofs.Am
open Nat (reduceEqDiff reduceAdd reduceMul reduceLeDiff reduceLT reduceSub)
def sgTab : List (List UInt8) := [[], [45], [33], [43], [45], [42], [47], [37], [61, 61], [33, 61], [60], [60, 61], [62], [62, 61], [38, 38], [124, 124]]
def sgRows : List (List C) := sgTab.map fun z => [.str z]
theorem sgRows_at (n : Nat) (h : n < 16) : sgRows.getD n [] = [.str (sgTab.getD n [])] := map_getD (fun z => [C.str z]) sgTab n [] [] h
theorem prog167 : Tryz.prog.funcs[167]? = some Tryz.f167 := by kernel_rfl
theorem holds167 (k : Int) (hop : 0 ≤ k ∧ k < 16) : Holds Tryz.prog zG 167 [.c (.int .i64 k)] [.c (.str (sgTab.getD k.toNat []))] := by
 refine holds_of_body zT prog167 rfl rfl rfl (by simp [Tryz.f167]) ?_
 refine aw_ops zT fun K1 hK1 => ?_
 refine sg ?_
 have hr : ([[C.str []], [C.str [45]], [C.str [33]], [C.str [43]], [C.str [45]], [C.str [42]], [C.str [47]], [C.str [37]], [C.str [61, 61]], [C.str [33, 61]], [C.str [60]], [C.str [60, 61]], [C.str [62]], [C.str [62, 61]], [C.str [38, 38]], [C.str [124, 124]]] : List (List C)).getD k.toNat [] = [.str (sgTab.getD k.toNat [])] := sgRows_at k.toNat (by omega)
 refine hK1 _ ?_
 clear hK1
 refine aw_seq fun K2 hK2 => ?_
 refine aw_cut zT 1 3 (K1 := fun s1 => s1 = ?st) ?g1 ?g2 (by decide)
 case g1 =>
  simp only [amset, amlib, zset, eq_self, ↓reduceIte, reduceCtorEq, Nat.reduceBEq, reduceEqDiff, reduceAdd, reduceMul, reduceLeDiff, reduceLT, reduceSub]
  exact rfl
 rintro s1 rfl
 simp only [amset, amlib, zset, hr, eq_self, ↓reduceIte, reduceCtorEq, Nat.reduceBEq, reduceEqDiff, reduceAdd, reduceMul, reduceLeDiff, reduceLT, reduceSub]
 refine ⟨⟨by omega, by omega⟩, ?_⟩
 refine hK2 _ ?_
 clear hK2
 refine aw_ret ?_
 show resOf zG _ [.tmp 2] = some _
 simp only [amset, amlib, zset, eq_self, ↓reduceIte, reduceCtorEq, Nat.reduceBEq, reduceEqDiff, reduceAdd, reduceMul, reduceLeDiff, reduceLT, reduceSub]
end Go.Proofs.Am
set_option maxRecDepth 100000
set_option maxHeartbeats 4000000
namespace Go.Proofs.Am
open Nat (reduceEqDiff reduceAdd reduceMul reduceLeDiff reduceLT reduceSub)
theorem numN_dec (n : Nat) : numN n = Lib.decDigits n := by
 induction n using Nat.strongRecOn with
 | _ n ih =>
  unfold numN Lib.decDigits
  split
  ·
   rfl
  ·
   rw [ih (n / 10) (by omega)]; rfl
theorem numN_itoa (n : Nat) : numN n = Lib.itoa (n : Int) := by
 rw [numN_dec]
 unfold Lib.itoa
 rw [if_neg (by omega)]
 rfl
theorem levelE_lvA (x : Ex) : levelE x = lvA x := by
 unfold levelE lvA
 by_cases h5 : x.kind = 5
 ·
  simp [h5]
 ·
  by_cases h6 : x.kind = 6
  ·
   simp [h6]; rfl
  ·
   simp [h5, h6]
theorem sgTab_symI (k : Int) : sgTab.getD k.toNat [] = symI k := rfl
theorem prog168 : Tryz.prog.funcs[168]? = some Tryz.f168 := by kernel_rfl
theorem step168 (x : Ex) (least : Int) (hop : x.kind = 6 → 0 ≤ x.op ∧ x.op < 16) (hl : (txA x).length ≤ 64000000000000) (ih : Holds Tryz.prog zG 95 [.agg [.int .i64 x.kind, .str x.name, .int .i16 x.value, .int .i64 x.op, .sl 6 (encEs x.args), .int .i64 x.pos]] [.c (.str (txA x))]) : Holds Tryz.prog zG 168 [.agg [.int .i64 x.kind, .str x.name, .int .i16 x.value, .int .i64 x.op, .sl 6 (encEs x.args), .int .i64 x.pos], .c (.int .i64 least)] [.c (.str (opS (lvA x, txA x) least))] := by
 refine holds_of_body zT prog168 rfl rfl rfl (by simp [Tryz.f168]) ?_
 refine aw_ops zT fun K1 hK1 => ?_
 refine sg ?_
 refine hK1 _ ?_
 clear hK1
 refine aw_seq fun K2 hK2 => ?_
 refine aw_ops zT fun K3 hK3 => ?_
 simp only [amset, amlib, zset, levelE_lvA, eq_self, ↓reduceIte, reduceCtorEq, Nat.reduceBEq, reduceEqDiff, reduceAdd, reduceMul, reduceLeDiff, reduceLT, reduceSub]
 refine ⟨_, holds169 x hop, ?_⟩
 simp only [later]
 simp only [amset, amlib, zset, levelE_lvA, eq_self, ↓reduceIte, reduceCtorEq, Nat.reduceBEq, reduceEqDiff, reduceAdd, reduceMul, reduceLeDiff, reduceLT, reduceSub]
 refine hK3 _ ?_
 clear hK3
 refine aw_cond rfl (fun h0 => ?_) (fun h0 => ?_)
 ·
  refine aw_ops zT fun K4 hK4 => ?_
  refine sg ?_
  refine ⟨_, ih, ?_⟩
  refine sgl ?_
  refine ⟨by omega, ?_⟩
  refine ⟨by omega, ?_⟩
  refine hK4 _ ?_
  clear hK4
  refine aw_ret ?_
  show resOf zG _ [.tmp 4] = some _
  simp only [amset, amlib, zset, eq_self, ↓reduceIte, reduceCtorEq, Nat.reduceBEq, reduceEqDiff, reduceAdd, reduceMul, reduceLeDiff, reduceLT, reduceSub]
  simp only [opS, h0, bools, ↓reduceIte, List.cons_append, List.nil_append]
 ·
  refine aw_skip ?_
  simp only [thenQ, blkQ, if_true, reduceIte, Nat.reduceEqDiff, eq_self]
  refine hK2 _ ?_
  clear hK2
  refine aw_ops zT fun K5 hK5 => ?_
  refine sg ?_
  refine ⟨_, ih, ?_⟩
  refine sgl ?_
  refine hK5 _ ?_
  clear hK5
  refine aw_ret ?_
  show resOf zG _ [.tmp 4] = some _
  simp only [amset, amlib, zset, eq_self, ↓reduceIte, reduceCtorEq, Nat.reduceBEq, reduceEqDiff, reduceAdd, reduceMul, reduceLeDiff, reduceLT, reduceSub]
  simp only [opS, h0, bools, ↓reduceIte, List.cons_append, List.nil_append]
theorem prog95 : Tryz.prog.funcs[95]? = some Tryz.f95 := by kernel_rfl
theorem step95 (x : Ex) (hx : wfA x = true) (hv : i16r x.value) (hw : wdL x.args) (hs : (subE x).length ≤ 1000000000000) (ih : ∀ y ∈ x.args, Holds Tryz.prog zG 95 [.agg [.int .i64 y.kind, .str y.name, .int .i16 y.value, .int .i64 y.op, .sl 6 (encEs y.args), .int .i64 y.pos]] [.c (.str (txA y))]) (ihop : ∀ y ∈ x.args, ∀ least : Int, Holds Tryz.prog zG 168 [.agg [.int .i64 y.kind, .str y.name, .int .i16 y.value, .int .i64 y.op, .sl 6 (encEs y.args), .int .i64 y.pos], .c (.int .i64 least)] [.c (.str (opS (lvA y, txA y) least))]) : Holds Tryz.prog zG 95 [.agg [.int .i64 x.kind, .str x.name, .int .i16 x.value, .int .i64 x.op, .sl 6 (encEs x.args), .int .i64 x.pos]] [.c (.str (txA x))] := by
 refine holds_of_body zT prog95 rfl rfl rfl (by simp [Tryz.f95]) ?_
 refine aw_ops zT fun K1 hK1 => ?_
 refine sg ?_
 refine hK1 _ ?_
 clear hK1
 refine aw_seq fun K2 hK2 => ?_
 refine aw_ops zT fun K3 hK3 => ?_
 refine sg ?_
 refine hK3 _ ?_
 clear hK3
 refine aw_block ?_
 refine aw_ops zT fun K4 hK4 => ?_
 refine sg ?_
 refine hK4 _ ?_
 clear hK4
 refine aw_cond rfl (fun h0 => ?_) (fun h0 => ?_)
 ·
  have hwf := wf_facts hx
  have hk : x.kind = 1 := by simpa using h0
  obtain ⟨n, hn⟩ : ∃ n : Nat, x.value = n := ⟨x.value.toNat, by omega⟩
  have ev : IntKind.i64.wrap (n : Int) = n := wrap_id _ (by omega) (by unfold i16r at hv; omega)
  refine aw_ops zT fun K5 hK5 => ?_
  simp only [amset, amlib, zset, hn, ev, eq_self, ↓reduceIte, reduceCtorEq, Nat.reduceBEq, reduceEqDiff, reduceAdd, reduceMul, reduceLeDiff, reduceLT, reduceSub]
  refine ⟨_, holds91 n (by unfold i16r at hv; omega), ?_⟩
  simp only [later]
  simp only [amset, amlib, zset, hn, ev, eq_self, ↓reduceIte, reduceCtorEq, Nat.reduceBEq, reduceEqDiff, reduceAdd, reduceMul, reduceLeDiff, reduceLT, reduceSub]
  refine hK5 _ ?_
  clear hK5
  refine aw_ret ?_
  show resOf zG _ [.tmp 2] = some _
  simp only [amset, amlib, zset, eq_self, ↓reduceIte, reduceCtorEq, Nat.reduceBEq, reduceEqDiff, reduceAdd, reduceMul, reduceLeDiff, reduceLT, reduceSub]
  rw [txA_eq x]
  simp only [h0, hn, numN_itoa, ↓reduceIte, Bool.false_eq_true, bnT, List.append_assoc, List.cons_append, List.nil_append]
 ·
  refine aw_ops zT fun K6 hK6 => ?_
  refine sg ?_
  refine hK6 _ ?_
  clear hK6
  refine aw_cond rfl (fun h1 => ?_) (fun h1 => ?_)
  ·
   have hwf := wf_facts hx
   have hdl := sym_len x.op
   have hlr := lev_range x.op
   have hsz := subE_len x
   have hk : x.kind = 3 := by simpa using h1
   have ha : x.args.length = 1 := by omega
   have hnl : x.name.length ≤ 32 := ident_len (by rcases hwf.1 with ⟨k, r⟩ | ⟨k, r⟩ | ⟨k, l, r, _⟩ | ⟨k, l, r, _⟩ | ⟨k, r⟩ | ⟨k, r⟩ <;> first | exact r | omega)
   have hm0 : x.args[0] ∈ x.args := List.getElem_mem _
   have hget0 : (encEs x.args).getD (Int.toNat 0) [] = encE x.args[0] := encEs_getD _ 0 (by omega)
   have htx0 := txL_getD x.args 0 (by omega)
   have hn0 := txA_len x.args[0] (hwf.2 _ hm0) (wdE_eq x.args[0] ▸ wdL_mem hw hm0).1 (wdE_eq x.args[0] ▸ wdL_mem hw hm0).2
   have hq0 := subL_mem hm0
   have hol0 := fun l => opS_len' (lvA x.args[0]) (txA x.args[0]) l
   refine aw_draw zT prog_mixed fun K7 hK7 => ?_
   simp only [amset, amlib, zset, hget0, eq_self, ↓reduceIte, reduceCtorEq, Nat.reduceBEq, reduceEqDiff, reduceAdd, reduceMul, reduceLeDiff, reduceLT, reduceSub]
   refine ⟨by omega, ?_⟩
   refine ⟨⟨by omega, by omega⟩, ?_⟩
   refine ⟨_, ih _ (List.getElem_mem (h := by omega)), ?_⟩
   simp only [later]
   simp only [amset, amlib, zset, hget0, eq_self, ↓reduceIte, reduceCtorEq, Nat.reduceBEq, reduceEqDiff, reduceAdd, reduceMul, reduceLeDiff, reduceLT, reduceSub]
   refine ⟨by omega, ?_⟩
   refine ⟨by omega, ?_⟩
   refine ⟨by kernel_rfl, ?_⟩
   refine hK7 _ ?_
   clear hK7
   refine aw_ret ?_
   show resOf zG _ [.tmp 2] = some _
   simp only [amset, amlib, zset, eq_self, ↓reduceIte, reduceCtorEq, Nat.reduceBEq, reduceEqDiff, reduceAdd, reduceMul, reduceLeDiff, reduceLT, reduceSub]
   rw [txA_eq x]
   simp only [(show (x.kind == 1) = false by simp [hk]), (show (x.kind == 2) = false by simp [hk]), h1, htx0, ↓reduceIte, Bool.false_eq_true, bnT, List.append_assoc, List.cons_append, List.nil_append]
  ·
   refine aw_ops zT fun K8 hK8 => ?_
   refine sg ?_
   refine hK8 _ ?_
   clear hK8
   refine aw_cond rfl (fun h2 => ?_) (fun h2 => ?_)
   ·
    have hwf := wf_facts hx
    have hk : x.kind = 4 := by simpa using h2
    have hnl : x.name.length ≤ 32 := ident_len (by rcases hwf.1 with ⟨k, r⟩ | ⟨k, r⟩ | ⟨k, l, r, _⟩ | ⟨k, l, r, _⟩ | ⟨k, r⟩ | ⟨k, r⟩ <;> first | exact r | omega)
    
    refine aw_ops zT fun K9 hK9 => ?_
    refine sg ?_
    refine ⟨by omega, ?_⟩
    refine ⟨by omega, ?_⟩
    refine hK9 _ ?_
    clear hK9
    refine aw_ret ?_
    show resOf zG _ [.tmp 2] = some _
    simp only [amset, amlib, zset, eq_self, ↓reduceIte, reduceCtorEq, Nat.reduceBEq, reduceEqDiff, reduceAdd, reduceMul, reduceLeDiff, reduceLT, reduceSub]
    rw [txA_eq x]
    simp only [(show (x.kind == 1) = false by simp [hk]), (show (x.kind == 2) = false by simp [hk]), (show (x.kind == 3) = false by simp [hk]), h2, ↓reduceIte, Bool.false_eq_true, bnT, List.append_assoc, List.cons_append, List.nil_append]
   ·
    refine aw_ops zT fun K10 hK10 => ?_
    refine sg ?_
    refine hK10 _ ?_
    clear hK10
    refine aw_cond rfl (fun h3 => ?_) (fun h3 => ?_)
    ·
     have hwf := wf_facts hx
     have hdl := sym_len x.op
     have hlr := lev_range x.op
     have hsz := subE_len x
     have hk : x.kind = 5 := by simpa using h3
     have ha : x.args.length = 1 := by omega
     have ho : 1 ≤ x.op ∧ x.op ≤ 2 := by omega
     have hm0 : x.args[0] ∈ x.args := List.getElem_mem _
     have hget0 : (encEs x.args).getD (Int.toNat 0) [] = encE x.args[0] := encEs_getD _ 0 (by omega)
     have htx0 := txL_getD x.args 0 (by omega)
     have hn0 := txA_len x.args[0] (hwf.2 _ hm0) (wdE_eq x.args[0] ▸ wdL_mem hw hm0).1 (wdE_eq x.args[0] ▸ wdL_mem hw hm0).2
     have hq0 := subL_mem hm0
     have hol0 := fun l => opS_len' (lvA x.args[0]) (txA x.args[0]) l
     have hol := hol0 6
     refine aw_draw zT prog_mixed fun K11 hK11 => ?_
     simp only [amset, amlib, zset, hget0, sgTab_symI, eq_self, ↓reduceIte, reduceCtorEq, Nat.reduceBEq, reduceEqDiff, reduceAdd, reduceMul, reduceLeDiff, reduceLT, reduceSub]
     refine ⟨_, holds167 x.op (by omega), ?_⟩
     simp only [later]
     simp only [amset, amlib, zset, hget0, sgTab_symI, eq_self, ↓reduceIte, reduceCtorEq, Nat.reduceBEq, reduceEqDiff, reduceAdd, reduceMul, reduceLeDiff, reduceLT, reduceSub]
     refine ⟨⟨by omega, by omega⟩, ?_⟩
     refine ⟨_, ihop _ (List.getElem_mem (h := by omega)) _, ?_⟩
     simp only [later]
     simp only [amset, amlib, zset, hget0, sgTab_symI, eq_self, ↓reduceIte, reduceCtorEq, Nat.reduceBEq, reduceEqDiff, reduceAdd, reduceMul, reduceLeDiff, reduceLT, reduceSub]
     refine ⟨by omega, ?_⟩
     refine ⟨by kernel_rfl, ?_⟩
     refine hK11 _ ?_
     clear hK11
     refine aw_ret ?_
     show resOf zG _ [.tmp 2] = some _
     simp only [amset, amlib, zset, eq_self, ↓reduceIte, reduceCtorEq, Nat.reduceBEq, reduceEqDiff, reduceAdd, reduceMul, reduceLeDiff, reduceLT, reduceSub]
     rw [txA_eq x]
     simp only [(show (x.kind == 1) = false by simp [hk]), (show (x.kind == 2) = false by simp [hk]), (show (x.kind == 3) = false by simp [hk]), (show (x.kind == 4) = false by simp [hk]), h3, htx0, sgTab_symI, ↓reduceIte, Bool.false_eq_true, bnT, List.append_assoc, List.cons_append, List.nil_append]
    ·
     refine aw_ops zT fun K12 hK12 => ?_
     refine sg ?_
     refine hK12 _ ?_
     clear hK12
     refine aw_cond rfl (fun h4 => ?_) (fun h4 => ?_)
     ·
      have hwf := wf_facts hx
      have hdl := sym_len x.op
      have hlr := lev_range x.op
      have hsz := subE_len x
      have hk : x.kind = 6 := by simpa using h4
      have hlv : lvA x = levI x.op := by simp [lvA, hk]
      have ha : x.args.length = 2 := by omega
      have ho : 3 ≤ x.op ∧ x.op ≤ 15 := by omega
      have hm0 : x.args[0] ∈ x.args := List.getElem_mem _
      have hget0 : (encEs x.args).getD (Int.toNat 0) [] = encE x.args[0] := encEs_getD _ 0 (by omega)
      have htx0 := txL_getD x.args 0 (by omega)
      have hn0 := txA_len x.args[0] (hwf.2 _ hm0) (wdE_eq x.args[0] ▸ wdL_mem hw hm0).1 (wdE_eq x.args[0] ▸ wdL_mem hw hm0).2
      have hq0 := subL_mem hm0
      have hol0 := fun l => opS_len' (lvA x.args[0]) (txA x.args[0]) l
      have hm1 : x.args[1] ∈ x.args := List.getElem_mem _
      have hget1 : (encEs x.args).getD (Int.toNat 1) [] = encE x.args[1] := encEs_getD _ 1 (by omega)
      have htx1 := txL_getD x.args 1 (by omega)
      have hn1 := txA_len x.args[1] (hwf.2 _ hm1) (wdE_eq x.args[1] ▸ wdL_mem hw hm1).1 (wdE_eq x.args[1] ▸ wdL_mem hw hm1).2
      have hq1 := subL_mem hm1
      have hol1 := fun l => opS_len' (lvA x.args[1]) (txA x.args[1]) l
      refine aw_ops zT fun K13 hK13 => ?_
      simp only [amset, amlib, zset, levelE_lvA, eq_self, ↓reduceIte, reduceCtorEq, Nat.reduceBEq, reduceEqDiff, reduceAdd, reduceMul, reduceLeDiff, reduceLT, reduceSub]
      refine ⟨_, holds169 x (fun _ => by omega), ?_⟩
      simp only [later]
      simp only [amset, amlib, zset, levelE_lvA, eq_self, ↓reduceIte, reduceCtorEq, Nat.reduceBEq, reduceEqDiff, reduceAdd, reduceMul, reduceLeDiff, reduceLT, reduceSub]
      refine hK13 _ ?_
      clear hK13
      refine aw_ops zT fun K14 hK14 => ?_
      refine sg ?_
      refine hK14 _ ?_
      clear hK14
      refine aw_seq fun K15 hK15 => ?_
      refine aw_ops zT fun K16 hK16 => ?_
      refine sg ?_
      refine hK16 _ ?_
      clear hK16
      refine aw_cond rfl (fun h5 => ?_) (fun h5 => ?_)
      ·
       refine aw_region zT ?_
       refine sg ?_
       refine hK15 _ ?_
       clear hK15
       refine aw_draw zT prog_mixed fun K17 hK17 => ?_
       simp only [amset, amlib, zset, hget0, hget1, sgTab_symI, hlv, eq_self, ↓reduceIte, reduceCtorEq, Nat.reduceBEq, reduceEqDiff, reduceAdd, reduceMul, reduceLeDiff, reduceLT, reduceSub]
       refine ⟨⟨by omega, by omega⟩, ?_⟩
       refine ⟨_, ihop _ (List.getElem_mem (h := by omega)) _, ?_⟩
       simp only [later]
       simp only [amset, amlib, zset, hget0, hget1, sgTab_symI, hlv, eq_self, ↓reduceIte, reduceCtorEq, Nat.reduceBEq, reduceEqDiff, reduceAdd, reduceMul, reduceLeDiff, reduceLT, reduceSub]
       refine ⟨by have := hol0 (levI x.op); have := hol0 (levI x.op + 1); have := hol1 (levI x.op + 1); have := hol0 4; omega, ?_⟩
       refine ⟨_, holds167 x.op (by omega), ?_⟩
       simp only [later]
       simp only [amset, amlib, zset, hget0, hget1, sgTab_symI, hlv, eq_self, ↓reduceIte, reduceCtorEq, Nat.reduceBEq, reduceEqDiff, reduceAdd, reduceMul, reduceLeDiff, reduceLT, reduceSub]
       refine ⟨by have := hol0 (levI x.op); have := hol0 (levI x.op + 1); have := hol1 (levI x.op + 1); have := hol0 4; omega, ?_⟩
       refine ⟨by have := hol0 (levI x.op); have := hol0 (levI x.op + 1); have := hol1 (levI x.op + 1); have := hol0 4; omega, ?_⟩
       refine ⟨⟨by omega, by omega⟩, ?_⟩
       refine ⟨⟨by omega, by omega⟩, ?_⟩
       refine ⟨_, ihop _ (List.getElem_mem (h := by omega)) _, ?_⟩
       simp only [later]
       simp only [amset, amlib, zset, hget0, hget1, sgTab_symI, hlv, eq_self, ↓reduceIte, reduceCtorEq, Nat.reduceBEq, reduceEqDiff, reduceAdd, reduceMul, reduceLeDiff, reduceLT, reduceSub]
       refine ⟨by have := hol0 (levI x.op); have := hol0 (levI x.op + 1); have := hol1 (levI x.op + 1); have := hol0 4; omega, ?_⟩
       refine ⟨by kernel_rfl, ?_⟩
       refine hK17 _ ?_
       clear hK17
       refine aw_ret ?_
       show resOf zG _ [.tmp 2] = some _
       refine sg ?_
       have h3l : levI x.op = 3 := by rw [← hlv]; simpa using h5
       rw [txA_eq x]
       simp only [(show (x.kind == 1) = false by simp [hk]), (show (x.kind == 2) = false by simp [hk]), (show (x.kind == 3) = false by simp [hk]), (show (x.kind == 4) = false by simp [hk]), (show (x.kind == 5) = false by simp [hk]), htx0, htx1, sgTab_symI, h3l, Int.reduceBEq, Int.reduceAdd, ↓reduceIte, Bool.false_eq_true, bnT, List.append_assoc, List.cons_append, List.nil_append]
      ·
       refine aw_skip ?_
       simp only [thenQ, blkQ, if_true, reduceIte, Nat.reduceEqDiff, eq_self]
       refine hK15 _ ?_
       clear hK15
       refine aw_draw zT prog_mixed fun K18 hK18 => ?_
       simp only [amset, amlib, zset, hget0, hget1, sgTab_symI, hlv, eq_self, ↓reduceIte, reduceCtorEq, Nat.reduceBEq, reduceEqDiff, reduceAdd, reduceMul, reduceLeDiff, reduceLT, reduceSub]
       refine ⟨⟨by omega, by omega⟩, ?_⟩
       refine ⟨_, ihop _ (List.getElem_mem (h := by omega)) _, ?_⟩
       simp only [later]
       simp only [amset, amlib, zset, hget0, hget1, sgTab_symI, hlv, eq_self, ↓reduceIte, reduceCtorEq, Nat.reduceBEq, reduceEqDiff, reduceAdd, reduceMul, reduceLeDiff, reduceLT, reduceSub]
       refine ⟨by have := hol0 (levI x.op); have := hol0 (levI x.op + 1); have := hol1 (levI x.op + 1); have := hol0 4; omega, ?_⟩
       refine ⟨_, holds167 x.op (by omega), ?_⟩
       simp only [later]
       simp only [amset, amlib, zset, hget0, hget1, sgTab_symI, hlv, eq_self, ↓reduceIte, reduceCtorEq, Nat.reduceBEq, reduceEqDiff, reduceAdd, reduceMul, reduceLeDiff, reduceLT, reduceSub]
       refine ⟨by have := hol0 (levI x.op); have := hol0 (levI x.op + 1); have := hol1 (levI x.op + 1); have := hol0 4; omega, ?_⟩
       refine ⟨by have := hol0 (levI x.op); have := hol0 (levI x.op + 1); have := hol1 (levI x.op + 1); have := hol0 4; omega, ?_⟩
       refine ⟨⟨by omega, by omega⟩, ?_⟩
       refine ⟨⟨by omega, by omega⟩, ?_⟩
       refine ⟨_, ihop _ (List.getElem_mem (h := by omega)) _, ?_⟩
       simp only [later]
       simp only [amset, amlib, zset, hget0, hget1, sgTab_symI, hlv, eq_self, ↓reduceIte, reduceCtorEq, Nat.reduceBEq, reduceEqDiff, reduceAdd, reduceMul, reduceLeDiff, reduceLT, reduceSub]
       refine ⟨by have := hol0 (levI x.op); have := hol0 (levI x.op + 1); have := hol1 (levI x.op + 1); have := hol0 4; omega, ?_⟩
       refine ⟨by kernel_rfl, ?_⟩
       refine hK18 _ ?_
       clear hK18
       refine aw_ret ?_
       show resOf zG _ [.tmp 2] = some _
       simp only [amset, amlib, zset, eq_self, ↓reduceIte, reduceCtorEq, Nat.reduceBEq, reduceEqDiff, reduceAdd, reduceMul, reduceLeDiff, reduceLT, reduceSub]
       rw [txA_eq x]
       simp only [(show (x.kind == 1) = false by simp [hk]), (show (x.kind == 2) = false by simp [hk]), (show (x.kind == 3) = false by simp [hk]), (show (x.kind == 4) = false by simp [hk]), (show (x.kind == 5) = false by simp [hk]), (show (levI x.op == 3) = false by rw [← hlv]; exact h5), htx0, htx1, sgTab_symI, ↓reduceIte, Bool.false_eq_true, bnT, List.append_assoc, List.cons_append, List.nil_append]
     ·
      refine aw_skip ?_
      simp only [thenQ, blkQ, if_true, reduceIte, Nat.reduceEqDiff, eq_self]
      refine hK2 _ ?_
      clear hK2
      refine aw_ops zT fun K19 hK19 => ?_
      refine sg ?_
      refine hK19 _ ?_
      clear hK19
      refine aw_ret ?_
      show resOf zG _ [.tmp 2] = some _
      refine sg ?_
      have hwf := wf_facts hx
      simp only [beq_eq_false_iff_ne] at h0 h1 h2 h3 h4
      have hk : x.kind = 2 := by omega
      rw [txA_eq x]
      simp only [hk, Int.reduceBEq, ↓reduceIte, Bool.false_eq_true]
theorem holds95 (x : Ex) (hx : wfA x = true) (hv : i16r x.value) (hw : wdL x.args) (hs : (subE x).length ≤ 1000000000000) : Holds Tryz.prog zG 95 [.agg [.int .i64 x.kind, .str x.name, .int .i16 x.value, .int .i64 x.op, .sl 6 (encEs x.args), .int .i64 x.pos]] [.c (.str (txA x))] :=
 have hwf := wf_facts hx
 have ih : ∀ y ∈ x.args, Holds Tryz.prog zG 95 [.agg [.int .i64 y.kind, .str y.name, .int .i16 y.value, .int .i64 y.op, .sl 6 (encEs y.args), .int .i64 y.pos]] [.c (.str (txA y))] := fun y hy => holds95 y (hwf.2 y hy) (wdE_eq y ▸ wdL_mem hw hy).1 (wdE_eq y ▸ wdL_mem hw hy).2 (by have := subL_mem hy; have := subE_len x; omega)
 step95 x hx hv hw hs ih fun y hy least => step168 y least (fun hk => by have := (wf_facts (hwf.2 y hy)).1; omega) (by have := txA_len y (hwf.2 y hy) (wdE_eq y ▸ wdL_mem hw hy).1 (wdE_eq y ▸ wdL_mem hw hy).2; have := subL_mem hy; have := subE_len x; omega) (ih y hy)
  termination_by SizeOf.sizeOf x
  decreasing_by exact Ex.args_lt hy
end Go.Proofs.Am
set_option maxRecDepth 100000
set_option maxHeartbeats 4000000
namespace Go.Proofs.Am
open Nat (reduceEqDiff reduceAdd reduceMul reduceLeDiff reduceLT reduceSub)
def hdR (x : St) : List UInt8 := if x.kind == 4 || x.kind == 6 || x.kind == 5 || x.kind == 10 || x.kind == 11 then hdA x else []
theorem holds91n (k : Nat) (hk : 0 < k) (hn : k ≤ 4611686018427387904) : Holds Tryz.prog zG 91 [.c (.int .i64 (-(k : Int)))] [.c (.str (45 :: numN k))] := by
 refine holds_of_body zT prog91 rfl rfl rfl (by simp [Tryz.f91]) ?_
 refine aw_ops zT fun K1 hK1 => ?_
 refine sg ?_
 refine hK1 _ ?_
 clear hK1
 refine aw_seq fun K2 hK2 => ?_
 refine aw_ops zT fun K3 hK3 => ?_
 refine sg ?_
 refine hK3 _ ?_
 clear hK3
 refine aw_cond (t := decide ((-(k : Int)) < 0)) rfl (fun h0 => ?_) (fun h0 => absurd h0 (by simp; omega))
 refine aw_ops zT fun K4 hK4 => ?_
 refine sg ?_
 have hneg : IntKind.i64.wrap (0 - -(k : Int)) = k := by rw [show (0 : Int) - -(k : Int) = k by omega]; exact wrap_id _ (by omega) (by omega)
 rw [hneg]
 refine ⟨_, holds91 k hn, ?_⟩
 refine sgl ?_
 have := numN_len k
 refine ⟨by omega, ?_⟩
 refine hK4 _ ?_
 clear hK4
 refine aw_ret ?_
 show resOf zG _ [.tmp 2] = some _
 simp only [amset, amlib, zset, eq_self, ↓reduceIte, reduceCtorEq, Nat.reduceBEq, reduceEqDiff, reduceAdd, reduceMul, reduceLeDiff, reduceLT, reduceSub]
theorem holds91i (n : Int) (h : -32768 ≤ n ∧ n ≤ 32767) : Holds Tryz.prog zG 91 [.c (.int .i64 n)] [.c (.str (Lib.itoa n))] := by
 by_cases hn : n < 0
 ·
  obtain ⟨k, rfl⟩ : ∃ k : Nat, n = -(k : Int) := ⟨n.natAbs, by omega⟩
  have := holds91n k (by omega) (by omega)
  have e : Lib.itoa (-(k : Int)) = 45 :: numN k := by
   unfold Lib.itoa
   rw [if_pos hn, numN_dec]
   simp
  rw [e]; exact this
 ·
  obtain ⟨k, rfl⟩ : ∃ k : Nat, n = (k : Int) := ⟨n.toNat, by omega⟩
  rw [← numN_itoa]
  exact holds91 k (by omega)
theorem prog231 : Tryz.prog.funcs[231]? = some Tryz.f231 := by kernel_rfl
theorem holds231 (x : St) (hg : agOK x) (ha : ∀ y ∈ x.args, wfA y = true) (hw : wdL x.args) (hs : (subL x.args).length ≤ 1000000000000) (hl : (smA x).length ≤ 1000000000000) : Holds Tryz.prog zG 231 [.agg [.int .i64 x.kind, .str x.name, .int .i64 x.n, .sl 6 (encEs x.args), .sl 7 (encSs x.body), .sl 7 (encSs x.els), .int .i64 x.pos]] [.c (.str (smA x))] := by
 refine holds_of_body zT prog231 rfl rfl rfl (by simp [Tryz.f231]) ?_
 refine aw_ops zT fun K1 hK1 => ?_
 refine sg ?_
 refine hK1 _ ?_
 clear hK1
 refine aw_seq fun K2 hK2 => ?_
 refine aw_ops zT fun K3 hK3 => ?_
 refine sg ?_
 refine hK3 _ ?_
 clear hK3
 refine aw_block ?_
 refine aw_ops zT fun K4 hK4 => ?_
 refine sg ?_
 refine hK4 _ ?_
 clear hK4
 refine aw_cond rfl (fun h0 => ?_) (fun h0 => ?_)
 ·
  have hk : x.kind = 1 := by simpa using h0
  have h1l : 1 ≤ x.args.length := hg.1 (by omega)
  have hm0 : x.args[0] ∈ x.args := List.getElem_mem _
  have hget0 : (encEs x.args).getD (Int.toNat 0) [] = encE x.args[0] := encEs_getD _ 0 (by omega)
  have htx0 : tX x 0 = txA x.args[0] := by unfold tX; rw [txL_getD x.args 0 (by omega)]
  have hq0 := subL_mem hm0
  have hl2 := hl
  simp only [smA, Bool.true_or, Bool.or_true, Bool.false_or, hk, Int.reduceBEq, Bool.false_eq_true, ↓reduceIte, List.length_append, List.length_cons, List.length_nil, htx0] at hl2
  refine aw_draw zT prog_mixed fun K5 hK5 => ?_
  simp only [amset, amlib, zset, hget0, eq_self, ↓reduceIte, reduceCtorEq, Nat.reduceBEq, reduceEqDiff, reduceAdd, reduceMul, reduceLeDiff, reduceLT, reduceSub]
  refine ⟨by omega, ?_⟩
  refine ⟨by omega, ?_⟩
  refine ⟨⟨by omega, by omega⟩, ?_⟩
  refine ⟨_, holds95 x.args[0] (ha _ hm0) (wdE_eq x.args[0] ▸ wdL_mem hw hm0).1 (wdE_eq x.args[0] ▸ wdL_mem hw hm0).2 (by omega), ?_⟩
  simp only [later]
  simp only [amset, amlib, zset, hget0, eq_self, ↓reduceIte, reduceCtorEq, Nat.reduceBEq, reduceEqDiff, reduceAdd, reduceMul, reduceLeDiff, reduceLT, reduceSub]
  refine ⟨by omega, ?_⟩
  refine ⟨by omega, ?_⟩
  refine ⟨by kernel_rfl, ?_⟩
  refine hK5 _ ?_
  clear hK5
  refine aw_ret ?_
  show resOf zG _ [.tmp 2] = some _
  refine sg ?_
  have hk : x.kind = 1 := by simpa using h0
  simp only [smA, hk, Int.reduceBEq, bools, ↓reduceIte, htx0, List.append_assoc, List.cons_append, List.nil_append]
 ·
  refine aw_ops zT fun K6 hK6 => ?_
  refine sg ?_
  refine hK6 _ ?_
  clear hK6
  refine aw_cond rfl (fun h1 => ?_) (fun h1 => ?_)
  ·
   have hk : x.kind = 2 := by simpa using h1
   have h1l : 1 ≤ x.args.length := hg.1 (by omega)
   have hm0 : x.args[0] ∈ x.args := List.getElem_mem _
   have hget0 : (encEs x.args).getD (Int.toNat 0) [] = encE x.args[0] := encEs_getD _ 0 (by omega)
   have htx0 : tX x 0 = txA x.args[0] := by unfold tX; rw [txL_getD x.args 0 (by omega)]
   have hq0 := subL_mem hm0
   have hl2 := hl
   simp only [smA, Bool.true_or, Bool.or_true, Bool.false_or, hk, Int.reduceBEq, Bool.false_eq_true, ↓reduceIte, List.length_append, List.length_cons, List.length_nil, htx0] at hl2
   refine aw_draw zT prog_mixed fun K7 hK7 => ?_
   simp only [amset, amlib, zset, hget0, eq_self, ↓reduceIte, reduceCtorEq, Nat.reduceBEq, reduceEqDiff, reduceAdd, reduceMul, reduceLeDiff, reduceLT, reduceSub]
   refine ⟨by omega, ?_⟩
   refine ⟨⟨by omega, by omega⟩, ?_⟩
   refine ⟨_, holds95 x.args[0] (ha _ hm0) (wdE_eq x.args[0] ▸ wdL_mem hw hm0).1 (wdE_eq x.args[0] ▸ wdL_mem hw hm0).2 (by omega), ?_⟩
   simp only [later]
   simp only [amset, amlib, zset, hget0, eq_self, ↓reduceIte, reduceCtorEq, Nat.reduceBEq, reduceEqDiff, reduceAdd, reduceMul, reduceLeDiff, reduceLT, reduceSub]
   refine ⟨by omega, ?_⟩
   refine ⟨by omega, ?_⟩
   refine ⟨by kernel_rfl, ?_⟩
   refine hK7 _ ?_
   clear hK7
   refine aw_ret ?_
   show resOf zG _ [.tmp 2] = some _
   refine sg ?_
   have hk : x.kind = 2 := by simpa using h1
   simp only [smA, hk, Int.reduceBEq, bools, ↓reduceIte, htx0, List.append_assoc, List.cons_append, List.nil_append]
  ·
   refine aw_ops zT fun K8 hK8 => ?_
   refine sg ?_
   refine hK8 _ ?_
   clear hK8
   refine aw_cond rfl (fun h2 => ?_) (fun h2 => ?_)
   ·
    have hk : x.kind = 3 := by simpa using h2
    have h2l : 2 ≤ x.args.length := hg.2 hk
    have hm0 : x.args[0] ∈ x.args := List.getElem_mem _
    have hget0 : (encEs x.args).getD (Int.toNat 0) [] = encE x.args[0] := encEs_getD _ 0 (by omega)
    have htx0 : tX x 0 = txA x.args[0] := by unfold tX; rw [txL_getD x.args 0 (by omega)]
    have hq0 := subL_mem hm0
    have hm1 : x.args[1] ∈ x.args := List.getElem_mem _
    have hget1 : (encEs x.args).getD (Int.toNat 1) [] = encE x.args[1] := encEs_getD _ 1 (by omega)
    have htx1 : tX x 1 = txA x.args[1] := by unfold tX; rw [txL_getD x.args 1 (by omega)]
    have hq1 := subL_mem hm1
    have hl2 := hl
    simp only [smA, Bool.true_or, Bool.or_true, Bool.false_or, hk, Int.reduceBEq, Bool.false_eq_true, ↓reduceIte, List.length_append, List.length_cons, List.length_nil, htx0, htx1] at hl2
    refine aw_draw zT prog_mixed fun K9 hK9 => ?_
    simp only [amset, amlib, zset, hget0, hget1, eq_self, ↓reduceIte, reduceCtorEq, Nat.reduceBEq, reduceEqDiff, reduceAdd, reduceMul, reduceLeDiff, reduceLT, reduceSub]
    refine ⟨by omega, ?_⟩
    refine ⟨⟨by omega, by omega⟩, ?_⟩
    refine ⟨_, holds95 x.args[0] (ha _ hm0) (wdE_eq x.args[0] ▸ wdL_mem hw hm0).1 (wdE_eq x.args[0] ▸ wdL_mem hw hm0).2 (by omega), ?_⟩
    simp only [later]
    simp only [amset, amlib, zset, hget0, hget1, eq_self, ↓reduceIte, reduceCtorEq, Nat.reduceBEq, reduceEqDiff, reduceAdd, reduceMul, reduceLeDiff, reduceLT, reduceSub]
    refine ⟨by omega, ?_⟩
    refine ⟨by omega, ?_⟩
    refine ⟨⟨by omega, by omega⟩, ?_⟩
    refine ⟨_, holds95 x.args[1] (ha _ hm1) (wdE_eq x.args[1] ▸ wdL_mem hw hm1).1 (wdE_eq x.args[1] ▸ wdL_mem hw hm1).2 (by omega), ?_⟩
    simp only [later]
    simp only [amset, amlib, zset, hget0, hget1, eq_self, ↓reduceIte, reduceCtorEq, Nat.reduceBEq, reduceEqDiff, reduceAdd, reduceMul, reduceLeDiff, reduceLT, reduceSub]
    refine ⟨by omega, ?_⟩
    refine ⟨by omega, ?_⟩
    refine ⟨by kernel_rfl, ?_⟩
    refine hK9 _ ?_
    clear hK9
    refine aw_ret ?_
    show resOf zG _ [.tmp 2] = some _
    refine sg ?_
    have hk : x.kind = 3 := by simpa using h2
    simp only [smA, hk, Int.reduceBEq, bools, ↓reduceIte, htx0, htx1, List.append_assoc, List.cons_append, List.nil_append]
   ·
    refine aw_ops zT fun K10 hK10 => ?_
    refine sg ?_
    refine hK10 _ ?_
    clear hK10
    refine aw_cond rfl (fun h3 => ?_) (fun h3 => ?_)
    ·
     have hk : x.kind = 7 := by simpa using h3
     have h1l : 1 ≤ x.args.length := hg.1 (by omega)
     have hm0 : x.args[0] ∈ x.args := List.getElem_mem _
     have hget0 : (encEs x.args).getD (Int.toNat 0) [] = encE x.args[0] := encEs_getD _ 0 (by omega)
     have htx0 : tX x 0 = txA x.args[0] := by unfold tX; rw [txL_getD x.args 0 (by omega)]
     have hq0 := subL_mem hm0
     have hl2 := hl
     simp only [smA, Bool.true_or, Bool.or_true, Bool.false_or, hk, Int.reduceBEq, Bool.false_eq_true, ↓reduceIte, List.length_append, List.length_cons, List.length_nil, htx0] at hl2
     refine aw_draw zT prog_mixed fun K11 hK11 => ?_
     simp only [amset, amlib, zset, hget0, eq_self, ↓reduceIte, reduceCtorEq, Nat.reduceBEq, reduceEqDiff, reduceAdd, reduceMul, reduceLeDiff, reduceLT, reduceSub]
     refine ⟨by omega, ?_⟩
     refine ⟨by omega, ?_⟩
     refine ⟨⟨by omega, by omega⟩, ?_⟩
     refine ⟨_, holds95 x.args[0] (ha _ hm0) (wdE_eq x.args[0] ▸ wdL_mem hw hm0).1 (wdE_eq x.args[0] ▸ wdL_mem hw hm0).2 (by omega), ?_⟩
     simp only [later]
     simp only [amset, amlib, zset, hget0, eq_self, ↓reduceIte, reduceCtorEq, Nat.reduceBEq, reduceEqDiff, reduceAdd, reduceMul, reduceLeDiff, reduceLT, reduceSub]
     refine ⟨by omega, ?_⟩
     refine ⟨by omega, ?_⟩
     refine ⟨by kernel_rfl, ?_⟩
     refine hK11 _ ?_
     clear hK11
     refine aw_ret ?_
     show resOf zG _ [.tmp 2] = some _
     refine sg ?_
     have hk : x.kind = 7 := by simpa using h3
     simp only [smA, hk, Int.reduceBEq, bools, ↓reduceIte, htx0, List.append_assoc, List.cons_append, List.nil_append]
    ·
     refine aw_ops zT fun K12 hK12 => ?_
     refine sg ?_
     refine hK12 _ ?_
     clear hK12
     refine aw_cond rfl (fun h4 => ?_) (fun h4 => ?_)
     ·
      have hk : x.kind = 9 := by simpa using h4
      have h1l : 1 ≤ x.args.length := hg.1 (by omega)
      have hm0 : x.args[0] ∈ x.args := List.getElem_mem _
      have hget0 : (encEs x.args).getD (Int.toNat 0) [] = encE x.args[0] := encEs_getD _ 0 (by omega)
      have htx0 : tX x 0 = txA x.args[0] := by unfold tX; rw [txL_getD x.args 0 (by omega)]
      have hq0 := subL_mem hm0
      have hl2 := hl
      simp only [smA, Bool.true_or, Bool.or_true, Bool.false_or, hk, Int.reduceBEq, Bool.false_eq_true, ↓reduceIte, List.length_append, List.length_cons, List.length_nil, htx0] at hl2
      refine aw_draw zT prog_mixed fun K13 hK13 => ?_
      simp only [amset, amlib, zset, hget0, eq_self, ↓reduceIte, reduceCtorEq, Nat.reduceBEq, reduceEqDiff, reduceAdd, reduceMul, reduceLeDiff, reduceLT, reduceSub]
      refine ⟨by omega, ?_⟩
      refine ⟨by omega, ?_⟩
      refine ⟨⟨by omega, by omega⟩, ?_⟩
      refine ⟨_, holds95 x.args[0] (ha _ hm0) (wdE_eq x.args[0] ▸ wdL_mem hw hm0).1 (wdE_eq x.args[0] ▸ wdL_mem hw hm0).2 (by omega), ?_⟩
      simp only [later]
      simp only [amset, amlib, zset, hget0, eq_self, ↓reduceIte, reduceCtorEq, Nat.reduceBEq, reduceEqDiff, reduceAdd, reduceMul, reduceLeDiff, reduceLT, reduceSub]
      refine ⟨by omega, ?_⟩
      refine ⟨by omega, ?_⟩
      refine ⟨by kernel_rfl, ?_⟩
      refine hK13 _ ?_
      clear hK13
      refine aw_ret ?_
      show resOf zG _ [.tmp 2] = some _
      refine sg ?_
      have hk : x.kind = 9 := by simpa using h4
      simp only [smA, hk, Int.reduceBEq, bools, ↓reduceIte, htx0, List.append_assoc, List.cons_append, List.nil_append]
     ·
      refine aw_ops zT fun K14 hK14 => ?_
      refine sg ?_
      refine hK14 _ ?_
      clear hK14
      refine aw_cond rfl (fun h5 => ?_) (fun h5 => ?_)
      ·
       have hk : x.kind = 8 := by simpa using h5
       have h1l : 1 ≤ x.args.length := hg.1 (by omega)
       have hm0 : x.args[0] ∈ x.args := List.getElem_mem _
       have hget0 : (encEs x.args).getD (Int.toNat 0) [] = encE x.args[0] := encEs_getD _ 0 (by omega)
       have htx0 : tX x 0 = txA x.args[0] := by unfold tX; rw [txL_getD x.args 0 (by omega)]
       have hq0 := subL_mem hm0
       have hl2 := hl
       simp only [smA, Bool.true_or, Bool.or_true, Bool.false_or, hk, Int.reduceBEq, Bool.false_eq_true, ↓reduceIte, List.length_append, List.length_cons, List.length_nil, htx0] at hl2
       refine aw_ops zT fun K15 hK15 => ?_
       simp only [amset, amlib, zset, hget0, eq_self, ↓reduceIte, reduceCtorEq, Nat.reduceBEq, reduceEqDiff, reduceAdd, reduceMul, reduceLeDiff, reduceLT, reduceSub]
       refine ⟨⟨by omega, by omega⟩, ?_⟩
       refine ⟨_, holds95 x.args[0] (ha _ hm0) (wdE_eq x.args[0] ▸ wdL_mem hw hm0).1 (wdE_eq x.args[0] ▸ wdL_mem hw hm0).2 (by omega), ?_⟩
       simp only [later]
       simp only [amset, amlib, zset, hget0, eq_self, ↓reduceIte, reduceCtorEq, Nat.reduceBEq, reduceEqDiff, reduceAdd, reduceMul, reduceLeDiff, reduceLT, reduceSub]
       refine ⟨by omega, ?_⟩
       refine ⟨by omega, ?_⟩
       refine hK15 _ ?_
       clear hK15
       refine aw_ret ?_
       show resOf zG _ [.tmp 2] = some _
       refine sg ?_
       have hk : x.kind = 8 := by simpa using h5
       simp only [smA, hk, Int.reduceBEq, bools, ↓reduceIte, htx0, List.append_assoc, List.cons_append, List.nil_append]
      ·
       refine aw_ops zT fun K16 hK16 => ?_
       refine sg ?_
       refine hK16 _ ?_
       clear hK16
       refine aw_cond rfl (fun h6 => ?_) (fun h6 => ?_)
       ·
        refine aw_ops zT fun K17 hK17 => ?_
        refine sg ?_
        refine hK17 _ ?_
        clear hK17
        refine aw_ret ?_
        show resOf zG _ [.tmp 2] = some _
        refine sg ?_
        have hk : x.kind = 12 := by simpa using h6
        simp only [smA, hk, Int.reduceBEq, bools, ↓reduceIte, List.append_assoc, List.cons_append, List.nil_append]
       ·
        refine aw_skip ?_
        simp only [thenQ, blkQ, if_true, reduceIte, Nat.reduceEqDiff, eq_self]
        refine hK2 _ ?_
        clear hK2
        refine aw_ops zT fun K18 hK18 => ?_
        refine sg ?_
        refine hK18 _ ?_
        clear hK18
        refine aw_ret ?_
        show resOf zG _ [.tmp 2] = some _
        simp only [amset, amlib, zset, eq_self, ↓reduceIte, reduceCtorEq, Nat.reduceBEq, reduceEqDiff, reduceAdd, reduceMul, reduceLeDiff, reduceLT, reduceSub]
        simp only [smA, h0, h1, h2, h3, h4, h5, h6, bools, ↓reduceIte]
theorem prog230 : Tryz.prog.funcs[230]? = some Tryz.f230 := by kernel_rfl
theorem holds230 (x : St) (hg : agOK x) (ha : ∀ y ∈ x.args, wfA y = true) (hw : wdL x.args) (hs : (subL x.args).length ≤ 1000000000000) (hn : 0 ≤ x.n ∧ x.n ≤ 32767) (hl : (hdR x).length ≤ 1000000000000) : Holds Tryz.prog zG 230 [.agg [.int .i64 x.kind, .str x.name, .int .i64 x.n, .sl 6 (encEs x.args), .sl 7 (encSs x.body), .sl 7 (encSs x.els), .int .i64 x.pos]] [.c (.str (hdR x))] := by
 refine holds_of_body zT prog230 rfl rfl rfl (by simp [Tryz.f230]) ?_
 refine aw_ops zT fun K1 hK1 => ?_
 refine sg ?_
 refine hK1 _ ?_
 clear hK1
 refine aw_seq fun K2 hK2 => ?_
 refine aw_ops zT fun K3 hK3 => ?_
 refine sg ?_
 refine hK3 _ ?_
 clear hK3
 refine aw_block ?_
 refine aw_ops zT fun K4 hK4 => ?_
 refine sg ?_
 refine hK4 _ ?_
 clear hK4
 refine aw_cond rfl (fun h0 => ?_) (fun h0 => ?_)
 ·
  have hk : x.kind = 4 := by simpa using h0
  have h1l : 1 ≤ x.args.length := hg.1 (by omega)
  have hm0 : x.args[0] ∈ x.args := List.getElem_mem _
  have hget0 : (encEs x.args).getD (Int.toNat 0) [] = encE x.args[0] := encEs_getD _ 0 (by omega)
  have htx0 : tX x 0 = txA x.args[0] := by unfold tX; rw [txL_getD x.args 0 (by omega)]
  have hq0 := subL_mem hm0
  have hl2 := hl
  simp only [hdR, hdA, Bool.true_or, Bool.or_true, Bool.false_or, hk, Int.reduceBEq, Bool.false_eq_true, ↓reduceIte, List.length_append, List.length_cons, List.length_nil, htx0] at hl2
  refine aw_ops zT fun K5 hK5 => ?_
  simp only [amset, amlib, zset, hget0, eq_self, ↓reduceIte, reduceCtorEq, Nat.reduceBEq, reduceEqDiff, reduceAdd, reduceMul, reduceLeDiff, reduceLT, reduceSub]
  refine ⟨⟨by omega, by omega⟩, ?_⟩
  refine ⟨_, holds95 x.args[0] (ha _ hm0) (wdE_eq x.args[0] ▸ wdL_mem hw hm0).1 (wdE_eq x.args[0] ▸ wdL_mem hw hm0).2 (by omega), ?_⟩
  simp only [later]
  simp only [amset, amlib, zset, hget0, eq_self, ↓reduceIte, reduceCtorEq, Nat.reduceBEq, reduceEqDiff, reduceAdd, reduceMul, reduceLeDiff, reduceLT, reduceSub]
  refine ⟨by omega, ?_⟩
  refine ⟨by omega, ?_⟩
  refine hK5 _ ?_
  clear hK5
  refine aw_ret ?_
  show resOf zG _ [.tmp 2] = some _
  refine sg ?_
  have hk : x.kind = 4 := by simpa using h0
  simp only [hdR, hdA, hk, Int.reduceBEq, bools, ↓reduceIte, htx0, List.append_assoc, List.cons_append, List.nil_append]
 ·
  refine aw_ops zT fun K6 hK6 => ?_
  refine sg ?_
  refine hK6 _ ?_
  clear hK6
  refine aw_cond rfl (fun h1 => ?_) (fun h1 => ?_)
  ·
   have hk : x.kind = 6 := by simpa using h1
   have h1l : 1 ≤ x.args.length := hg.1 (by omega)
   have hm0 : x.args[0] ∈ x.args := List.getElem_mem _
   have hget0 : (encEs x.args).getD (Int.toNat 0) [] = encE x.args[0] := encEs_getD _ 0 (by omega)
   have htx0 : tX x 0 = txA x.args[0] := by unfold tX; rw [txL_getD x.args 0 (by omega)]
   have hq0 := subL_mem hm0
   have hl2 := hl
   simp only [hdR, hdA, Bool.true_or, Bool.or_true, Bool.false_or, hk, Int.reduceBEq, Bool.false_eq_true, ↓reduceIte, List.length_append, List.length_cons, List.length_nil, htx0] at hl2
   refine aw_ops zT fun K7 hK7 => ?_
   simp only [amset, amlib, zset, hget0, eq_self, ↓reduceIte, reduceCtorEq, Nat.reduceBEq, reduceEqDiff, reduceAdd, reduceMul, reduceLeDiff, reduceLT, reduceSub]
   refine ⟨⟨by omega, by omega⟩, ?_⟩
   refine ⟨_, holds95 x.args[0] (ha _ hm0) (wdE_eq x.args[0] ▸ wdL_mem hw hm0).1 (wdE_eq x.args[0] ▸ wdL_mem hw hm0).2 (by omega), ?_⟩
   simp only [later]
   simp only [amset, amlib, zset, hget0, eq_self, ↓reduceIte, reduceCtorEq, Nat.reduceBEq, reduceEqDiff, reduceAdd, reduceMul, reduceLeDiff, reduceLT, reduceSub]
   refine ⟨by omega, ?_⟩
   refine ⟨by omega, ?_⟩
   refine hK7 _ ?_
   clear hK7
   refine aw_ret ?_
   show resOf zG _ [.tmp 2] = some _
   refine sg ?_
   have hk : x.kind = 6 := by simpa using h1
   simp only [hdR, hdA, hk, Int.reduceBEq, bools, ↓reduceIte, htx0, List.append_assoc, List.cons_append, List.nil_append]
  ·
   refine aw_ops zT fun K8 hK8 => ?_
   refine sg ?_
   refine hK8 _ ?_
   clear hK8
   refine aw_cond rfl (fun h2 => ?_) (fun h2 => ?_)
   ·
    have hi := i64_itoa x.n hn
    refine aw_ops zT fun K9 hK9 => ?_
    refine sg ?_
    refine ⟨_, holds91i x.n (by omega), ?_⟩
    refine sgl ?_
    refine ⟨by omega, ?_⟩
    refine ⟨by omega, ?_⟩
    refine hK9 _ ?_
    clear hK9
    refine aw_ret ?_
    show resOf zG _ [.tmp 2] = some _
    refine sg ?_
    have hk : x.kind = 5 := by simpa using h2
    simp only [hdR, hdA, hk, Int.reduceBEq, bools, ↓reduceIte, List.append_assoc, List.cons_append, List.nil_append]
   ·
    refine aw_ops zT fun K10 hK10 => ?_
    refine sg ?_
    refine hK10 _ ?_
    clear hK10
    refine aw_cond rfl (fun h3 => ?_) (fun h3 => ?_)
    ·
     have hi := i64_itoa x.n hn
     refine aw_ops zT fun K11 hK11 => ?_
     refine sg ?_
     refine ⟨_, holds91i x.n (by omega), ?_⟩
     refine sgl ?_
     refine ⟨by omega, ?_⟩
     refine ⟨by omega, ?_⟩
     refine hK11 _ ?_
     clear hK11
     refine aw_ret ?_
     show resOf zG _ [.tmp 2] = some _
     refine sg ?_
     have hk : x.kind = 10 := by simpa using h3
     simp only [hdR, hdA, hk, Int.reduceBEq, bools, ↓reduceIte, List.append_assoc, List.cons_append, List.nil_append]
    ·
     refine aw_ops zT fun K12 hK12 => ?_
     refine sg ?_
     refine hK12 _ ?_
     clear hK12
     refine aw_cond rfl (fun h4 => ?_) (fun h4 => ?_)
     ·
      have hi := i64_itoa x.n hn
      refine aw_ops zT fun K13 hK13 => ?_
      refine sg ?_
      refine ⟨_, holds91i x.n (by omega), ?_⟩
      refine sgl ?_
      refine ⟨by omega, ?_⟩
      refine ⟨by omega, ?_⟩
      refine hK13 _ ?_
      clear hK13
      refine aw_ret ?_
      show resOf zG _ [.tmp 2] = some _
      refine sg ?_
      have hk : x.kind = 11 := by simpa using h4
      simp only [hdR, hdA, hk, Int.reduceBEq, bools, ↓reduceIte, List.append_assoc, List.cons_append, List.nil_append]
     ·
      refine aw_skip ?_
      simp only [thenQ, blkQ, if_true, reduceIte, Nat.reduceEqDiff, eq_self]
      refine hK2 _ ?_
      clear hK2
      refine aw_ops zT fun K14 hK14 => ?_
      refine sg ?_
      refine hK14 _ ?_
      clear hK14
      refine aw_ret ?_
      show resOf zG _ [.tmp 2] = some _
      simp only [amset, amlib, zset, eq_self, ↓reduceIte, reduceCtorEq, Nat.reduceBEq, reduceEqDiff, reduceAdd, reduceMul, reduceLeDiff, reduceLT, reduceSub]
      simp only [hdR, h0, h1, h2, h3, h4, bools, ↓reduceIte]
theorem prog161 : Tryz.prog.funcs[161]? = some Tryz.f161 := by kernel_rfl
theorem holds161 (w : List UInt8) (n : Int) (hn : 0 ≤ n ∧ n ≤ 32767) (hw : w.length ≤ 100) : Holds Tryz.prog zG 161 [.c (.str w), .c (.int .i64 n)] [.c (.str (optA w n))] := by
 refine holds_of_body zT prog161 rfl rfl rfl (by simp [Tryz.f161]) ?_
 refine aw_ops zT fun K1 hK1 => ?_
 refine sg ?_
 refine hK1 _ ?_
 clear hK1
 refine aw_seq fun K2 hK2 => ?_
 refine aw_ops zT fun K3 hK3 => ?_
 refine sg ?_
 refine hK3 _ ?_
 clear hK3
 refine aw_cond rfl (fun h0 => ?_) (fun h0 => ?_)
 ·
  refine aw_ops zT fun K4 hK4 => ?_
  refine sg ?_
  refine hK4 _ ?_
  clear hK4
  refine aw_ret ?_
  show resOf zG _ [.tmp 4] = some _
  simp only [amset, amlib, zset, eq_self, ↓reduceIte, reduceCtorEq, Nat.reduceBEq, reduceEqDiff, reduceAdd, reduceMul, reduceLeDiff, reduceLT, reduceSub]
  simp only [optA, h0, Bool.false_eq_true, ↓reduceIte, List.append_assoc, List.cons_append, List.nil_append]
 ·
  refine aw_skip ?_
  simp only [thenQ, blkQ, if_true, reduceIte, Nat.reduceEqDiff, eq_self]
  refine hK2 _ ?_
  clear hK2
  have hi := i64_itoa n hn
  refine aw_ops zT fun K5 hK5 => ?_
  refine sg ?_
  refine ⟨by omega, ?_⟩
  refine ⟨by omega, ?_⟩
  refine ⟨_, holds91i n (by omega), ?_⟩
  refine sgl ?_
  refine ⟨by omega, ?_⟩
  refine hK5 _ ?_
  clear hK5
  refine aw_ret ?_
  show resOf zG _ [.tmp 4] = some _
  simp only [amset, amlib, zset, eq_self, ↓reduceIte, reduceCtorEq, Nat.reduceBEq, reduceEqDiff, reduceAdd, reduceMul, reduceLeDiff, reduceLT, reduceSub]
  simp only [optA, h0, Bool.false_eq_true, ↓reduceIte, List.append_assoc, List.cons_append, List.nil_append]
end Go.Proofs.Am
set_option maxRecDepth 100000
set_option maxHeartbeats 4000000
namespace Go.Proofs.Am
open Nat (reduceEqDiff reduceAdd reduceMul reduceLeDiff reduceLT reduceSub)
theorem hdR_nil (x : St) (hk : 1 ≤ x.kind ∧ x.kind ≤ 13) : (hdR x == []) = !sB x.kind := by
 have hc : x.kind = 1 ∨ x.kind = 2 ∨ x.kind = 3 ∨ x.kind = 4 ∨ x.kind = 5 ∨ x.kind = 6 ∨ x.kind = 7 ∨ x.kind = 8 ∨ x.kind = 9 ∨ x.kind = 10 ∨ x.kind = 11 ∨ x.kind = 12 ∨ x.kind = 13 := by omega
 rcases hc with e | e | e | e | e | e | e | e | e | e | e | e | e <;> simp [hdR, hdA, e, sB, stR, stTab]
theorem hdR_hdA (x : St) (hk : 1 ≤ x.kind ∧ x.kind ≤ 13) (h : sB x.kind = true) : hdR x = hdA x := by
 have hc : x.kind = 1 ∨ x.kind = 2 ∨ x.kind = 3 ∨ x.kind = 4 ∨ x.kind = 5 ∨ x.kind = 6 ∨ x.kind = 7 ∨ x.kind = 8 ∨ x.kind = 9 ∨ x.kind = 10 ∨ x.kind = 11 ∨ x.kind = 12 ∨ x.kind = 13 := by omega
 rcases hc with e | e | e | e | e | e | e | e | e | e | e | e | e <;> simp [hdR, e, sB, stR, stTab] at h ⊢
theorem prog202 : Tryz.prog.funcs[202]? = some Tryz.f202 := by kernel_rfl
theorem step202 (x : St) (i : List UInt8) (hok : ∀ z ∈ stmS x, okSt z) (hd : i.length + 4 * depS x ≤ 1000000000000) (hl : (lnA x i).length ≤ 1000000000000) (hh0 : (hdR x).length ≤ 1000000000000) (ih : ∀ (m : List St), SizeOf.sizeOf m < SizeOf.sizeOf x → ∀ i, (∀ z ∈ stmL m, okSt z) → i.length + 4 * depM m ≤ 1000000000000 → (lnsA m i).length ≤ 1000000000000 → Holds Tryz.prog zG 162 [.c (.sl 7 (encSs m)), .c (.str i)] [.c (.str (lnsA m i))]) (ihs : ∀ y, SizeOf.sizeOf y < SizeOf.sizeOf x → ∀ i, (∀ z ∈ stmS y, okSt z) → i.length + 4 * depS y ≤ 1000000000000 → (lnA y i).length ≤ 1000000000000 → Holds Tryz.prog zG 202 [.agg [.int .i64 y.kind, .str y.name, .int .i64 y.n, .sl 6 (encEs y.args), .sl 7 (encSs y.body), .sl 7 (encSs y.els), .int .i64 y.pos], .c (.str i)] [.c (.str (lnA y i))]) : Holds Tryz.prog zG 202 [.agg [.int .i64 x.kind, .str x.name, .int .i64 x.n, .sl 6 (encEs x.args), .sl 7 (encSs x.body), .sl 7 (encSs x.els), .int .i64 x.pos], .c (.str i)] [.c (.str (lnA x i))] := by
 refine holds_of_body zT prog202 rfl rfl rfl (by simp [Tryz.f202]) ?_
 have hx := hok x stm_self
 obtain ⟨hk, hg, ha, hw, hsz, hn⟩ := hx
 have hdx := depS_eq x
 rw [hdx] at hd
 rw [lnA_eq] at hl
 have hnil := hdR_nil x hk
 refine aw_ops zT fun K1 hK1 => ?_
 refine sg ?_
 refine hK1 _ ?_
 clear hK1
 refine aw_ops zT fun K2 hK2 => ?_
 refine sg ?_
 refine ⟨_, holds230 x hg ha hw hsz hn hh0, ?_⟩
 refine sgl ?_
 refine hK2 _ ?_
 clear hK2
 refine aw_seq fun K3 hK3 => ?_
 refine aw_ops zT fun K4 hK4 => ?_
 simp only [amset, amlib, zset, hnil, eq_self, ↓reduceIte, reduceCtorEq, Nat.reduceBEq, reduceEqDiff, reduceAdd, reduceMul, reduceLeDiff, reduceLT, reduceSub]
 refine hK4 _ ?_
 clear hK4
 refine aw_cond rfl (fun h0 => ?_) (fun h0 => ?_)
 ·
  have hB : sB x.kind = false := by simpa using h0
  simp only [hB, Bool.false_eq_true, ↓reduceIte, List.length_append, List.length_cons, List.length_nil] at hl
  refine aw_ops zT fun K5 hK5 => ?_
  refine sg ?_
  refine ⟨_, holds231 x hg ha hw hsz (by omega), ?_⟩
  refine sgl ?_
  refine ⟨by omega, ?_⟩
  refine hK5 _ ?_
  clear hK5
  refine aw_ret ?_
  show resOf zG _ [.tmp 4] = some _
  simp only [amset, amlib, zset, eq_self, ↓reduceIte, reduceCtorEq, Nat.reduceBEq, reduceEqDiff, reduceAdd, reduceMul, reduceLeDiff, reduceLT, reduceSub]
  rw [lnA_eq x i]
  simp only [hB, bools, ↓reduceIte, List.append_assoc, List.cons_append, List.nil_append]
 ·
  refine aw_skip ?_
  simp only [thenQ, blkQ, if_true, reduceIte, Nat.reduceEqDiff, eq_self]
  refine hK3 _ ?_
  clear hK3
  have hB : sB x.kind = true := by simpa using h0
  simp only [hB, ↓reduceIte, List.length_append, List.length_cons, List.length_nil] at hl
  have hr := hdR_hdA x hk hB
  refine aw_ops zT fun K6 hK6 => ?_
  simp only [amset, amlib, zset, hr, eq_self, ↓reduceIte, reduceCtorEq, Nat.reduceBEq, reduceEqDiff, reduceAdd, reduceMul, reduceLeDiff, reduceLT, reduceSub]
  refine ⟨by omega, ?_⟩
  refine ⟨by omega, ?_⟩
  refine ⟨_, ih x.body (szb x) _ (fun z hz => hok z (stm_body hz)) (by (try simp only [List.length_append, List.length_cons, List.length_nil]); omega) (by (try simp only [List.length_append, List.length_cons, List.length_nil]); omega), ?_⟩
  simp only [later]
  simp only [amset, amlib, zset, hr, eq_self, ↓reduceIte, reduceCtorEq, Nat.reduceBEq, reduceEqDiff, reduceAdd, reduceMul, reduceLeDiff, reduceLT, reduceSub]
  refine ⟨by (try simp only [List.length_append, List.length_cons, List.length_nil]); omega, ?_⟩
  refine ⟨by (try simp only [List.length_append, List.length_cons, List.length_nil]); omega, ?_⟩
  refine hK6 _ ?_
  clear hK6
  refine aw_seq fun K7 hK7 => ?_
  refine aw_ops zT fun K8 hK8 => ?_
  refine sg ?_
  intros
  refine hK8 _ ?_
  clear hK8
  refine aw_cond rfl (fun h1 => ?_) (fun h1 => ?_)
  ·
   have hz : (x.els.length : Int) = 0 := by simpa only [beq_iff_eq] using h1
   have e0 : ((x.els.length : Int) == 1) = false := by rw [hz]; rfl
   have hpos : decide ((x.els.length : Int) > 0) = false := by rw [hz]; rfl
   simp only [elif_if, e0, hpos, bools, ↓reduceIte, List.length_append, List.length_cons, List.length_nil] at hl
   refine aw_ops zT fun K9 hK9 => ?_
   refine sg ?_
   refine ⟨by (try simp only [List.length_append, List.length_cons, List.length_nil]); omega, ?_⟩
   refine hK9 _ ?_
   clear hK9
   refine aw_ret ?_
   show resOf zG _ [.tmp 4] = some _
   simp only [amset, amlib, zset, eq_self, ↓reduceIte, reduceCtorEq, Nat.reduceBEq, reduceEqDiff, reduceAdd, reduceMul, reduceLeDiff, reduceLT, reduceSub]
   rw [lnA_eq x i]
   simp only [hB, elif_if, e0, hpos, bools, ↓reduceIte, List.append_assoc, List.cons_append, List.nil_append]
  ·
   refine aw_skip ?_
   simp only [thenQ, blkQ, if_true, reduceIte, Nat.reduceEqDiff, eq_self]
   refine hK7 _ ?_
   clear hK7
   refine aw_seq fun K10 hK10 => ?_
   refine aw_ops zT fun K11 hK11 => ?_
   cases e0 : ((x.els.length : Int) == 1) with
   | true =>
    cases e1 : ((hd1 x.els).kind == 4) with
    | true =>
     simp only [amset, amlib, zset, e0, e1, h0, h1, getD_hd1, eq_self, ↓reduceIte, reduceCtorEq, Nat.reduceBEq, reduceEqDiff, reduceAdd, reduceMul, reduceLeDiff, reduceLT, reduceSub]
     intros
     refine ⟨⟨by omega, by simp at e0; omega⟩, ?_⟩
     refine hK11 _ ?_
     clear hK11
     refine aw_cond (t := true) rfl (fun _ => ?_) (fun h => nomatch h)
     have hpos : decide ((x.els.length : Int) > 0) = true := by have : ¬ ((x.els.length : Int) = 0) := by { simpa only [beq_eq_false_iff_ne, ne_eq] using h1 }; rw [decide_eq_true_eq]; omega
     simp only [elif_if, e0, e1, h0, h1, bools, ↓reduceIte, List.length_append, List.length_cons, List.length_nil] at hl
     rw [ln1_hd1 e0] at hl
     refine aw_ops zT fun K12 hK12 => ?_
     simp only [amset, amlib, zset, e0, e1, h0, h1, getD_hd1, eq_self, ↓reduceIte, reduceCtorEq, Nat.reduceBEq, reduceEqDiff, reduceAdd, reduceMul, reduceLeDiff, reduceLT, reduceSub]
     refine ⟨by (try simp only [List.length_append, List.length_cons, List.length_nil]); omega, ?_⟩
     refine ⟨⟨by omega, by simp at e0; omega⟩, ?_⟩
     refine ⟨_, ihs (hd1 x.els) (Nat.lt_trans (List.sizeOf_lt_of_mem (hd1_mem e0)) (sze x)) _ (fun z hz => hok z (stm_els (stm_mem (hd1_mem e0) hz))) (by have := depM_mem (hd1_mem e0); omega) (by (try simp only [List.length_append, List.length_cons, List.length_nil]); omega), ?_⟩
     simp only [later]
     simp only [amset, amlib, zset, e0, e1, h0, h1, getD_hd1, eq_self, ↓reduceIte, reduceCtorEq, Nat.reduceBEq, reduceEqDiff, reduceAdd, reduceMul, reduceLeDiff, reduceLT, reduceSub]
     refine ⟨by (try simp only [List.length_append, List.length_cons, List.length_nil]); omega, ?_⟩
     refine hK12 _ ?_
     clear hK12
     refine aw_ret ?_
     show resOf zG _ [.tmp 4] = some _
     simp only [amset, amlib, zset, eq_self, ↓reduceIte, reduceCtorEq, Nat.reduceBEq, reduceEqDiff, reduceAdd, reduceMul, reduceLeDiff, reduceLT, reduceSub]
     rw [lnA_eq x i, ln1_hd1 e0]
     simp only [hB, elif_if, e0, e1, h0, h1, bools, ↓reduceIte, List.append_assoc, List.cons_append, List.nil_append]
    | false =>
     simp only [amset, amlib, zset, e0, e1, h0, h1, getD_hd1, eq_self, ↓reduceIte, reduceCtorEq, Nat.reduceBEq, reduceEqDiff, reduceAdd, reduceMul, reduceLeDiff, reduceLT, reduceSub]
     intros
     refine ⟨⟨by omega, by simp at e0; omega⟩, ?_⟩
     refine hK11 _ ?_
     clear hK11
     refine aw_cond (t := false) rfl (fun h => nomatch h) (fun _ => ?_)
     refine aw_skip ?_
     simp only [thenQ, blkQ, if_true, reduceIte, Nat.reduceEqDiff, eq_self]
     refine hK10 _ ?_
     clear hK10
     have hpos : decide ((x.els.length : Int) > 0) = true := by have : ¬ ((x.els.length : Int) = 0) := by { simpa only [beq_eq_false_iff_ne, ne_eq] using h1 }; rw [decide_eq_true_eq]; omega
     simp only [elif_if, hpos, e0, e1, h0, h1, bools, ↓reduceIte, List.length_append, List.length_cons, List.length_nil] at hl
     refine aw_ops zT fun K13 hK13 => ?_
     refine sg ?_
     refine ⟨by (try simp only [List.length_append, List.length_cons, List.length_nil]); omega, ?_⟩
     refine ⟨by omega, ?_⟩
     refine ⟨_, ih x.els (sze x) _ (fun z hz => hok z (stm_els hz)) (by (try simp only [List.length_append, List.length_cons, List.length_nil]); omega) (by (try simp only [List.length_append, List.length_cons, List.length_nil]); omega), ?_⟩
     refine sgl ?_
     refine ⟨by (try simp only [List.length_append, List.length_cons, List.length_nil]); omega, ?_⟩
     refine ⟨by (try simp only [List.length_append, List.length_cons, List.length_nil]); omega, ?_⟩
     refine ⟨by (try simp only [List.length_append, List.length_cons, List.length_nil]); omega, ?_⟩
     refine hK13 _ ?_
     clear hK13
     refine aw_ret ?_
     show resOf zG _ [.tmp 4] = some _
     simp only [amset, amlib, zset, eq_self, ↓reduceIte, reduceCtorEq, Nat.reduceBEq, reduceEqDiff, reduceAdd, reduceMul, reduceLeDiff, reduceLT, reduceSub]
     rw [lnA_eq x i]
     simp only [hB, elif_if, hpos, e0, e1, h0, h1, bools, ↓reduceIte, List.append_assoc, List.cons_append, List.nil_append]
   | false =>
    simp only [amset, amlib, zset, e0, h0, h1, getD_hd1, eq_self, ↓reduceIte, reduceCtorEq, Nat.reduceBEq, reduceEqDiff, reduceAdd, reduceMul, reduceLeDiff, reduceLT, reduceSub]
    intros
    refine hK11 _ ?_
    clear hK11
    refine aw_cond (t := false) rfl (fun h => nomatch h) (fun _ => ?_)
    refine aw_skip ?_
    simp only [thenQ, blkQ, if_true, reduceIte, Nat.reduceEqDiff, eq_self]
    refine hK10 _ ?_
    clear hK10
    have hpos : decide ((x.els.length : Int) > 0) = true := by have : ¬ ((x.els.length : Int) = 0) := by { simpa only [beq_eq_false_iff_ne, ne_eq] using h1 }; rw [decide_eq_true_eq]; omega
    simp only [elif_if, hpos, e0, h0, h1, bools, ↓reduceIte, List.length_append, List.length_cons, List.length_nil] at hl
    refine aw_ops zT fun K14 hK14 => ?_
    refine sg ?_
    refine ⟨by (try simp only [List.length_append, List.length_cons, List.length_nil]); omega, ?_⟩
    refine ⟨by omega, ?_⟩
    refine ⟨_, ih x.els (sze x) _ (fun z hz => hok z (stm_els hz)) (by (try simp only [List.length_append, List.length_cons, List.length_nil]); omega) (by (try simp only [List.length_append, List.length_cons, List.length_nil]); omega), ?_⟩
    refine sgl ?_
    refine ⟨by (try simp only [List.length_append, List.length_cons, List.length_nil]); omega, ?_⟩
    refine ⟨by (try simp only [List.length_append, List.length_cons, List.length_nil]); omega, ?_⟩
    refine ⟨by (try simp only [List.length_append, List.length_cons, List.length_nil]); omega, ?_⟩
    refine hK14 _ ?_
    clear hK14
    refine aw_ret ?_
    show resOf zG _ [.tmp 4] = some _
    simp only [amset, amlib, zset, eq_self, ↓reduceIte, reduceCtorEq, Nat.reduceBEq, reduceEqDiff, reduceAdd, reduceMul, reduceLeDiff, reduceLT, reduceSub]
    rw [lnA_eq x i]
    simp only [hB, elif_if, hpos, e0, h0, h1, bools, ↓reduceIte, List.append_assoc, List.cons_append, List.nil_append]
theorem prog162 : Tryz.prog.funcs[162]? = some Tryz.f162 := by kernel_rfl
theorem step162 (l : List St) (i : List UInt8) (hok : ∀ z ∈ stmL l, okSt z) (hd : i.length + 4 * depM l ≤ 1000000000000) (hl : (lnsA l i).length ≤ 1000000000000) (ih : ∀ y ∈ l, ∀ i, (∀ z ∈ stmS y, okSt z) → i.length + 4 * depS y ≤ 1000000000000 → (lnA y i).length ≤ 1000000000000 → Holds Tryz.prog zG 202 [.agg [.int .i64 y.kind, .str y.name, .int .i64 y.n, .sl 6 (encEs y.args), .sl 7 (encSs y.body), .sl 7 (encSs y.els), .int .i64 y.pos], .c (.str i)] [.c (.str (lnA y i))]) : Holds Tryz.prog zG 162 [.c (.sl 7 (encSs l)), .c (.str i)] [.c (.str (lnsA l i))] := by
 refine holds_of_body zT prog162 rfl rfl rfl (by simp [Tryz.f162]) ?_
 refine aw_ops zT fun K1 hK1 => ?_
 refine sg ?_
 refine hK1 _ ?_
 clear hK1
 refine aw_ops zT fun K2 hK2 => ?_
 refine sg ?_
 refine hK2 _ ?_
 clear hK2
 refine aw_seq fun K3 hK3 => ?_
 refine aw_ops zT fun K4 hK4 => ?_
 refine sg ?_
 intros
 refine hK4 _ ?_
 clear hK4
 refine aw_block ?_
 refine aw_range (α := St) (l) (fun dn => True) (fun dn => [(5, .cell (.c (.str (lnsA dn i)))), (10, .cell (.c (.int .i64 dn.length)))]) (fun dn => []) [] [5, 7, 10, 11, 12, 13, 14, 15, 16, 17, 18, 19, 20, 21] [7] trivial ?_ ?_ ?_ ?_
 ·
  simp only [amset, amlib, zset, eq_self, ↓reduceIte, reduceCtorEq, Nat.reduceBEq, reduceEqDiff, reduceAdd, reduceMul, reduceLeDiff, reduceLT, reduceSub] <;> simp [lnsA, lnsA_append, List.append_assoc, List.append_nil, List.nil_append]
 ·
  simp only [amset, amlib, zset, eq_self, ↓reduceIte, reduceCtorEq, Nat.reduceBEq, reduceEqDiff, reduceAdd, reduceMul, reduceLeDiff, reduceLT, reduceSub] <;> simp [lnsA, lnsA_append, List.append_assoc, List.append_nil, List.nil_append]
 ·
  intro hI R
  refine aw_nm ?_
  refine aw_ops zT fun K5 hK5 => ?_
  refine sg ?_
  refine hK5 _ ?_
  clear hK5
  refine aw_seq fun K6 hK6 => ?_
  refine aw_cond (t := false) (by simp [evalO, S.get, amLook]) (fun h => nomatch h) (fun _ => ?_)
  refine aw_exit ?_
  simp only [thenQ, blkQ, if_true, reduceIte, Nat.reduceEqDiff, eq_self]
  refine hK3 _ ?_
  clear hK3
  refine aw_ops zT fun K7 hK7 => ?_
  refine sg ?_
  refine hK7 _ ?_
  clear hK7
  refine aw_ret ?_
  show resOf zG _ [.tmp 4] = some _
  simp only [amset, amlib, zset, eq_self, ↓reduceIte, reduceCtorEq, Nat.reduceBEq, reduceEqDiff, reduceAdd, reduceMul, reduceLeDiff, reduceLT, reduceSub]
 ·
  intro dn y td harg hI R hR
  have hl : (l).length = dn.length + (td.length + 1) := by rw [harg]; simp
  have hmem : y ∈ l := by rw [harg]; simp
  refine aw_nm ?_
  have hget : (encSs (l)).getD dn.length [] = encS y := by rw [harg]; exact encSs_mid dn td y
  have hy := depM_mem hmem
  have hlen : (lnsA l i).length = (lnsA dn i).length + (i.length + (lnA y i).length + (lnsA td i).length) := by rw [harg, lnsA_append, lnsA]; simp only [List.length_append]
  refine aw_ops zT fun K8 hK8 => ?_
  refine sg ?_
  refine hK8 _ ?_
  clear hK8
  refine aw_seq fun K9 hK9 => ?_
  refine aw_cond (t := true) (by simp [evalO, S.get, amLook]; omega) (fun _ => ?_) (fun h => nomatch h)
  refine aw_skip ?_
  simp only [thenQ, blkQ, if_true, reduceIte, Nat.reduceEqDiff, eq_self]
  refine hK9 _ ?_
  clear hK9
  refine aw_seq fun K10 hK10 => ?_
  refine aw_block ?_
  refine aw_ops zT fun K11 hK11 => ?_
  simp only [amset, amlib, zset, hget, eq_self, ↓reduceIte, reduceCtorEq, Nat.reduceBEq, reduceEqDiff, reduceAdd, reduceMul, reduceLeDiff, reduceLT, reduceSub]
  refine ⟨⟨by omega, by omega⟩, ?_⟩
  refine hK11 _ ?_
  clear hK11
  refine aw_region zT ?_
  refine sg ?_
  refine ⟨by (try simp only [List.length_append, List.length_cons, List.length_nil]); omega, ?_⟩
  refine ⟨_, ih y hmem _ (fun z hz => hok z (stm_mem hmem hz)) (by omega) (by omega), ?_⟩
  refine sgl ?_
  refine ⟨by (try simp only [List.length_append, List.length_cons, List.length_nil]); omega, ?_⟩
  refine hK10 _ ?_
  clear hK10
  refine aw_region zT ?_
  refine sg ?_
  refine ⟨⟨by omega, by omega⟩, ?_⟩
  refine hR _ trivial ?_
  refine Reach.to ?_ ?_
  ·
   simp only [amset, amlib, zset, eq_self, ↓reduceIte, reduceCtorEq, Nat.reduceBEq, reduceEqDiff, reduceAdd, reduceMul, reduceLeDiff, reduceLT, reduceSub] <;> simp [lnsA, lnsA_append, List.append_assoc, List.append_nil, List.nil_append]
  ·
   simp only [amset, amlib, zset, eq_self, ↓reduceIte, reduceCtorEq, Nat.reduceBEq, reduceEqDiff, reduceAdd, reduceMul, reduceLeDiff, reduceLT, reduceSub] <;> simp [lnsA, lnsA_append, List.append_assoc, List.append_nil, List.nil_append]
theorem hdR_small {x : St} {i : List UInt8} (hk : 1 ≤ x.kind ∧ x.kind ≤ 13) (h : (lnA x i).length ≤ 1000000000000) : (hdR x).length ≤ 1000000000000 := by
 cases hB : sB x.kind with
 | true =>
  rw [lnA_eq, hB, hdR_hdA x hk hB |>.symm] at h
  simp only [↓reduceIte, List.length_append] at h
  omega
 | false =>
  have := hdR_nil x hk
  rw [hB] at this
  simp at this
  rw [this]; simp
mutual
theorem holds202 (x : St) (i : List UInt8) (hok : ∀ z ∈ stmS x, okSt z) (hd : i.length + 4 * depS x ≤ 1000000000000) (hl : (lnA x i).length ≤ 1000000000000) : Holds Tryz.prog zG 202 [.agg [.int .i64 x.kind, .str x.name, .int .i64 x.n, .sl 6 (encEs x.args), .sl 7 (encSs x.body), .sl 7 (encSs x.els), .int .i64 x.pos], .c (.str i)] [.c (.str (lnA x i))] :=
 step202 x i hok hd hl (hdR_small (hok x stm_self).1 hl) (fun m hm i h1 h2 h4 => holds162 m i h1 h2 h4) (fun y hy i h1 h2 h4 => holds202 y i h1 h2 h4)
  termination_by SizeOf.sizeOf x
  decreasing_by
 ·
  exact hm
 ·
  exact hy
theorem holds162 (l : List St) (i : List UInt8) (hok : ∀ z ∈ stmL l, okSt z) (hd : i.length + 4 * depM l ≤ 1000000000000) (hl : (lnsA l i).length ≤ 1000000000000) : Holds Tryz.prog zG 162 [.c (.sl 7 (encSs l)), .c (.str i)] [.c (.str (lnsA l i))] :=
 step162 l i hok hd hl (fun y hy i h1 h2 h4 => holds202 y i h1 h2 h4)
  termination_by SizeOf.sizeOf l
  decreasing_by exact List.sizeOf_lt_of_mem hy
end
end Go.Proofs.Am
namespace Go.Proofs.Am
open Go.RowKit
section
variable {P : Program} {G : Ctx} {ok : Fr} {w0 : World} {N : Nat} {β β' : Nat → Option Nat} {Ω Ω' : Nat → Nat → Option Value} {s s4 : S} {a a4 : Act} {w w' w4 : World} {Q : X → S → Prop}
/-- A call that is handed no object at all. -/
theorem Holds.of_emp {f : FuncId} {args res : List A} {p' : OP} (h : HoldsO P G f args empP (some res) p') : Holds P G f args res := by
  refine ⟨h.1, fun ok w vs hng hglob hA => ?_⟩
  have h1 := h.2.2 ok w vs (fun _ => False) hng hglob hA (fun b hb => hb) (fun b hb => hb.elim)
  rw [List.append_nil] at h1
  refine Calls.mono h1 fun e w' he => ?_
  obtain ⟨u, fp', rfl, ⟨hsc, rs, rfl, hrs⟩, _, _, hb⟩ := he
  exact ⟨rs, rfl, hrs.scalar hsc, hb.below (fun b hb => hb)⟩
/-- A function value that holds one variable is done: it is a datum from here on. -/
theorem aw_seal {c : Code} {env : List (Nat × V)} {box : List (Nat × List Cell)} (t k : Nat) {f : FuncId} {x : C} (ht : amLook t env = some (.clo f [(k, 0)])) (hk : amLook k box = some [.c x]) (h : AW P G N c ⟨[(t, .cell (.c (.clo f [x])))], []⟩ Q) : AW P G N c ⟨env, box⟩ Q := by
  intro hd ok w0 β Ω a w hng hR r hr
  refine h hd ok w0 (fun _ => none) (fun _ _ => none) a w hng ?_ r hr
  have hF : ∀ b, okF G ok w0.heap.size β Ω b → okF G ok w0.heap.size (fun _ => none) (fun _ _ => none) b := okF_mono (fun b hm => by
    rcases hm with ⟨_, h⟩ | ⟨_, _, _, h, _⟩ <;> cases h)
  obtain ⟨vs, h1, h2, h3⟩ := hR.env t _ ht
  obtain ⟨b, h4, h5⟩ := h3 0 k 0 rfl
  obtain ⟨us, ty, h6, h7⟩ := hR.boxB h4 hk
  cases vs with
  | nil => cases h2
  | cons v r2 =>
    cases r2 with
    | cons _ _ => cases h2
    | nil =>
      injection h5 with h5
      subst h5
      obtain ⟨u, hu, hx⟩ : ∃ u, us.toList = [u] ∧ RepC w (okF G ok w0.heap.size β Ω) x u := by
        generalize us.toList = l at h7
        cases h7 with
        | cons h8 r => cases r; exact ⟨_, rfl, h8⟩
      have hbl := hR.bB k b h4
      refine ⟨hR.below, hR.xok, hR.glob, hR.defers.keeps (Keeps.grow w hF).def, hR.size, fun t' v' hv => ?_, fun k cs hc => (by cases hc), fun _ _ _ h => (by cases h), fun _ _ _ _ _ _ _ h => (by cases h), fun _ _ _ _ _ h => (by cases h), fun _ _ h => (by cases h), fun _ _ _ _ h => (by cases h)⟩
      have hv' : (if t' = t then some (V.cell (.c (.clo f [x]))) else none) = some v' := hv
      split at hv'
      · rename_i e
        injection hv' with hv'
        subst hv' e
        refine ⟨[⟨b, 0, none⟩], h1, ⟨b, 0, none⟩, [], rfl, ⟨.inr ⟨hbl.1, fun hm => ?_⟩, hbl.2, u, ?_, RepC.keeps (Keeps.growW w hF) x u hx⟩, rfl⟩
        · rcases hm with ⟨_, h⟩ | ⟨_, _, _, h, _⟩ <;> cases h
        · rw [cell_at h6]
          have : us.toList[0]? = some u := by rw [hu]; rfl
          simpa using this
      · cases hv'
/-- A new variable that is handed out as an object. -/
theorem aw_newobj {id : Nat} {o : Oper} {y : Code} {t e : Nat} {z : Value} (hdst : o.dst = some t) (hgd : o.guard = none) (ho : o.op = .alloc e) (hz : ∃ i, P.info? e = some i ∧ i.zero = some z) {q : Nat → OP} (hst : ∀ b, Stab (q b))
    (hq : ∀ (b : Nat) (w : World) F fp, w.heap[b]? = some (.cells z.cells e (0, 0)) → (∀ x, fp x ↔ x = b) → q b F w fp) (hobj : amLook 1000000 s.box = some [.objst empP]) (hok : s.objOk = true)
    (h : ∀ b, AW P G N y ⟨(t, .cell (.c (.val (.pointer (some ⟨b, 0, none⟩))))) :: s.env, (1000000, [.objst (q b)]) :: s.box⟩ Q) : AW P G N (.seq (.region id #[o] false) y) s Q := by
  refine aw_seq fun K hK => ?_
  intro hd ok w0 β Ω a w hng hR r hr
  have hdN : t < N := by
    have h1 : (#[o] : Array Oper).toList.all (dstIn N) = true := hd
    simp only [List.all_cons, List.all_nil, Bool.and_true] at h1
    rw [dstIn, hdst] at h1
    simpa using h1
  refine wpIn_region ?_
  show wpOpsIn (FR r) 0 P #[o] _ [0] a w
  rw [wpOpsIn_cons]
  unfold wpOpIn
  have ho0 : (#[o] : Array Oper)[0]? = some o := rfl
  simp only [ho0]
  rw [if_pos (by simp [Region.wanted, hgd])]
  obtain ⟨i, hi, hz⟩ := hz
  have hrun : (execOp a.eval o).run P w = .ok (.value (.pointer (some ⟨w.heap.size, 0, none⟩))) (w.alloc (.cells z.cells e)) := by
    simp [execOp, ho, Instr.alloc, zeroValue, typeInfo, hi, hz, newVar, newRow]
  refine win_value (fun c hc => by rw [ho] at hc; cases hc) hrun ?_
  obtain ⟨_, _, fp0, hp0, hm0⟩ := hR.obj hobj
  have hbw : Below w.heap.size w (w.alloc (.cells z.cells e)) := (Below.refl _ w).alloc (Nat.le_refl _) _
  obtain ⟨Ω1, hR2⟩ := hR.afterObj (w' := w.alloc (.cells z.cells e)) (p' := q w.heap.size) hobj (objOkP hok) (fp := fp0) (fp' := fun b => b = w.heap.size) hm0 (hst _) (hq _ _ _ _ (heap_alloc_new w _) (fun x => Iff.rfl))
    (fun b hb => ⟨by rw [hb]; simp, .inr (by omega)⟩) (.of hbw) hng
  refine ⟨.norm, _, β, Ω1, rfl, hK _ (h w.heap.size), ?_⟩
  have := hR2.put (dst := some t) (v := .cell (.c (.val (.pointer (some ⟨w.heap.size, 0, none⟩))))) (x := .pointer (some ⟨w.heap.size, 0, none⟩)) (fun d hd => by injection hd with hd; omega) ⟨rfl, rfl, rfl⟩
  rw [hdst]
  exact this
end
end Go.Proofs.Am
