/- Part 6 of a proof that the law holds of every input of the given bulk. -/
import Derived.Test.YtfflfbhnedkppaaGreatDoorPart04
import Derived.Test.YtfflfbhnedkppaaGreatDoorPart05
import Derived.Test.YtfflfbhnedkppaaGreatDoorPart02
import Derived.Lib.Strings
import Derived.Lib.Slices
import Derived.Lib.Walk
import Derived.Lib.Builder
import Derived.Lib.AppendStr
import Derived.Lib.UnsafeStr
import Derived.WalkKit
import Derived.Laws.Externs
import Derived.ProofKit
set_option autoImplicit false
set_option linter.unusedSimpArgs false
set_option linter.unusedVariables false
set_option linter.unusedSectionVars false
set_option maxRecDepth 100000
set_option maxHeartbeats 4000000
namespace Go.Proofs.Am
def lvTab : List Int := [0, 0, 0, 4, 4, 5, 5, 5, 3, 3, 3, 3, 3, 3, 2, 1]
theorem map_getD {α β : Type} (f : α → β) (l : List α) (n : Nat) (d : α) (e : β) (h : n < l.length) : (l.map f).getD n e = f (l.getD n d) := by
  simp [List.getD, h]
def lvRows : List (List C) := lvTab.map fun z => [.int .i64 z]
theorem lvRows_at (n : Nat) (h : n < 16) : lvRows.getD n [] = [.int .i64 (lvTab.getD n 0)] := map_getD (fun z => [C.int .i64 z]) lvTab n 0 [] h
def levelE (x : Ex) : Int := if (x.kind == 5) then 6 else if (x.kind != 6) then 7 else lvTab.getD x.op.toNat 0
theorem prog169 : Tryz.prog.funcs[169]? = some Tryz.f169 := by kernel_rfl
theorem holds169 (x : Ex) (hop : x.kind = 6 → 0 ≤ x.op ∧ x.op < 16) : Holds Tryz.prog zG 169 [.agg [.int .i64 x.kind, .str x.name, .int .i16 x.value, .int .i64 x.op, .sl 6 (encEs x.args), .int .i64 x.pos]] [.c (.int .i64 (levelE x))] := by
  refine holds_of_body zT prog169 rfl rfl rfl (by simp [Tryz.f169]) ?_
  refine aw_ops zT fun K1 hK1 => ?_
  simp only [amset, amlib, zset, eq_self, ↓reduceIte, reduceCtorEq, Nat.reduceBEq, Nat.reduceEqDiff, Nat.reduceAdd, Nat.reduceMul, Nat.reduceLeDiff, Nat.reduceLT, Nat.reduceSub]
  refine hK1 _ ?_
  clear hK1
  refine aw_seq fun K2 hK2 => ?_
  refine aw_ops zT fun K3 hK3 => ?_
  simp only [amset, amlib, zset, eq_self, ↓reduceIte, reduceCtorEq, Nat.reduceBEq, Nat.reduceEqDiff, Nat.reduceAdd, Nat.reduceMul, Nat.reduceLeDiff, Nat.reduceLT, Nat.reduceSub]
  refine hK3 _ ?_
  clear hK3
  refine aw_cond rfl (fun h0 => ?_) (fun h0 => ?_)
  · skip
    refine aw_ops zT fun K4 hK4 => ?_
    simp only [amset, amlib, zset, eq_self, ↓reduceIte, reduceCtorEq, Nat.reduceBEq, Nat.reduceEqDiff, Nat.reduceAdd, Nat.reduceMul, Nat.reduceLeDiff, Nat.reduceLT, Nat.reduceSub]
    refine hK4 _ ?_
    clear hK4
    refine aw_ret ?_
    show resOf zG _ [.tmp 2] = some _
    simp only [amset, amlib, zset, eq_self, ↓reduceIte, reduceCtorEq, Nat.reduceBEq, Nat.reduceEqDiff, Nat.reduceAdd, Nat.reduceMul, Nat.reduceLeDiff, Nat.reduceLT, Nat.reduceSub]
    simp only [levelE, h0, Bool.true_or, Bool.or_true, Bool.false_or, Bool.or_false, Bool.true_and, Bool.and_true, Bool.false_and, Bool.and_false, Bool.not_true, Bool.not_false, if_true, if_false, ↓reduceIte, Bool.false_eq_true]
  · skip
    refine aw_skip ?_
    simp only [thenQ, blkQ, if_true, reduceIte, Nat.reduceEqDiff, eq_self]
    refine hK2 _ ?_
    clear hK2
    refine aw_seq fun K5 hK5 => ?_
    refine aw_ops zT fun K6 hK6 => ?_
    simp only [amset, amlib, zset, eq_self, ↓reduceIte, reduceCtorEq, Nat.reduceBEq, Nat.reduceEqDiff, Nat.reduceAdd, Nat.reduceMul, Nat.reduceLeDiff, Nat.reduceLT, Nat.reduceSub]
    refine hK6 _ ?_
    clear hK6
    refine aw_cond rfl (fun h1 => ?_) (fun h1 => ?_)
    · skip
      refine aw_ops zT fun K7 hK7 => ?_
      simp only [amset, amlib, zset, eq_self, ↓reduceIte, reduceCtorEq, Nat.reduceBEq, Nat.reduceEqDiff, Nat.reduceAdd, Nat.reduceMul, Nat.reduceLeDiff, Nat.reduceLT, Nat.reduceSub]
      refine hK7 _ ?_
      clear hK7
      refine aw_ret ?_
      show resOf zG _ [.tmp 2] = some _
      simp only [amset, amlib, zset, eq_self, ↓reduceIte, reduceCtorEq, Nat.reduceBEq, Nat.reduceEqDiff, Nat.reduceAdd, Nat.reduceMul, Nat.reduceLeDiff, Nat.reduceLT, Nat.reduceSub]
      simp only [levelE, h0, h1, Bool.true_or, Bool.or_true, Bool.false_or, Bool.or_false, Bool.true_and, Bool.and_true, Bool.false_and, Bool.and_false, Bool.not_true, Bool.not_false, if_true, if_false, ↓reduceIte, Bool.false_eq_true]
    · skip
      have hk := hop (by simpa using h1)
      have hr : ([[C.int .i64 0], [C.int .i64 0], [C.int .i64 0], [C.int .i64 4], [C.int .i64 4], [C.int .i64 5], [C.int .i64 5], [C.int .i64 5], [C.int .i64 3], [C.int .i64 3], [C.int .i64 3], [C.int .i64 3], [C.int .i64 3], [C.int .i64 3], [C.int .i64 2], [C.int .i64 1]] : List (List C)).getD x.op.toNat [] = [.int .i64 (lvTab.getD x.op.toNat 0)] := lvRows_at x.op.toNat (by omega)
      refine aw_skip ?_
      simp only [thenQ, blkQ, if_true, reduceIte, Nat.reduceEqDiff, eq_self]
      refine hK5 _ ?_
      clear hK5
      refine aw_seq fun K8 hK8 => ?_
      refine aw_cut zT 1 9 (K1 := fun s1 => s1 = ?st) ?g1 ?g2 (by decide)
      case g1 =>
        simp only [amset, amlib, zset, eq_self, ↓reduceIte, reduceCtorEq, Nat.reduceBEq, Nat.reduceEqDiff, Nat.reduceAdd, Nat.reduceMul, Nat.reduceLeDiff, Nat.reduceLT, Nat.reduceSub]
        exact rfl
      rintro s1 rfl
      simp only [amset, amlib, zset, hr, eq_self, ↓reduceIte, reduceCtorEq, Nat.reduceBEq, Nat.reduceEqDiff, Nat.reduceAdd, Nat.reduceMul, Nat.reduceLeDiff, Nat.reduceLT, Nat.reduceSub]
      refine ⟨⟨by omega, by omega⟩, ?_⟩
      refine hK8 _ ?_
      clear hK8
      refine aw_ret ?_
      show resOf zG _ [.tmp 2] = some _
      simp only [amset, amlib, zset, eq_self, ↓reduceIte, reduceCtorEq, Nat.reduceBEq, Nat.reduceEqDiff, Nat.reduceAdd, Nat.reduceMul, Nat.reduceLeDiff, Nat.reduceLT, Nat.reduceSub]
      simp only [levelE, h0, h1, Bool.true_or, Bool.or_true, Bool.false_or, Bool.or_false, Bool.true_and, Bool.and_true, Bool.false_and, Bool.and_false, Bool.not_true, Bool.not_false, if_true, if_false, ↓reduceIte, Bool.false_eq_true]
end Go.Proofs.Am
set_option maxRecDepth 100000
set_option maxHeartbeats 4000000
namespace Go.Proofs.Am
def sgTab : List (List UInt8) := [[], [45], [33], [43], [45], [42], [47], [37], [61, 61], [33, 61], [60], [60, 61], [62], [62, 61], [38, 38], [124, 124]]
def sgRows : List (List C) := sgTab.map fun z => [.str z]
theorem sgRows_at (n : Nat) (h : n < 16) : sgRows.getD n [] = [.str (sgTab.getD n [])] := map_getD (fun z => [C.str z]) sgTab n [] [] h
theorem prog167 : Tryz.prog.funcs[167]? = some Tryz.f167 := by kernel_rfl
theorem holds167 (k : Int) (hop : 0 ≤ k ∧ k < 16) : Holds Tryz.prog zG 167 [.c (.int .i64 k)] [.c (.str (sgTab.getD k.toNat []))] := by
  refine holds_of_body zT prog167 rfl rfl rfl (by simp [Tryz.f167]) ?_
  refine aw_ops zT fun K1 hK1 => ?_
  simp only [amset, amlib, zset, eq_self, ↓reduceIte, reduceCtorEq, Nat.reduceBEq, Nat.reduceEqDiff, Nat.reduceAdd, Nat.reduceMul, Nat.reduceLeDiff, Nat.reduceLT, Nat.reduceSub]
  have hr : ([[C.str []], [C.str [45]], [C.str [33]], [C.str [43]], [C.str [45]], [C.str [42]], [C.str [47]], [C.str [37]], [C.str [61, 61]], [C.str [33, 61]], [C.str [60]], [C.str [60, 61]], [C.str [62]], [C.str [62, 61]], [C.str [38, 38]], [C.str [124, 124]]] : List (List C)).getD k.toNat [] = [.str (sgTab.getD k.toNat [])] := sgRows_at k.toNat (by omega)
  refine hK1 _ ?_
  clear hK1
  refine aw_seq fun K2 hK2 => ?_
  refine aw_cut zT 1 3 (K1 := fun s1 => s1 = ?st) ?g1 ?g2 (by decide)
  case g1 =>
    simp only [amset, amlib, zset, eq_self, ↓reduceIte, reduceCtorEq, Nat.reduceBEq, Nat.reduceEqDiff, Nat.reduceAdd, Nat.reduceMul, Nat.reduceLeDiff, Nat.reduceLT, Nat.reduceSub]
    exact rfl
  rintro s1 rfl
  simp only [amset, amlib, zset, hr, eq_self, ↓reduceIte, reduceCtorEq, Nat.reduceBEq, Nat.reduceEqDiff, Nat.reduceAdd, Nat.reduceMul, Nat.reduceLeDiff, Nat.reduceLT, Nat.reduceSub]
  refine ⟨⟨by omega, by omega⟩, ?_⟩
  refine hK2 _ ?_
  clear hK2
  refine aw_ret ?_
  show resOf zG _ [.tmp 2] = some _
  simp only [amset, amlib, zset, eq_self, ↓reduceIte, reduceCtorEq, Nat.reduceBEq, Nat.reduceEqDiff, Nat.reduceAdd, Nat.reduceMul, Nat.reduceLeDiff, Nat.reduceLT, Nat.reduceSub]
end Go.Proofs.Am
set_option maxRecDepth 100000
set_option maxHeartbeats 4000000
namespace Go.Proofs.Am
theorem numN_dec (n : Nat) : numN n = Lib.decDigits n := by
  induction n using Nat.strongRecOn with
  | _ n ih =>
    unfold numN Lib.decDigits
    split
    · rfl
    · rw [ih (n / 10) (by omega)]; rfl
theorem numN_itoa (n : Nat) : numN n = Lib.itoa (n : Int) := by
  rw [numN_dec]
  unfold Lib.itoa
  rw [if_neg (by omega)]
  rfl
theorem levelE_lvA (x : Ex) : levelE x = lvA x := by
  unfold levelE lvA
  by_cases h5 : x.kind = 5
  · simp [h5]
  · by_cases h6 : x.kind = 6
    · simp [h6]; rfl
    · simp [h5, h6]
theorem sgTab_symI (k : Int) : sgTab.getD k.toNat [] = symI k := rfl
theorem prog168 : Tryz.prog.funcs[168]? = some Tryz.f168 := by kernel_rfl
theorem step168 (x : Ex) (least : Int) (hop : x.kind = 6 → 0 ≤ x.op ∧ x.op < 16) (hl : (txA x).length ≤ 64000000000000) (ih : Holds Tryz.prog zG 95 [.agg [.int .i64 x.kind, .str x.name, .int .i16 x.value, .int .i64 x.op, .sl 6 (encEs x.args), .int .i64 x.pos]] [.c (.str (txA x))]) : Holds Tryz.prog zG 168 [.agg [.int .i64 x.kind, .str x.name, .int .i16 x.value, .int .i64 x.op, .sl 6 (encEs x.args), .int .i64 x.pos], .c (.int .i64 least)] [.c (.str (opS (lvA x, txA x) least))] := by
  refine holds_of_body zT prog168 rfl rfl rfl (by simp [Tryz.f168]) ?_
  refine aw_ops zT fun K1 hK1 => ?_
  simp only [amset, amlib, zset, eq_self, ↓reduceIte, reduceCtorEq, Nat.reduceBEq, Nat.reduceEqDiff, Nat.reduceAdd, Nat.reduceMul, Nat.reduceLeDiff, Nat.reduceLT, Nat.reduceSub]
  refine hK1 _ ?_
  clear hK1
  refine aw_seq fun K2 hK2 => ?_
  refine aw_ops zT fun K3 hK3 => ?_
  simp only [amset, amlib, zset, levelE_lvA, eq_self, ↓reduceIte, reduceCtorEq, Nat.reduceBEq, Nat.reduceEqDiff, Nat.reduceAdd, Nat.reduceMul, Nat.reduceLeDiff, Nat.reduceLT, Nat.reduceSub]
  refine ⟨_, holds169 x hop, ?_⟩
  simp only [later]
  simp only [amset, amlib, zset, levelE_lvA, eq_self, ↓reduceIte, reduceCtorEq, Nat.reduceBEq, Nat.reduceEqDiff, Nat.reduceAdd, Nat.reduceMul, Nat.reduceLeDiff, Nat.reduceLT, Nat.reduceSub]
  refine hK3 _ ?_
  clear hK3
  refine aw_cond rfl (fun h0 => ?_) (fun h0 => ?_)
  · skip
    refine aw_ops zT fun K4 hK4 => ?_
    simp only [amset, amlib, zset, eq_self, ↓reduceIte, reduceCtorEq, Nat.reduceBEq, Nat.reduceEqDiff, Nat.reduceAdd, Nat.reduceMul, Nat.reduceLeDiff, Nat.reduceLT, Nat.reduceSub]
    refine ⟨_, ih, ?_⟩
    simp only [later]
    simp only [amset, amlib, zset, eq_self, ↓reduceIte, reduceCtorEq, Nat.reduceBEq, Nat.reduceEqDiff, Nat.reduceAdd, Nat.reduceMul, Nat.reduceLeDiff, Nat.reduceLT, Nat.reduceSub]
    refine ⟨by omega, ?_⟩
    refine ⟨by omega, ?_⟩
    refine hK4 _ ?_
    clear hK4
    refine aw_ret ?_
    show resOf zG _ [.tmp 4] = some _
    simp only [amset, amlib, zset, eq_self, ↓reduceIte, reduceCtorEq, Nat.reduceBEq, Nat.reduceEqDiff, Nat.reduceAdd, Nat.reduceMul, Nat.reduceLeDiff, Nat.reduceLT, Nat.reduceSub]
    simp only [opS, h0, Bool.true_or, Bool.or_true, Bool.false_or, Bool.or_false, Bool.true_and, Bool.and_true, Bool.false_and, Bool.and_false, Bool.not_true, Bool.not_false, if_true, if_false, ↓reduceIte, Bool.false_eq_true, List.cons_append, List.nil_append]
  · skip
    refine aw_skip ?_
    simp only [thenQ, blkQ, if_true, reduceIte, Nat.reduceEqDiff, eq_self]
    refine hK2 _ ?_
    clear hK2
    refine aw_ops zT fun K5 hK5 => ?_
    simp only [amset, amlib, zset, eq_self, ↓reduceIte, reduceCtorEq, Nat.reduceBEq, Nat.reduceEqDiff, Nat.reduceAdd, Nat.reduceMul, Nat.reduceLeDiff, Nat.reduceLT, Nat.reduceSub]
    refine ⟨_, ih, ?_⟩
    simp only [later]
    simp only [amset, amlib, zset, eq_self, ↓reduceIte, reduceCtorEq, Nat.reduceBEq, Nat.reduceEqDiff, Nat.reduceAdd, Nat.reduceMul, Nat.reduceLeDiff, Nat.reduceLT, Nat.reduceSub]
    refine hK5 _ ?_
    clear hK5
    refine aw_ret ?_
    show resOf zG _ [.tmp 4] = some _
    simp only [amset, amlib, zset, eq_self, ↓reduceIte, reduceCtorEq, Nat.reduceBEq, Nat.reduceEqDiff, Nat.reduceAdd, Nat.reduceMul, Nat.reduceLeDiff, Nat.reduceLT, Nat.reduceSub]
    simp only [opS, h0, Bool.true_or, Bool.or_true, Bool.false_or, Bool.or_false, Bool.true_and, Bool.and_true, Bool.false_and, Bool.and_false, Bool.not_true, Bool.not_false, if_true, if_false, ↓reduceIte, Bool.false_eq_true, List.cons_append, List.nil_append]
theorem prog95 : Tryz.prog.funcs[95]? = some Tryz.f95 := by kernel_rfl
theorem step95 (x : Ex) (hx : wfA x = true) (hv : i16r x.value) (hw : wdL x.args) (hs : (subE x).length ≤ 1000000000000) (ih : ∀ y ∈ x.args, Holds Tryz.prog zG 95 [.agg [.int .i64 y.kind, .str y.name, .int .i16 y.value, .int .i64 y.op, .sl 6 (encEs y.args), .int .i64 y.pos]] [.c (.str (txA y))]) (ihop : ∀ y ∈ x.args, ∀ least : Int, Holds Tryz.prog zG 168 [.agg [.int .i64 y.kind, .str y.name, .int .i16 y.value, .int .i64 y.op, .sl 6 (encEs y.args), .int .i64 y.pos], .c (.int .i64 least)] [.c (.str (opS (lvA y, txA y) least))]) : Holds Tryz.prog zG 95 [.agg [.int .i64 x.kind, .str x.name, .int .i16 x.value, .int .i64 x.op, .sl 6 (encEs x.args), .int .i64 x.pos]] [.c (.str (txA x))] := by
  refine holds_of_body zT prog95 rfl rfl rfl (by simp [Tryz.f95]) ?_
  refine aw_ops zT fun K1 hK1 => ?_
  simp only [amset, amlib, zset, eq_self, ↓reduceIte, reduceCtorEq, Nat.reduceBEq, Nat.reduceEqDiff, Nat.reduceAdd, Nat.reduceMul, Nat.reduceLeDiff, Nat.reduceLT, Nat.reduceSub]
  refine hK1 _ ?_
  clear hK1
  refine aw_seq fun K2 hK2 => ?_
  refine aw_ops zT fun K3 hK3 => ?_
  simp only [amset, amlib, zset, eq_self, ↓reduceIte, reduceCtorEq, Nat.reduceBEq, Nat.reduceEqDiff, Nat.reduceAdd, Nat.reduceMul, Nat.reduceLeDiff, Nat.reduceLT, Nat.reduceSub]
  refine hK3 _ ?_
  clear hK3
  refine aw_block ?_
  refine aw_ops zT fun K4 hK4 => ?_
  simp only [amset, amlib, zset, eq_self, ↓reduceIte, reduceCtorEq, Nat.reduceBEq, Nat.reduceEqDiff, Nat.reduceAdd, Nat.reduceMul, Nat.reduceLeDiff, Nat.reduceLT, Nat.reduceSub]
  refine hK4 _ ?_
  clear hK4
  refine aw_cond rfl (fun h0 => ?_) (fun h0 => ?_)
  · skip
    have hwf := wf_facts hx
    have hk : x.kind = 1 := by simpa using h0
    obtain ⟨n, hn⟩ : ∃ n : Nat, x.value = n := ⟨x.value.toNat, by omega⟩
    have ev : IntKind.i64.wrap (n : Int) = n := wrap_id _ (by omega) (by unfold i16r at hv; omega)
    refine aw_ops zT fun K5 hK5 => ?_
    simp only [amset, amlib, zset, hn, ev, eq_self, ↓reduceIte, reduceCtorEq, Nat.reduceBEq, Nat.reduceEqDiff, Nat.reduceAdd, Nat.reduceMul, Nat.reduceLeDiff, Nat.reduceLT, Nat.reduceSub]
    refine ⟨_, holds91 n (by unfold i16r at hv; omega), ?_⟩
    simp only [later]
    simp only [amset, amlib, zset, hn, ev, eq_self, ↓reduceIte, reduceCtorEq, Nat.reduceBEq, Nat.reduceEqDiff, Nat.reduceAdd, Nat.reduceMul, Nat.reduceLeDiff, Nat.reduceLT, Nat.reduceSub]
    refine hK5 _ ?_
    clear hK5
    refine aw_ret ?_
    show resOf zG _ [.tmp 2] = some _
    simp only [amset, amlib, zset, eq_self, ↓reduceIte, reduceCtorEq, Nat.reduceBEq, Nat.reduceEqDiff, Nat.reduceAdd, Nat.reduceMul, Nat.reduceLeDiff, Nat.reduceLT, Nat.reduceSub]
    rw [txA_eq x]
    simp only [h0, hn, numN_itoa, ↓reduceIte, Bool.false_eq_true, bnT, List.append_assoc, List.cons_append, List.nil_append]
  · skip
    refine aw_ops zT fun K6 hK6 => ?_
    simp only [amset, amlib, zset, eq_self, ↓reduceIte, reduceCtorEq, Nat.reduceBEq, Nat.reduceEqDiff, Nat.reduceAdd, Nat.reduceMul, Nat.reduceLeDiff, Nat.reduceLT, Nat.reduceSub]
    refine hK6 _ ?_
    clear hK6
    refine aw_cond rfl (fun h1 => ?_) (fun h1 => ?_)
    · skip
      have hwf := wf_facts hx
      have hdl := sym_len x.op
      have hlr := lev_range x.op
      have hsz := subE_len x
      have hk : x.kind = 3 := by simpa using h1
      have ha : x.args.length = 1 := by omega
      have hnl : x.name.length ≤ 32 := ident_len (by rcases hwf.1 with ⟨k, r⟩ | ⟨k, r⟩ | ⟨k, l, r, _⟩ | ⟨k, l, r, _⟩ | ⟨k, r⟩ | ⟨k, r⟩ <;> first | exact r | omega)
      have hm0 : x.args[0] ∈ x.args := List.getElem_mem _
      have hget0 : (encEs x.args).getD (Int.toNat 0) [] = encE x.args[0] := encEs_getD _ 0 (by omega)
      have htx0 := txL_getD x.args 0 (by omega)
      have hn0 := txA_len x.args[0] (hwf.2 _ hm0) (wdE_eq x.args[0] ▸ wdL_mem hw hm0).1 (wdE_eq x.args[0] ▸ wdL_mem hw hm0).2
      have hq0 := subL_mem hm0
      have hol0 := fun l => opS_len' (lvA x.args[0]) (txA x.args[0]) l
      refine aw_draw zT prog_mixed fun K7 hK7 => ?_
      simp only [amset, amlib, zset, hget0, eq_self, ↓reduceIte, reduceCtorEq, Nat.reduceBEq, Nat.reduceEqDiff, Nat.reduceAdd, Nat.reduceMul, Nat.reduceLeDiff, Nat.reduceLT, Nat.reduceSub]
      refine ⟨by omega, ?_⟩
      refine ⟨⟨by omega, by omega⟩, ?_⟩
      refine ⟨_, ih _ (List.getElem_mem (h := by omega)), ?_⟩
      simp only [later]
      simp only [amset, amlib, zset, hget0, eq_self, ↓reduceIte, reduceCtorEq, Nat.reduceBEq, Nat.reduceEqDiff, Nat.reduceAdd, Nat.reduceMul, Nat.reduceLeDiff, Nat.reduceLT, Nat.reduceSub]
      refine ⟨by omega, ?_⟩
      refine ⟨by omega, ?_⟩
      refine ⟨by kernel_rfl, ?_⟩
      refine hK7 _ ?_
      clear hK7
      refine aw_ret ?_
      show resOf zG _ [.tmp 2] = some _
      simp only [amset, amlib, zset, eq_self, ↓reduceIte, reduceCtorEq, Nat.reduceBEq, Nat.reduceEqDiff, Nat.reduceAdd, Nat.reduceMul, Nat.reduceLeDiff, Nat.reduceLT, Nat.reduceSub]
      rw [txA_eq x]
      simp only [(show (x.kind == 1) = false by simp [hk]), (show (x.kind == 2) = false by simp [hk]), h1, htx0, ↓reduceIte, Bool.false_eq_true, bnT, List.append_assoc, List.cons_append, List.nil_append]
    · skip
      refine aw_ops zT fun K8 hK8 => ?_
      simp only [amset, amlib, zset, eq_self, ↓reduceIte, reduceCtorEq, Nat.reduceBEq, Nat.reduceEqDiff, Nat.reduceAdd, Nat.reduceMul, Nat.reduceLeDiff, Nat.reduceLT, Nat.reduceSub]
      refine hK8 _ ?_
      clear hK8
      refine aw_cond rfl (fun h2 => ?_) (fun h2 => ?_)
      · skip
        have hwf := wf_facts hx
        have hk : x.kind = 4 := by simpa using h2
        have hnl : x.name.length ≤ 32 := ident_len (by rcases hwf.1 with ⟨k, r⟩ | ⟨k, r⟩ | ⟨k, l, r, _⟩ | ⟨k, l, r, _⟩ | ⟨k, r⟩ | ⟨k, r⟩ <;> first | exact r | omega)
        
        refine aw_ops zT fun K9 hK9 => ?_
        simp only [amset, amlib, zset, eq_self, ↓reduceIte, reduceCtorEq, Nat.reduceBEq, Nat.reduceEqDiff, Nat.reduceAdd, Nat.reduceMul, Nat.reduceLeDiff, Nat.reduceLT, Nat.reduceSub]
        refine ⟨by omega, ?_⟩
        refine ⟨by omega, ?_⟩
        refine hK9 _ ?_
        clear hK9
        refine aw_ret ?_
        show resOf zG _ [.tmp 2] = some _
        simp only [amset, amlib, zset, eq_self, ↓reduceIte, reduceCtorEq, Nat.reduceBEq, Nat.reduceEqDiff, Nat.reduceAdd, Nat.reduceMul, Nat.reduceLeDiff, Nat.reduceLT, Nat.reduceSub]
        rw [txA_eq x]
        simp only [(show (x.kind == 1) = false by simp [hk]), (show (x.kind == 2) = false by simp [hk]), (show (x.kind == 3) = false by simp [hk]), h2, ↓reduceIte, Bool.false_eq_true, bnT, List.append_assoc, List.cons_append, List.nil_append]
      · skip
        refine aw_ops zT fun K10 hK10 => ?_
        simp only [amset, amlib, zset, eq_self, ↓reduceIte, reduceCtorEq, Nat.reduceBEq, Nat.reduceEqDiff, Nat.reduceAdd, Nat.reduceMul, Nat.reduceLeDiff, Nat.reduceLT, Nat.reduceSub]
        refine hK10 _ ?_
        clear hK10
        refine aw_cond rfl (fun h3 => ?_) (fun h3 => ?_)
        · skip
          have hwf := wf_facts hx
          have hdl := sym_len x.op
          have hlr := lev_range x.op
          have hsz := subE_len x
          have hk : x.kind = 5 := by simpa using h3
          have ha : x.args.length = 1 := by omega
          have ho : 1 ≤ x.op ∧ x.op ≤ 2 := by omega
          have hm0 : x.args[0] ∈ x.args := List.getElem_mem _
          have hget0 : (encEs x.args).getD (Int.toNat 0) [] = encE x.args[0] := encEs_getD _ 0 (by omega)
          have htx0 := txL_getD x.args 0 (by omega)
          have hn0 := txA_len x.args[0] (hwf.2 _ hm0) (wdE_eq x.args[0] ▸ wdL_mem hw hm0).1 (wdE_eq x.args[0] ▸ wdL_mem hw hm0).2
          have hq0 := subL_mem hm0
          have hol0 := fun l => opS_len' (lvA x.args[0]) (txA x.args[0]) l
          have hol := hol0 6
          refine aw_draw zT prog_mixed fun K11 hK11 => ?_
          simp only [amset, amlib, zset, hget0, sgTab_symI, eq_self, ↓reduceIte, reduceCtorEq, Nat.reduceBEq, Nat.reduceEqDiff, Nat.reduceAdd, Nat.reduceMul, Nat.reduceLeDiff, Nat.reduceLT, Nat.reduceSub]
          refine ⟨_, holds167 x.op (by omega), ?_⟩
          simp only [later]
          simp only [amset, amlib, zset, hget0, sgTab_symI, eq_self, ↓reduceIte, reduceCtorEq, Nat.reduceBEq, Nat.reduceEqDiff, Nat.reduceAdd, Nat.reduceMul, Nat.reduceLeDiff, Nat.reduceLT, Nat.reduceSub]
          refine ⟨⟨by omega, by omega⟩, ?_⟩
          refine ⟨_, ihop _ (List.getElem_mem (h := by omega)) _, ?_⟩
          simp only [later]
          simp only [amset, amlib, zset, hget0, sgTab_symI, eq_self, ↓reduceIte, reduceCtorEq, Nat.reduceBEq, Nat.reduceEqDiff, Nat.reduceAdd, Nat.reduceMul, Nat.reduceLeDiff, Nat.reduceLT, Nat.reduceSub]
          refine ⟨by omega, ?_⟩
          refine ⟨by kernel_rfl, ?_⟩
          refine hK11 _ ?_
          clear hK11
          refine aw_ret ?_
          show resOf zG _ [.tmp 2] = some _
          simp only [amset, amlib, zset, eq_self, ↓reduceIte, reduceCtorEq, Nat.reduceBEq, Nat.reduceEqDiff, Nat.reduceAdd, Nat.reduceMul, Nat.reduceLeDiff, Nat.reduceLT, Nat.reduceSub]
          rw [txA_eq x]
          simp only [(show (x.kind == 1) = false by simp [hk]), (show (x.kind == 2) = false by simp [hk]), (show (x.kind == 3) = false by simp [hk]), (show (x.kind == 4) = false by simp [hk]), h3, htx0, sgTab_symI, ↓reduceIte, Bool.false_eq_true, bnT, List.append_assoc, List.cons_append, List.nil_append]
        · skip
          refine aw_ops zT fun K12 hK12 => ?_
          simp only [amset, amlib, zset, eq_self, ↓reduceIte, reduceCtorEq, Nat.reduceBEq, Nat.reduceEqDiff, Nat.reduceAdd, Nat.reduceMul, Nat.reduceLeDiff, Nat.reduceLT, Nat.reduceSub]
          refine hK12 _ ?_
          clear hK12
          refine aw_cond rfl (fun h4 => ?_) (fun h4 => ?_)
          · skip
            have hwf := wf_facts hx
            have hdl := sym_len x.op
            have hlr := lev_range x.op
            have hsz := subE_len x
            have hk : x.kind = 6 := by simpa using h4
            have hlv : lvA x = levI x.op := by simp [lvA, hk]
            have ha : x.args.length = 2 := by omega
            have ho : 3 ≤ x.op ∧ x.op ≤ 15 := by omega
            have hm0 : x.args[0] ∈ x.args := List.getElem_mem _
            have hget0 : (encEs x.args).getD (Int.toNat 0) [] = encE x.args[0] := encEs_getD _ 0 (by omega)
            have htx0 := txL_getD x.args 0 (by omega)
            have hn0 := txA_len x.args[0] (hwf.2 _ hm0) (wdE_eq x.args[0] ▸ wdL_mem hw hm0).1 (wdE_eq x.args[0] ▸ wdL_mem hw hm0).2
            have hq0 := subL_mem hm0
            have hol0 := fun l => opS_len' (lvA x.args[0]) (txA x.args[0]) l
            have hm1 : x.args[1] ∈ x.args := List.getElem_mem _
            have hget1 : (encEs x.args).getD (Int.toNat 1) [] = encE x.args[1] := encEs_getD _ 1 (by omega)
            have htx1 := txL_getD x.args 1 (by omega)
            have hn1 := txA_len x.args[1] (hwf.2 _ hm1) (wdE_eq x.args[1] ▸ wdL_mem hw hm1).1 (wdE_eq x.args[1] ▸ wdL_mem hw hm1).2
            have hq1 := subL_mem hm1
            have hol1 := fun l => opS_len' (lvA x.args[1]) (txA x.args[1]) l
            refine aw_ops zT fun K13 hK13 => ?_
            simp only [amset, amlib, zset, levelE_lvA, eq_self, ↓reduceIte, reduceCtorEq, Nat.reduceBEq, Nat.reduceEqDiff, Nat.reduceAdd, Nat.reduceMul, Nat.reduceLeDiff, Nat.reduceLT, Nat.reduceSub]
            refine ⟨_, holds169 x (fun _ => by omega), ?_⟩
            simp only [later]
            simp only [amset, amlib, zset, levelE_lvA, eq_self, ↓reduceIte, reduceCtorEq, Nat.reduceBEq, Nat.reduceEqDiff, Nat.reduceAdd, Nat.reduceMul, Nat.reduceLeDiff, Nat.reduceLT, Nat.reduceSub]
            refine hK13 _ ?_
            clear hK13
            refine aw_ops zT fun K14 hK14 => ?_
            simp only [amset, amlib, zset, eq_self, ↓reduceIte, reduceCtorEq, Nat.reduceBEq, Nat.reduceEqDiff, Nat.reduceAdd, Nat.reduceMul, Nat.reduceLeDiff, Nat.reduceLT, Nat.reduceSub]
            refine hK14 _ ?_
            clear hK14
            refine aw_seq fun K15 hK15 => ?_
            refine aw_ops zT fun K16 hK16 => ?_
            simp only [amset, amlib, zset, eq_self, ↓reduceIte, reduceCtorEq, Nat.reduceBEq, Nat.reduceEqDiff, Nat.reduceAdd, Nat.reduceMul, Nat.reduceLeDiff, Nat.reduceLT, Nat.reduceSub]
            refine hK16 _ ?_
            clear hK16
            refine aw_cond rfl (fun h5 => ?_) (fun h5 => ?_)
            · skip
              refine aw_region zT ?_
              simp only [amset, amlib, zset, eq_self, ↓reduceIte, reduceCtorEq, Nat.reduceBEq, Nat.reduceEqDiff, Nat.reduceAdd, Nat.reduceMul, Nat.reduceLeDiff, Nat.reduceLT, Nat.reduceSub]
              refine hK15 _ ?_
              clear hK15
              refine aw_draw zT prog_mixed fun K17 hK17 => ?_
              simp only [amset, amlib, zset, hget0, hget1, sgTab_symI, hlv, eq_self, ↓reduceIte, reduceCtorEq, Nat.reduceBEq, Nat.reduceEqDiff, Nat.reduceAdd, Nat.reduceMul, Nat.reduceLeDiff, Nat.reduceLT, Nat.reduceSub]
              refine ⟨⟨by omega, by omega⟩, ?_⟩
              refine ⟨_, ihop _ (List.getElem_mem (h := by omega)) _, ?_⟩
              simp only [later]
              simp only [amset, amlib, zset, hget0, hget1, sgTab_symI, hlv, eq_self, ↓reduceIte, reduceCtorEq, Nat.reduceBEq, Nat.reduceEqDiff, Nat.reduceAdd, Nat.reduceMul, Nat.reduceLeDiff, Nat.reduceLT, Nat.reduceSub]
              refine ⟨by have := hol0 (levI x.op); have := hol0 (levI x.op + 1); have := hol1 (levI x.op + 1); have := hol0 4; omega, ?_⟩
              refine ⟨_, holds167 x.op (by omega), ?_⟩
              simp only [later]
              simp only [amset, amlib, zset, hget0, hget1, sgTab_symI, hlv, eq_self, ↓reduceIte, reduceCtorEq, Nat.reduceBEq, Nat.reduceEqDiff, Nat.reduceAdd, Nat.reduceMul, Nat.reduceLeDiff, Nat.reduceLT, Nat.reduceSub]
              refine ⟨by have := hol0 (levI x.op); have := hol0 (levI x.op + 1); have := hol1 (levI x.op + 1); have := hol0 4; omega, ?_⟩
              refine ⟨by have := hol0 (levI x.op); have := hol0 (levI x.op + 1); have := hol1 (levI x.op + 1); have := hol0 4; omega, ?_⟩
              refine ⟨⟨by omega, by omega⟩, ?_⟩
              refine ⟨⟨by omega, by omega⟩, ?_⟩
              refine ⟨_, ihop _ (List.getElem_mem (h := by omega)) _, ?_⟩
              simp only [later]
              simp only [amset, amlib, zset, hget0, hget1, sgTab_symI, hlv, eq_self, ↓reduceIte, reduceCtorEq, Nat.reduceBEq, Nat.reduceEqDiff, Nat.reduceAdd, Nat.reduceMul, Nat.reduceLeDiff, Nat.reduceLT, Nat.reduceSub]
              refine ⟨by have := hol0 (levI x.op); have := hol0 (levI x.op + 1); have := hol1 (levI x.op + 1); have := hol0 4; omega, ?_⟩
              refine ⟨by kernel_rfl, ?_⟩
              refine hK17 _ ?_
              clear hK17
              refine aw_ret ?_
              show resOf zG _ [.tmp 2] = some _
              simp only [amset, amlib, zset, eq_self, ↓reduceIte, reduceCtorEq, Nat.reduceBEq, Nat.reduceEqDiff, Nat.reduceAdd, Nat.reduceMul, Nat.reduceLeDiff, Nat.reduceLT, Nat.reduceSub]
              have h3l : levI x.op = 3 := by rw [← hlv]; simpa using h5
              rw [txA_eq x]
              simp only [(show (x.kind == 1) = false by simp [hk]), (show (x.kind == 2) = false by simp [hk]), (show (x.kind == 3) = false by simp [hk]), (show (x.kind == 4) = false by simp [hk]), (show (x.kind == 5) = false by simp [hk]), htx0, htx1, sgTab_symI, h3l, Int.reduceBEq, Int.reduceAdd, ↓reduceIte, Bool.false_eq_true, bnT, List.append_assoc, List.cons_append, List.nil_append]
            · skip
              refine aw_skip ?_
              simp only [thenQ, blkQ, if_true, reduceIte, Nat.reduceEqDiff, eq_self]
              refine hK15 _ ?_
              clear hK15
              refine aw_draw zT prog_mixed fun K18 hK18 => ?_
              simp only [amset, amlib, zset, hget0, hget1, sgTab_symI, hlv, eq_self, ↓reduceIte, reduceCtorEq, Nat.reduceBEq, Nat.reduceEqDiff, Nat.reduceAdd, Nat.reduceMul, Nat.reduceLeDiff, Nat.reduceLT, Nat.reduceSub]
              refine ⟨⟨by omega, by omega⟩, ?_⟩
              refine ⟨_, ihop _ (List.getElem_mem (h := by omega)) _, ?_⟩
              simp only [later]
              simp only [amset, amlib, zset, hget0, hget1, sgTab_symI, hlv, eq_self, ↓reduceIte, reduceCtorEq, Nat.reduceBEq, Nat.reduceEqDiff, Nat.reduceAdd, Nat.reduceMul, Nat.reduceLeDiff, Nat.reduceLT, Nat.reduceSub]
              refine ⟨by have := hol0 (levI x.op); have := hol0 (levI x.op + 1); have := hol1 (levI x.op + 1); have := hol0 4; omega, ?_⟩
              refine ⟨_, holds167 x.op (by omega), ?_⟩
              simp only [later]
              simp only [amset, amlib, zset, hget0, hget1, sgTab_symI, hlv, eq_self, ↓reduceIte, reduceCtorEq, Nat.reduceBEq, Nat.reduceEqDiff, Nat.reduceAdd, Nat.reduceMul, Nat.reduceLeDiff, Nat.reduceLT, Nat.reduceSub]
              refine ⟨by have := hol0 (levI x.op); have := hol0 (levI x.op + 1); have := hol1 (levI x.op + 1); have := hol0 4; omega, ?_⟩
              refine ⟨by have := hol0 (levI x.op); have := hol0 (levI x.op + 1); have := hol1 (levI x.op + 1); have := hol0 4; omega, ?_⟩
              refine ⟨⟨by omega, by omega⟩, ?_⟩
              refine ⟨⟨by omega, by omega⟩, ?_⟩
              refine ⟨_, ihop _ (List.getElem_mem (h := by omega)) _, ?_⟩
              simp only [later]
              simp only [amset, amlib, zset, hget0, hget1, sgTab_symI, hlv, eq_self, ↓reduceIte, reduceCtorEq, Nat.reduceBEq, Nat.reduceEqDiff, Nat.reduceAdd, Nat.reduceMul, Nat.reduceLeDiff, Nat.reduceLT, Nat.reduceSub]
              refine ⟨by have := hol0 (levI x.op); have := hol0 (levI x.op + 1); have := hol1 (levI x.op + 1); have := hol0 4; omega, ?_⟩
              refine ⟨by kernel_rfl, ?_⟩
              refine hK18 _ ?_
              clear hK18
              refine aw_ret ?_
              show resOf zG _ [.tmp 2] = some _
              simp only [amset, amlib, zset, eq_self, ↓reduceIte, reduceCtorEq, Nat.reduceBEq, Nat.reduceEqDiff, Nat.reduceAdd, Nat.reduceMul, Nat.reduceLeDiff, Nat.reduceLT, Nat.reduceSub]
              rw [txA_eq x]
              simp only [(show (x.kind == 1) = false by simp [hk]), (show (x.kind == 2) = false by simp [hk]), (show (x.kind == 3) = false by simp [hk]), (show (x.kind == 4) = false by simp [hk]), (show (x.kind == 5) = false by simp [hk]), (show (levI x.op == 3) = false by rw [← hlv]; exact h5), htx0, htx1, sgTab_symI, ↓reduceIte, Bool.false_eq_true, bnT, List.append_assoc, List.cons_append, List.nil_append]
          · skip
            refine aw_skip ?_
            simp only [thenQ, blkQ, if_true, reduceIte, Nat.reduceEqDiff, eq_self]
            refine hK2 _ ?_
            clear hK2
            refine aw_ops zT fun K19 hK19 => ?_
            simp only [amset, amlib, zset, eq_self, ↓reduceIte, reduceCtorEq, Nat.reduceBEq, Nat.reduceEqDiff, Nat.reduceAdd, Nat.reduceMul, Nat.reduceLeDiff, Nat.reduceLT, Nat.reduceSub]
            refine hK19 _ ?_
            clear hK19
            refine aw_ret ?_
            show resOf zG _ [.tmp 2] = some _
            simp only [amset, amlib, zset, eq_self, ↓reduceIte, reduceCtorEq, Nat.reduceBEq, Nat.reduceEqDiff, Nat.reduceAdd, Nat.reduceMul, Nat.reduceLeDiff, Nat.reduceLT, Nat.reduceSub]
            have hwf := wf_facts hx
            simp only [beq_eq_false_iff_ne] at h0 h1 h2 h3 h4
            have hk : x.kind = 2 := by omega
            rw [txA_eq x]
            simp only [hk, Int.reduceBEq, ↓reduceIte, Bool.false_eq_true]
theorem holds95 (x : Ex) (hx : wfA x = true) (hv : i16r x.value) (hw : wdL x.args) (hs : (subE x).length ≤ 1000000000000) : Holds Tryz.prog zG 95 [.agg [.int .i64 x.kind, .str x.name, .int .i16 x.value, .int .i64 x.op, .sl 6 (encEs x.args), .int .i64 x.pos]] [.c (.str (txA x))] :=
  have hwf := wf_facts hx
  have ih : ∀ y ∈ x.args, Holds Tryz.prog zG 95 [.agg [.int .i64 y.kind, .str y.name, .int .i16 y.value, .int .i64 y.op, .sl 6 (encEs y.args), .int .i64 y.pos]] [.c (.str (txA y))] := fun y hy => holds95 y (hwf.2 y hy) (wdE_eq y ▸ wdL_mem hw hy).1 (wdE_eq y ▸ wdL_mem hw hy).2 (by have := subL_mem hy; have := subE_len x; omega)
  step95 x hx hv hw hs ih fun y hy least => step168 y least (fun hk => by have := (wf_facts (hwf.2 y hy)).1; omega) (by have := txA_len y (hwf.2 y hy) (wdE_eq y ▸ wdL_mem hw hy).1 (wdE_eq y ▸ wdL_mem hw hy).2; have := subL_mem hy; have := subE_len x; omega) (ih y hy)
  termination_by SizeOf.sizeOf x
  decreasing_by exact Ex.args_lt hy
end Go.Proofs.Am
set_option maxRecDepth 100000
set_option maxHeartbeats 4000000
namespace Go.Proofs.Am
theorem wfx_eq (x : Ex) : wfA x = exOK x := by
  have hl : (!(x.args.any fun y => !wfA y)) = exOKs x.args := by
    have key : ∀ l : List Ex, (∀ y ∈ l, y ∈ x.args) → (!(l.any fun y => !wfA y)) = exOKs l := by
      intro l
      induction l with
      | nil => intro _; rfl
      | cons y r ih =>
        intro hm
        rw [List.any_cons, Bool.not_or, Bool.not_not, ih (fun z hz => hm z (by simp [hz])), exOKs, wfx_eq y]
    exact key x.args fun _ h => h
  rw [wfA_eq, exOK_eq, hl]
  generalize exOKs x.args = w
  clear hl
  obtain ⟨k, n, v, o, a, p⟩ := x
  simp only [plainP, sameE, headOK, exTail, arityK, bareE, Ex.kind, Ex.name, Ex.value, Ex.op, Ex.args]
  by_cases k1 : k = 1
  · simp [k1]; cases w <;> simp <;> grind
  · by_cases k2 : k = 2
    · simp [k2]; cases w <;> simp <;> grind
    · by_cases k4 : k = 4
      · simp [k4]; cases w <;> simp <;> grind
      · by_cases k3 : k = 3
        · simp [k3]; cases w <;> simp <;> grind
        · by_cases k5 : k = 5
          · simp [k5]; cases w <;> simp <;> grind
          · by_cases k6 : k = 6
            · simp [k6]; cases w <;> simp <;> grind
            · simp [k1, k2, k3, k4, k5, k6]
  termination_by SizeOf.sizeOf x
  decreasing_by exact Ex.args_lt (hm y (by simp))
theorem prog35 : Tryz.prog.funcs[35]? = some Tryz.f35 := by kernel_rfl
theorem holds35 (x : Ex) (hv : i16r x.value) (hw : wdL x.args) (hs : (subE x).length ≤ 1000000000000) : Holds Tryz.prog zG 35 [.agg [.int .i64 x.kind, .str x.name, .int .i16 x.value, .int .i64 x.op, .sl 6 (encEs x.args), .int .i64 x.pos]] [.c (.str (if wfA x then txA x else []))] := by
  refine holds_of_body zT prog35 rfl rfl rfl (by simp [Tryz.f35]) ?_
  refine aw_ops zT fun K1 hK1 => ?_
  simp only [amset, amlib, zset, eq_self, ↓reduceIte, reduceCtorEq, Nat.reduceBEq, Nat.reduceEqDiff, Nat.reduceAdd, Nat.reduceMul, Nat.reduceLeDiff, Nat.reduceLT, Nat.reduceSub]
  refine hK1 _ ?_
  clear hK1
  refine aw_seq fun K2 hK2 => ?_
  refine aw_ops zT fun K3 hK3 => ?_
  simp only [amset, amlib, zset, ← wfx_eq, eq_self, ↓reduceIte, reduceCtorEq, Nat.reduceBEq, Nat.reduceEqDiff, Nat.reduceAdd, Nat.reduceMul, Nat.reduceLeDiff, Nat.reduceLT, Nat.reduceSub]
  refine ⟨_, (wfx_eq x ▸ holds26 x), ?_⟩
  simp only [later]
  simp only [amset, amlib, zset, ← wfx_eq, eq_self, ↓reduceIte, reduceCtorEq, Nat.reduceBEq, Nat.reduceEqDiff, Nat.reduceAdd, Nat.reduceMul, Nat.reduceLeDiff, Nat.reduceLT, Nat.reduceSub]
  refine hK3 _ ?_
  clear hK3
  refine aw_cond rfl (fun h0 => ?_) (fun h0 => ?_)
  · skip
    refine aw_ops zT fun K4 hK4 => ?_
    simp only [amset, amlib, zset, eq_self, ↓reduceIte, reduceCtorEq, Nat.reduceBEq, Nat.reduceEqDiff, Nat.reduceAdd, Nat.reduceMul, Nat.reduceLeDiff, Nat.reduceLT, Nat.reduceSub]
    refine hK4 _ ?_
    clear hK4
    refine aw_ret ?_
    show resOf zG _ [.tmp 2] = some _
    simp only [amset, amlib, zset, eq_self, ↓reduceIte, reduceCtorEq, Nat.reduceBEq, Nat.reduceEqDiff, Nat.reduceAdd, Nat.reduceMul, Nat.reduceLeDiff, Nat.reduceLT, Nat.reduceSub]
    have h1 : wfA x = !(!wfA x) := by simp
    rw [h1, h0]
    rfl
  · skip
    refine aw_skip ?_
    simp only [thenQ, blkQ, if_true, reduceIte, Nat.reduceEqDiff, eq_self]
    refine hK2 _ ?_
    clear hK2
    refine aw_ops zT fun K5 hK5 => ?_
    simp only [amset, amlib, zset, eq_self, ↓reduceIte, reduceCtorEq, Nat.reduceBEq, Nat.reduceEqDiff, Nat.reduceAdd, Nat.reduceMul, Nat.reduceLeDiff, Nat.reduceLT, Nat.reduceSub]
    refine ⟨_, holds95 x (by simpa using h0) hv hw hs, ?_⟩
    simp only [later]
    simp only [amset, amlib, zset, eq_self, ↓reduceIte, reduceCtorEq, Nat.reduceBEq, Nat.reduceEqDiff, Nat.reduceAdd, Nat.reduceMul, Nat.reduceLeDiff, Nat.reduceLT, Nat.reduceSub]
    refine hK5 _ ?_
    clear hK5
    refine aw_ret ?_
    show resOf zG _ [.tmp 2] = some _
    simp only [amset, amlib, zset, eq_self, ↓reduceIte, reduceCtorEq, Nat.reduceBEq, Nat.reduceEqDiff, Nat.reduceAdd, Nat.reduceMul, Nat.reduceLeDiff, Nat.reduceLT, Nat.reduceSub]
    have h1 : wfA x = !(!wfA x) := by simp
    rw [h1, h0]
    rfl
end Go.Proofs.Am
namespace Go.Proofs.Am
open Go.RowKit
section
variable {P : Program} {G : Ctx} {ok : Fr} {w0 : World} {N : Nat} {β β' : Nat → Option Nat} {Ω Ω' : Nat → Nat → Option Value} {s s4 : S} {a a4 : Act} {w w' w4 : World} {Q : X → S → Prop}
/-- A call that is handed no object at all. -/
theorem Holds.of_emp {f : FuncId} {args res : List A} {p' : OP} (h : HoldsO P G f args empP (some res) p') : Holds P G f args res := by
  refine ⟨h.1, fun ok w vs hng hglob hA => ?_⟩
  have h1 := h.2.2 ok w vs (fun _ => False) hng hglob hA (fun b hb => hb) (fun b hb => hb.elim)
  rw [List.append_nil] at h1
  refine Calls.mono h1 fun e w' he => ?_
  obtain ⟨u, fp', rfl, ⟨hsc, rs, rfl, hrs⟩, _, _, hb⟩ := he
  exact ⟨rs, rfl, hrs.scalar hsc, hb.below (fun b hb => hb)⟩
/-- A function value that holds one variable is done: it is a datum from here on. -/
theorem aw_seal {c : Code} {env : List (Nat × V)} {box : List (Nat × List Cell)} (t k : Nat) {f : FuncId} {x : C} (ht : amLook t env = some (.clo f [(k, 0)])) (hk : amLook k box = some [.c x]) (h : AW P G N c ⟨[(t, .cell (.c (.clo f [x])))], []⟩ Q) : AW P G N c ⟨env, box⟩ Q := by
  intro hd ok w0 β Ω a w hng hR r hr
  refine h hd ok w0 (fun _ => none) (fun _ _ => none) a w hng ?_ r hr
  have hF : ∀ b, okF G ok w0.heap.size β Ω b → okF G ok w0.heap.size (fun _ => none) (fun _ _ => none) b := okF_mono (fun b hm => by
    rcases hm with ⟨_, h⟩ | ⟨_, _, _, h, _⟩ <;> cases h)
  obtain ⟨vs, h1, h2, h3⟩ := hR.env t _ ht
  obtain ⟨b, h4, h5⟩ := h3 0 k 0 rfl
  obtain ⟨us, ty, h6, h7⟩ := hR.boxB h4 hk
  cases vs with
  | nil => cases h2
  | cons v r2 =>
    cases r2 with
    | cons _ _ => cases h2
    | nil =>
      injection h5 with h5
      subst h5
      obtain ⟨u, hu, hx⟩ : ∃ u, us.toList = [u] ∧ RepC w (okF G ok w0.heap.size β Ω) x u := by
        generalize us.toList = l at h7
        cases h7 with
        | cons h8 r => cases r; exact ⟨_, rfl, h8⟩
      have hbl := hR.bB k b h4
      refine ⟨hR.below, hR.xok, hR.glob, hR.defers.keeps (Keeps.grow w hF).def, hR.size, fun t' v' hv => ?_, fun k cs hc => (by cases hc), fun _ _ _ h => (by cases h), fun _ _ _ _ _ _ _ h => (by cases h), fun _ _ _ _ _ h => (by cases h), fun _ _ h => (by cases h), fun _ _ _ _ h => (by cases h)⟩
      have hv' : (if t' = t then some (V.cell (.c (.clo f [x]))) else none) = some v' := hv
      split at hv'
      · rename_i e
        injection hv' with hv'
        subst hv' e
        refine ⟨[⟨b, 0, none⟩], h1, ⟨b, 0, none⟩, [], rfl, ⟨.inr ⟨hbl.1, fun hm => ?_⟩, hbl.2, u, ?_, RepC.keeps (Keeps.growW w hF) x u hx⟩, rfl⟩
        · rcases hm with ⟨_, h⟩ | ⟨_, _, _, h, _⟩ <;> cases h
        · rw [cell_at h6]
          have : us.toList[0]? = some u := by rw [hu]; rfl
          simpa using this
      · cases hv'
/-- A new variable that is handed out as an object. -/
theorem aw_newobj {id : Nat} {o : Oper} {y : Code} {t e : Nat} {z : Value} (hdst : o.dst = some t) (hgd : o.guard = none) (ho : o.op = .alloc e) (hz : ∃ i, P.info? e = some i ∧ i.zero = some z) {q : Nat → OP} (hst : ∀ b, Stab (q b))
    (hq : ∀ (b : Nat) (w : World) F fp, w.heap[b]? = some (.cells z.cells e (0, 0)) → (∀ x, fp x ↔ x = b) → q b F w fp) (hobj : amLook 1000000 s.box = some [.objst empP]) (hok : s.objOk = true)
    (h : ∀ b, AW P G N y ⟨(t, .cell (.c (.val (.pointer (some ⟨b, 0, none⟩))))) :: s.env, (1000000, [.objst (q b)]) :: s.box⟩ Q) : AW P G N (.seq (.region id #[o] false) y) s Q := by
  refine aw_seq fun K hK => ?_
  intro hd ok w0 β Ω a w hng hR r hr
  have hdN : t < N := by
    have h1 : (#[o] : Array Oper).toList.all (dstIn N) = true := hd
    simp only [List.all_cons, List.all_nil, Bool.and_true] at h1
    rw [dstIn, hdst] at h1
    simpa using h1
  refine wpIn_region ?_
  show wpOpsIn (FR r) 0 P #[o] _ [0] a w
  rw [wpOpsIn_cons]
  unfold wpOpIn
  have ho0 : (#[o] : Array Oper)[0]? = some o := rfl
  simp only [ho0]
  rw [if_pos (by simp [Region.wanted, hgd])]
  obtain ⟨i, hi, hz⟩ := hz
  have hrun : (execOp a.eval o).run P w = .ok (.value (.pointer (some ⟨w.heap.size, 0, none⟩))) (w.alloc (.cells z.cells e)) := by
    simp [execOp, ho, Instr.alloc, zeroValue, typeInfo, hi, hz, newVar, newRow]
  refine win_value (fun c hc => by rw [ho] at hc; cases hc) hrun ?_
  obtain ⟨_, _, fp0, hp0, hm0⟩ := hR.obj hobj
  have hbw : Below w.heap.size w (w.alloc (.cells z.cells e)) := (Below.refl _ w).alloc (Nat.le_refl _) _
  obtain ⟨Ω1, hR2⟩ := hR.afterObj (w' := w.alloc (.cells z.cells e)) (p' := q w.heap.size) hobj (objOkP hok) (fp := fp0) (fp' := fun b => b = w.heap.size) hm0 (hst _) (hq _ _ _ _ (heap_alloc_new w _) (fun x => Iff.rfl))
    (fun b hb => ⟨by rw [hb]; simp, .inr (by omega)⟩) (.of hbw) hng
  refine ⟨.norm, _, β, Ω1, rfl, hK _ (h w.heap.size), ?_⟩
  have := hR2.put (dst := some t) (v := .cell (.c (.val (.pointer (some ⟨w.heap.size, 0, none⟩))))) (x := .pointer (some ⟨w.heap.size, 0, none⟩)) (fun d hd => by injection hd with hd; omega) ⟨rfl, rfl, rfl⟩
  rw [hdst]
  exact this
end
end Go.Proofs.Am
namespace Go.Proofs.Am
open Go.RowKit
theorem size117 : (Tryz.prog.info? 117).map (·.size) = some 2 := by kernel_rfl
theorem lies117 : liesAt Tryz.prog Tryz.prog.depth 117 (2 / Tryz.prog.cellsOf 117) 0 117 1 = true := by kernel_rfl
theorem info5 : (Tryz.prog.info? 5).map (fun i => (i.zero, i.size, i.bytes)) = some (some (.int .u8 0), 1, 1) := by kernel_rfl
theorem cells5 : Tryz.prog.cellsOf 5 = 1 := by kernel_rfl
set_option maxHeartbeats 1000000 in
set_option maxRecDepth 100000 in
theorem bcheck_used (b : Nat) (w : World) (h0 : w.cell? ⟨b, 0, none⟩ = some (.pointer (some ⟨b, 0, none⟩))) :
    Calls Tryz.prog 158 #[.pointer (some ⟨b, 0, none⟩)] w fun e w' => e = .returned (.tuple #[]) ∧ w' = w := by
  obtain ⟨j, hj, _⟩ := Option.map_eq_some_iff.1 size117
  go_enter Tryz.func158, Tryz.ntmps158
  go_wp2
  rw [Lib.run_neq_ptr_same w _ Tryz.underlying114 hj]
  go_wp2
  go_end0
  exact ⟨rfl, rfl⟩
set_option maxHeartbeats 1000000 in
set_option maxRecDepth 100000 in
theorem bcheck_fresh (b : Nat) (w : World) (h0 : w.cell? ⟨b, 0, none⟩ = some (.pointer none)) (hsh : w.shape? b = some (117, 2)) (hfz : w.frozen? ⟨b, 0, none⟩ = false) :
    Calls Tryz.prog 158 #[.pointer (some ⟨b, 0, none⟩)] w fun e w' => e = .returned (.tuple #[]) ∧ w' = w.setCell ⟨b, 0, none⟩ (.pointer (some ⟨b, 0, none⟩)) := by
  obtain ⟨j, hj, hjs⟩ := Option.map_eq_some_iff.1 size117
  go_enter Tryz.func158, Tryz.ntmps158
  go_wp2
  rw [Lib.run_to_unsafe w ⟨b, 0, none⟩ Tryz.underlying114 Tryz.underlying222 hj (by rw [hjs]; decide) hsh (Nat.zero_lt_succ 1)]
  simp only [Result.andThen]
  rw [Oper.upon_value]
  go_wp2
  rw [run_callFunc_extern Tryz.func198 (by kernel_rfl) (by kernel_rfl) (by kernel_rfl) (e := Extern.AbiNoEscape.same) (by kernel_rfl)]
  rw [Lib.run_noEscape]
  simp only [Result.andThen]
  rw [Oper.upon_value]
  go_wp2
  rw [Lib.run_from_unsafe w ⟨b, 0, none⟩ Tryz.underlying222 Tryz.underlying114 hj hsh lies117]
  simp only [Result.andThen]
  rw [Oper.upon_value]
  go_wp2
  go_end0
  exact ⟨rfl, rfl⟩
set_option maxRecDepth 100000 in
theorem bappend (w : World) (ty : TypeId) (v : Value) (n : Nat) (xs : List Value) (hown : w.ownsRow 0 5 1 v n xs) (s : ByteArray) (hbytes : n + s.size ≤ 140737488355328) :
    ∃ v' w', (Builtin.append_ #[115, 9] ty #[v, .string s]).run Tryz.prog w = .ok v' w' ∧ w'.ownsRow 0 5 1 v' (n + s.size) (xs ++ Lib.strCells s) ∧ w.grownBy w' v.ownBlock ∧
      (∀ g, v'.ownBlock = some g → v.ownBlock = some g ∨ w.heap.size ≤ g) := by
  obtain ⟨i, hi, hz⟩ := Option.map_eq_some_iff.1 info5
  injection hz with hz1 hz2
  injection hz2 with hz2 hz3
  have hm : n + s.size ≤ maxLen := by unfold maxLen; omega
  obtain ⟨v', w', hr, h2, h3, _⟩ := Lib.run_append_own_string (P := Tryz.prog) w 0 115 9 ty 5 i Tryz.underlying115 Tryz.underlying9 hi hz1 hz2 hz3 v n xs hown s hm hbytes (Nat.zero_le _)
  refine ⟨v', w', hr, h2, h3, fun g hg => ?_⟩
  rcases hown.2 with ⟨rfl, rfl⟩ | ⟨g0, cap, cur, rfl, _, hg0, hnc, hcm, hcs, htk⟩
  · have hx : xs = [] := List.eq_nil_of_length_eq_zero (by simpa using hown.1)
    subst hx
    obtain ⟨v1, w1, hr1, h21, _, _⟩ := Lib.run_append_own_string (P := Tryz.prog) w w.heap.size 115 9 ty 5 i Tryz.underlying115 Tryz.underlying9 hi hz1 hz2 hz3 (.slice none 0 0) 0 [] (World.ownsRow_nil _ _ _ _) s hm hbytes (Nat.le_refl _)
    have he := hr.symm.trans hr1
    injection he with he1 he2
    subst he1
    exact .inr (h21.lt g hg).1
  · by_cases hroom : n + s.size ≤ cap
    · left
      have hr1 := Lib.run_append_room_string (P := Tryz.prog) w 115 9 ty 5 i Tryz.underlying115 Tryz.underlying9 hi hz2 g0 n cap cur hg0 s hroom (by omega)
      have he := hr.symm.trans hr1
      injection he with he1 he2
      subst he1
      exact hg
    · right
      have hg48 : Builtin.nextslicecap (n + s.size) cap * i.bytes ≤ 281474976710656 := by rw [hz3]; exact growslice_fits (by omega) (by omega)
      have hr1 := Lib.run_append_grow_string (P := Tryz.prog) w 115 9 ty 5 i (.int .u8 0) Tryz.underlying115 Tryz.underlying9 hi hz1 ⟨g0, 0, none⟩ n cap xs (by rw [hz2]; simpa using hown.1) (hown.cells (g := g0) rfl) s (by omega) (by omega) hg48
      have he := hr.symm.trans hr1
      injection he with he1 he2
      subst he1
      injection hg with hg
      exact Nat.le_of_eq hg
theorem wpList_bappend {w : World} {ops : Array Oper} {rest : List Oper} {o : Oper} {a : Act} {Q : Exit → Act → World → Prop} (hgd : o.guard = none) (sl x : Operand)
    (ho : o.op = .call { callee := .builtin .append, args := #[sl, x], argTypes := #[115, 9] }) (v : Value) (n : Nat) (xs : List Value) (hs : a.eval sl = v) (hown : w.ownsRow 0 5 1 v n xs) (s : ByteArray) (hx : a.eval x = .string s) (hbytes : n + s.size ≤ 140737488355328)
    (h : ∀ v' w', w'.ownsRow 0 5 1 v' (n + s.size) (xs ++ Lib.strCells s) → w.grownBy w' v.ownBlock → (∀ g, v'.ownBlock = some g → v.ownBlock = some g ∨ w.heap.size ≤ g) → wpList Tryz.prog ops Q rest (a.put o.dst v') w') : wpList Tryz.prog ops Q (o :: rest) a w := by
  refine wpList_plain hgd fun K hK => ?_
  obtain ⟨v', w', hr, h2, h3, h4⟩ := bappend w o.type v n xs hown s hbytes
  unfold Oper.wp execOp
  simp only [ho, resolve, invoke, builtin, Sem.run_bind, Sem.run_pure, Result.andThen_ok, List.map_toArray, List.map_cons, List.map_nil, hs, hx, hr]
  exact hK _ _ (h v' w' h2 h3 h4)
/-- A builder in block b, of the bytes l: its own blocks are b and its buffer's. -/
def BldAt (b : Nat) (l : List UInt8) (w : World) (p v : Value) : Prop :=
  (p = .pointer none ∨ p = .pointer (some ⟨b, 0, none⟩)) ∧ w.heap[b]? = some (.cells #[p, v] 117 (0, 0)) ∧ w.ownsRow 0 5 1 v l.length (Lib.byteCells l) ∧ v.ownBlock ≠ some b ∧ (l = [] → v = .slice none 0 0)
def bldP (b : Nat) (l : List UInt8) : OP := fun F w fp => ∃ p v, BldAt b l w p v ∧ ∀ x, fp x ↔ (x = b ∨ v.ownBlock = some x)
theorem Stab.bld {b : Nat} {l : List UInt8} : Stab (bldP b l) := by
  rintro F F' w w' fp ⟨p, v, ⟨h1, h2, h3, h4, h5⟩, h6⟩ hk hs
  exact ⟨p, v, ⟨h1, (hs b ((h6 b).2 (.inl rfl))).trans h2, ownsRow_same h3 (fun g hg => hs g ((h6 g).2 (.inr hg))), h4, h5⟩, h6⟩
set_option maxHeartbeats 2000000 in
set_option maxRecDepth 100000 in
theorem bwrite_used (b : Nat) (l : List UInt8) (v : Value) (s : ByteArray) (w : World) (h : BldAt b l w (.pointer (some ⟨b, 0, none⟩)) v) (hlen : l.length + s.size ≤ 140737488355328) (hs0 : s.size ≠ 0) (w0 : World) (R : Ending → World → Prop) (hR : ∀ e w', R e w' → e = .returned (.tuple #[]) ∧ w' = w) (hck : Calls Tryz.prog 158 #[.pointer (some ⟨b, 0, none⟩)] w0 R) :
    Calls Tryz.prog 85 #[.pointer (some ⟨b, 0, none⟩), .string s] w0 fun e w' => (∃ u, e = .returned u) ∧ ∃ v', BldAt b (l ++ s.data.toList) w' (.pointer (some ⟨b, 0, none⟩)) v' ∧ (∀ g, v'.ownBlock = some g → v.ownBlock = some g ∨ w.heap.size ≤ g) ∧
      w'.os = w.os ∧ w'.tape = w.tape ∧ w'.output = w.output ∧ w.heap.size ≤ w'.heap.size ∧ ∀ k, k < w.heap.size → k ≠ b → v.ownBlock ≠ some k → w'.heap[k]? = w.heap[k]? := by
  obtain ⟨_, hbk, hown, hne, _⟩ := h
  have c0 : w.cell? ⟨b, 0, none⟩ = some (.pointer (some ⟨b, 0, none⟩)) := by rw [Lib.cell_of_heap hbk]; rfl
  have c1 : w.cell? ⟨b, 1, none⟩ = some v := by rw [Lib.cell_of_heap hbk]; rfl
  go_enter Tryz.func85, Tryz.ntmps85
  go_wp2_with (go_at_call 158; refine hck.mono ?_)
  intro e w1 hw1
  obtain ⟨rfl, rfl⟩ := hR e w1 hw1
  go_wp2_with (at_builtin; refine wpList_bappend rfl _ _ rfl v _ _ rfl hown s rfl hlen ?_)
  intro v' w2 hown' hgrow hblk
  have hlt : b < w1.heap.size := by
    rcases Nat.lt_or_ge b w1.heap.size with h' | h'
    · exact h'
    · simp [Array.getElem?_eq_none h'] at hbk
  have hb2 : w2.heap[b]? = some (.cells #[.pointer (some ⟨b, 0, none⟩), v] 117 (0, 0)) := by
    rw [hgrow.block b hlt (fun e => hne e.symm)]
    exact hbk
  have d0 : w2.cell? ⟨b, 0, none⟩ = some (.pointer (some ⟨b, 0, none⟩)) := by rw [Lib.cell_of_heap hb2]; rfl
  have d1 : w2.cell? ⟨b, 1, none⟩ = some v := by rw [Lib.cell_of_heap hb2]; rfl
  have f1 : w2.frozen? ⟨b, 1, none⟩ = false := Lib.frozen_of_heap hb2 1
  obtain ⟨ao, n', cap, rfl⟩ : ∃ ao n' cap, v' = .slice ao n' cap := by
    rcases hown'.2 with ⟨hv, _⟩ | ⟨g, cap, cur, hv, _⟩
    · exact ⟨_, _, _, hv⟩
    · exact ⟨_, _, _, hv⟩
  go_wp2
  go_ret2
  have hneb : (Value.slice ao n' cap).ownBlock ≠ some b := fun e => by
    rcases hblk b e with h1 | h1
    · exact hne h1
    · omega
  refine ⟨⟨_, rfl⟩, .slice ao n' cap, ⟨.inr rfl, ?_, ?_, hneb, fun e => ?_⟩, hblk, hgrow.os, hgrow.tape, hgrow.output, ?_, fun k hk h1 h2 => ?_⟩
  · simp [World.setCell, Array.getElem?_modify, hb2]
  · have he : (l ++ s.data.toList).length = l.length + s.size := by rw [List.length_append, Lib.size_eq]
    rw [he, Lib.byteCells_append, ← Lib.strCells_eq]
    refine ownsRow_same hown' fun g hg => ?_
    exact Below.heap_setCell _ _ _ _ (fun e => hneb (by rw [hg]; exact congrArg some e))
  · have h1 := congrArg List.length e
    rw [List.length_append, List.length_nil, ← Lib.size_eq] at h1
    omega
  · show w1.heap.size ≤ (w2.heap.modify _ _).size
    rw [Array.size_modify]; exact hgrow.size
  · exact (Below.heap_setCell _ _ _ _ h1).trans (hgrow.block k hk (fun e => h2 e.symm))
theorem mk_size (s : List UInt8) : (⟨s.toArray⟩ : ByteArray).size = s.length := by simp [ByteArray.size]
theorem fnOk85 : FnOk Tryz.prog 85 := ⟨Tryz.f85, by kernel_rfl, rfl, by rfl⟩
theorem fnOk90 : FnOk Tryz.prog 90 := ⟨Tryz.f90, by kernel_rfl, rfl, by rfl⟩
set_option maxRecDepth 100000 in
theorem holds85 (b : Nat) (l s : List UInt8) (hl : l.length + s.length ≤ 140737488355328) (hs : s ≠ []) : HoldsO Tryz.prog zG 85 [.c (.val (.pointer (some ⟨b, 0, none⟩))), .c (.str s)] (bldP b l) none (bldP b (l ++ s)) := by
  refine ⟨fnOk85, Stab.bld, fun okp w vs fp hng hglob hA hp hfp => ?_⟩
  obtain ⟨v1, v2, rfl, h1, h2⟩ : ∃ v1 v2, vs = [v1, v2] ∧ RepA w okp (.c (.val (.pointer (some ⟨b, 0, none⟩)))) v1 ∧ RepA w okp (.c (.str s)) v2 := by
    cases hA with
    | cons h1 r => cases r with
      | cons h2 r => cases r; exact ⟨_, _, rfl, h1, h2⟩
  obtain rfl : v1 = .pointer (some ⟨b, 0, none⟩) := h1.1
  obtain ⟨rfl, _⟩ : v2 = .string ⟨s.toArray⟩ ∧ s.length ≤ maxLen := h2
  obtain ⟨p, v, ⟨hp1, hbk, hown, hne, hl0⟩, hfp2⟩ := hp
  have hsz := mk_size s
  have hlt : b < w.heap.size := (hfp b ((hfp2 b).2 (.inl rfl))).1
  have key : ∀ w1 : World, BldAt b l w1 (.pointer (some ⟨b, 0, none⟩)) v → w1.os = w.os → w1.tape = w.tape → w1.output = w.output → w1.heap.size = w.heap.size → (∀ k, k ≠ b → w1.heap[k]? = w.heap[k]?) →
      Calls Tryz.prog 158 #[.pointer (some ⟨b, 0, none⟩)] w (fun e w' => e = .returned (.tuple #[]) ∧ w' = w1) → Calls Tryz.prog 85 (([Value.pointer (some ⟨b, 0, none⟩), Value.string ⟨s.toArray⟩] ++ []).toArray) w fun e w' => ObjPost zG okp w fp none (bldP b (l ++ s)) e w' := by
    intro w1 h1 e1 e2 e3 e4 e5 hck
    refine (bwrite_used b l v ⟨s.toArray⟩ w1 h1 (by rw [hsz]; exact hl) (by rw [hsz]; simpa using hs) w _ (fun _ _ h => h) hck).mono ?_
    rintro e w' ⟨⟨u, rfl⟩, v', hB, hblk, q1, q2, q3, q4, q5⟩
    have hsame : ∀ k, k < w.heap.size → ¬ fp k → w'.heap[k]? = w.heap[k]? := fun k hk hf => by
      have hkb : k ≠ b := fun e => hf ((hfp2 k).2 (.inl e))
      exact (q5 k (by omega) hkb (fun e => hf ((hfp2 k).2 (.inr e)))).trans (e5 k hkb)
    refine ⟨u, fun x => x = b ∨ v'.ownBlock = some x, rfl, trivial, ⟨_, v', hB, fun x => Iff.rfl⟩, fun x hx => ?_, ⟨q1.trans e1, q2.trans e2, q3.trans e3, by omega, hsame⟩⟩
    rcases hx with rfl | hx
    · exact ⟨by omega, .inl ((hfp2 x).2 (.inl rfl))⟩
    · refine ⟨(hB.2.2.1.lt x hx).2, ?_⟩
      rcases hblk x hx with h3 | h3
      · exact .inl ((hfp2 x).2 (.inr h3))
      · exact .inr (by omega)
  rcases hp1 with rfl | rfl
  · have hbk2 : (w.setCell ⟨b, 0, none⟩ (.pointer (some ⟨b, 0, none⟩))).heap[b]? = some (.cells #[.pointer (some ⟨b, 0, none⟩), v] 117 (0, 0)) := by
      simp [World.setCell, Array.getElem?_modify, hbk]
    refine key (w.setCell ⟨b, 0, none⟩ (.pointer (some ⟨b, 0, none⟩))) ⟨.inr rfl, hbk2, ownsRow_same hown (fun g hg => Below.heap_setCell _ _ _ _ (fun e => hne (by rw [hg]; exact congrArg some e))), hne, hl0⟩ rfl rfl rfl (by simp [World.setCell]) (fun k hk => Below.heap_setCell _ _ _ _ hk) ?_
    exact bcheck_fresh b w (by rw [Lib.cell_of_heap hbk]; rfl) (by simp [World.shape?, hbk]) (Lib.frozen_of_heap hbk 0)
  · exact key w ⟨.inr rfl, hbk, hown, hne, hl0⟩ rfl rfl rfl rfl (fun _ _ => rfl) (bcheck_used b w (by rw [Lib.cell_of_heap hbk]; rfl))
theorem freeze_other (w : World) (a : Addr) (n k : Nat) (h : k ≠ a.block) : (w.freeze a n).heap[k]? = w.heap[k]? := by
  unfold World.freeze
  split
  · rfl
  · rw [Array.getElem?_modify, if_neg (fun e => h e.symm)]
set_option maxHeartbeats 2000000 in
set_option maxRecDepth 100000 in
theorem bstring_nil (b : Nat) (p : Value) (w : World) (hbk : w.heap[b]? = some (.cells #[p, .slice none 0 0] 117 (0, 0))) :
    Calls Tryz.prog 90 #[.pointer (some ⟨b, 0, none⟩)] w fun e w' => e = .returned (.string ⟨#[]⟩) ∧ w'.heap = w.heap ∧ w'.os = w.os ∧ w'.tape = w.tape ∧ w'.output = w.output := by
  have hUS : ∀ (W : World) (q : Option Addr), (Builtin.unsafeString_ #[195, 3] 9 #[.pointer q, .int .i64 0]).run Tryz.prog W = .ok (.string .empty) W := fun W q => Lib.run_unsafeString_none W _ _ _ q
  have c1 : w.drew.cell? ⟨b, 1, none⟩ = some (.slice none 0 0) := by
    have : w.drew.heap[b]? = some (.cells #[p, .slice none 0 0] 117 (0, 0)) := hbk
    rw [Lib.cell_of_heap this]; rfl
  have hSD : (Builtin.unsafeSliceData_ #[115] 195 #[.slice none 0 0]).run Tryz.prog w.drew = .ok (.pointer none) w.drew := rfl
  go_enter Tryz.func90, Tryz.ntmps90
  go_wp2
  go_region
  all_goals (go_wp2; go_ret; exact ⟨rfl, rfl, rfl, rfl, rfl⟩)
set_option maxHeartbeats 2000000 in
set_option maxRecDepth 100000 in
theorem bstring_full (b : Nat) (l : List UInt8) (p v : Value) (w : World) (hbk : w.heap[b]? = some (.cells #[p, v] 117 (0, 0))) (hown : w.ownsRow 0 5 1 v l.length (Lib.byteCells l)) (h0 : l ≠ []) :
    Calls Tryz.prog 90 #[.pointer (some ⟨b, 0, none⟩)] w fun e w' => e = .returned (.string ⟨l.toArray⟩) ∧ w'.heap.size = w.heap.size ∧ (∀ k, v.ownBlock ≠ some k → w'.heap[k]? = w.heap[k]?) ∧ w'.os = w.os ∧ w'.tape = w.tape ∧ w'.output = w.output := by
  have hl0 : l.length ≠ 0 := by simpa using h0
  obtain ⟨g, cap, cur, rfl, hbg, hg, hnc, hcm, hcs, htake⟩ : ∃ g cap cur, v = .slice (some ⟨g, 0, none⟩) l.length cap ∧ 0 ≤ g ∧ w.heap[g]? = some (.cells cur 5 (0, 0)) ∧ l.length ≤ cap ∧ cap ≤ maxLen ∧ cur.size = cap * 1 ∧ cur.toList.take (l.length * 1) = Lib.byteCells l := by
    rcases hown.2 with ⟨_, hz⟩ | ⟨g, cap, cur, hv, r⟩
    · exact absurd hz hl0
    · exact ⟨g, cap, cur, hv, r⟩
  have c1 : w.drew.cell? ⟨b, 1, none⟩ = some (.slice (some ⟨g, 0, none⟩) l.length cap) := by
    have : w.drew.heap[b]? = some (.cells #[p, .slice (some ⟨g, 0, none⟩) l.length cap] 117 (0, 0)) := hbk
    rw [Lib.cell_of_heap this]; rfl
  have hSD : (Builtin.unsafeSliceData_ #[115] 195 #[.slice (some ⟨g, 0, none⟩) l.length cap]).run Tryz.prog w.drew = .ok (.pointer (some ⟨g, 0, none⟩)) w.drew :=
    Lib.run_unsafeSliceData_row _ _ _ _ _ _ (by omega)
  have hUS : (Builtin.unsafeString_ #[195, 3] 9 #[.pointer (some ⟨g, 0, none⟩), .int .i64 l.length]).run Tryz.prog w.drew = .ok (.string ⟨l.toArray⟩) (w.drew.freeze ⟨g, 0, none⟩ l.length) := by
    refine Lib.run_unsafeString_row w.drew 195 3 9 5 Tryz.underlying195 cells5 g cur.size (by have hg' : w.drew.heap[g]? = some (.cells cur 5 (0, 0)) := hg; simp [World.shape?, hg']) l h0 (by omega) (by unfold maxLen at hcm; omega) ?_
    intro j x hx
    have := hown.cells (g := g) rfl j (.int .u8 x.toNat) (by simp [Lib.byteCells, hx])
    exact this
  go_enter Tryz.func90, Tryz.ntmps90
  go_wp2
  go_region
  all_goals (go_wp2; go_ret; exact ⟨rfl, by simp [World.freeze, hl0], fun k hk => freeze_other _ _ _ k (fun e => hk (by rw [e]; rfl)), by simp [World.freeze, hl0] <;> rfl, by simp [World.freeze, hl0] <;> rfl, by simp [World.freeze, hl0] <;> rfl⟩)
/-- Behind 'String' nothing more is known of the builder than where it lies. -/
def spentP : OP := fun _ w fp => True
theorem Stab.spent : Stab spentP := fun _ _ _ _ _ _ _ _ => trivial
set_option maxRecDepth 100000 in
theorem holds90 (b : Nat) (l : List UInt8) : HoldsO Tryz.prog zG 90 [.c (.val (.pointer (some ⟨b, 0, none⟩)))] (bldP b l) (some [.c (.str l)]) spentP := by
  refine ⟨fnOk90, Stab.spent, fun okp w vs fp hng hglob hA hp hfp => ?_⟩
  obtain ⟨v1, rfl, h1⟩ : ∃ v1, vs = [v1] ∧ RepA w okp (.c (.val (.pointer (some ⟨b, 0, none⟩)))) v1 := by
    cases hA with
    | cons h1 r => cases r; exact ⟨_, rfl, h1⟩
  obtain rfl : v1 = .pointer (some ⟨b, 0, none⟩) := h1.1
  obtain ⟨p, v, ⟨hp1, hbk, hown, hne, hl0⟩, hfp2⟩ := hp
  have hlm : l.length ≤ maxLen := by
    rcases hown.2 with ⟨_, h⟩ | ⟨g, cap, cur, _, _, _, h1, h2, _⟩ <;> omega
  have fin : ∀ (w' : World), w'.heap.size = w.heap.size → (∀ k, v.ownBlock ≠ some k → w'.heap[k]? = w.heap[k]?) → w'.os = w.os → w'.tape = w.tape → w'.output = w.output → ObjPost zG okp w fp (some [.c (.str l)]) spentP (.returned (.string ⟨l.toArray⟩)) w' := by
    intro w' e1 e2 e3 e4 e5
    exact ⟨_, fp, rfl, ⟨rfl, [_], rfl, .cons ⟨rfl, hlm⟩ .nil⟩, trivial, fun x hx => ⟨by rw [e1]; exact (hfp x hx).1, .inl hx⟩, ⟨e3, e4, e5, by omega, fun k _ hk => e2 k (fun e => hk ((hfp2 k).2 (.inr e)))⟩⟩
  by_cases h0 : l = []
  · subst h0
    obtain rfl := hl0 rfl
    refine (bstring_nil b p w hbk).mono ?_
    rintro e w' ⟨rfl, h2, h3, h4, h5⟩
    exact fin w' (by rw [h2]) (fun k _ => by rw [h2]) h3 h4 h5
  · refine (bstring_full b l p v w hbk hown h0).mono ?_
    rintro e w' ⟨rfl, h2, h3, h4, h5, h6⟩
    exact fin w' h2 h3 h4 h5 h6
end Go.Proofs.Am
set_option maxRecDepth 100000
set_option maxHeartbeats 4000000
namespace Go.Proofs.Am
def tX (x : St) (n : Nat) : List UInt8 := ((txL x.args).getD n (0, [])).2
def smA (x : St) : List UInt8 := if x.kind == 1 then [108, 101, 116, 32] ++ x.name ++ [32, 61, 32] ++ tX x 0 ++ [59] else if x.kind == 2 then x.name ++ [32, 61, 32] ++ tX x 0 ++ [59] else if x.kind == 3 then x.name ++ [91] ++ tX x 0 ++ [93, 32, 61, 32] ++ tX x 1 ++ [59] else if x.kind == 7 then [115, 101, 110, 100, 32] ++ x.name ++ [32] ++ tX x 0 ++ [59] else if x.kind == 8 then [101, 109, 105, 116, 32] ++ tX x 0 ++ [59] else if x.kind == 9 then [111, 117, 116, 112, 117, 116, 32] ++ x.name ++ [32] ++ tX x 0 ++ [59] else if x.kind == 12 then [99, 104, 101, 99, 107, 112, 111, 105, 110, 116, 59] else [114, 101, 116, 117, 114, 110, 59]
def hdA (x : St) : List UInt8 := if x.kind == 4 then [105, 102, 32] ++ tX x 0 ++ [32, 123] else if x.kind == 6 then [119, 104, 105, 108, 101, 32] ++ tX x 0 ++ [32, 123] else if x.kind == 5 then [114, 101, 112, 101, 97, 116, 32] ++ Lib.itoa x.n ++ [32, 123] else if x.kind == 10 then [102, 114, 101, 115, 104, 32] ++ Lib.itoa x.n ++ [32, 123] else [116, 111, 103, 101, 116, 104, 101, 114, 32] ++ Lib.itoa x.n ++ [32, 123]
def agOK (x : St) : Prop := ((x.kind = 1 ∨ x.kind = 2 ∨ x.kind = 4 ∨ x.kind = 6 ∨ x.kind = 7 ∨ x.kind = 8 ∨ x.kind = 9) → 1 ≤ x.args.length) ∧ (x.kind = 3 → 2 ≤ x.args.length)
theorem i64_itoa (n : Int) (h : 0 ≤ n ∧ n ≤ 32767) : -9223372036854775808 ≤ n ∧ n ≤ 9223372036854775807 ∧ (Lib.itoa n).length ≤ 30 := by
  have := Lib.itoa_length_le n (by omega) (by omega)
  omega
def optA (w : List UInt8) (n : Int) : List UInt8 := if n == 0 then [] else [32] ++ w ++ [32] ++ Lib.itoa n
def varA (g : Gl) : List UInt8 := if decide (g.len > 0) then [118, 97, 114, 32] ++ g.name ++ [91] ++ Lib.itoa g.len ++ [93, 59, 10] else if g.init != 0 then [118, 97, 114, 32] ++ g.name ++ [32, 61, 32] ++ Lib.itoa g.init ++ [59, 10] else [118, 97, 114, 32] ++ g.name ++ [59, 10]
theorem prog200 : Tryz.prog.funcs[200]? = some Tryz.f200 := by kernel_rfl
theorem holds200 (x : St) (hg : agOK x) (ha : ∀ y ∈ x.args, wfA y = true) (hw : wdL x.args) (hs : (subL x.args).length ≤ 1000000000000) (hl : (smA x).length ≤ 1000000000000) : Holds Tryz.prog zG 200 [.agg [.int .i64 x.kind, .str x.name, .int .i64 x.n, .sl 6 (encEs x.args), .sl 7 (encSs x.body), .sl 7 (encSs x.els), .int .i64 x.pos]] [.c (.str (smA x))] := by
  refine holds_of_body zT prog200 rfl rfl rfl (by simp [Tryz.f200]) ?_
  refine aw_ops zT fun K1 hK1 => ?_
  simp only [amset, amlib, zset, eq_self, ↓reduceIte, reduceCtorEq, Nat.reduceBEq, Nat.reduceEqDiff, Nat.reduceAdd, Nat.reduceMul, Nat.reduceLeDiff, Nat.reduceLT, Nat.reduceSub]
  refine hK1 _ ?_
  clear hK1
  refine aw_seq fun K2 hK2 => ?_
  refine aw_ops zT fun K3 hK3 => ?_
  simp only [amset, amlib, zset, eq_self, ↓reduceIte, reduceCtorEq, Nat.reduceBEq, Nat.reduceEqDiff, Nat.reduceAdd, Nat.reduceMul, Nat.reduceLeDiff, Nat.reduceLT, Nat.reduceSub]
  refine hK3 _ ?_
  clear hK3
  refine aw_block ?_
  refine aw_ops zT fun K4 hK4 => ?_
  simp only [amset, amlib, zset, eq_self, ↓reduceIte, reduceCtorEq, Nat.reduceBEq, Nat.reduceEqDiff, Nat.reduceAdd, Nat.reduceMul, Nat.reduceLeDiff, Nat.reduceLT, Nat.reduceSub]
  refine hK4 _ ?_
  clear hK4
  refine aw_cond rfl (fun h0 => ?_) (fun h0 => ?_)
  · skip
    have hk : x.kind = 1 := by simpa using h0
    have h1l : 1 ≤ x.args.length := hg.1 (by omega)
    have hm0 : x.args[0] ∈ x.args := List.getElem_mem _
    have hget0 : (encEs x.args).getD (Int.toNat 0) [] = encE x.args[0] := encEs_getD _ 0 (by omega)
    have htx0 : tX x 0 = txA x.args[0] := by unfold tX; rw [txL_getD x.args 0 (by omega)]
    have hq0 := subL_mem hm0
    have hl2 := hl
    simp only [smA, hk, Int.reduceBEq, Bool.false_eq_true, ↓reduceIte, List.length_append, List.length_cons, List.length_nil, htx0] at hl2
    refine aw_draw zT prog_mixed fun K5 hK5 => ?_
    simp only [amset, amlib, zset, hget0, eq_self, ↓reduceIte, reduceCtorEq, Nat.reduceBEq, Nat.reduceEqDiff, Nat.reduceAdd, Nat.reduceMul, Nat.reduceLeDiff, Nat.reduceLT, Nat.reduceSub]
    refine ⟨by omega, ?_⟩
    refine ⟨by omega, ?_⟩
    refine ⟨⟨by omega, by omega⟩, ?_⟩
    refine ⟨_, holds94 x.args[0] (ha _ hm0) (wdE_eq x.args[0] ▸ wdL_mem hw hm0).1 (wdE_eq x.args[0] ▸ wdL_mem hw hm0).2 (by omega), ?_⟩
    simp only [later]
    simp only [amset, amlib, zset, hget0, eq_self, ↓reduceIte, reduceCtorEq, Nat.reduceBEq, Nat.reduceEqDiff, Nat.reduceAdd, Nat.reduceMul, Nat.reduceLeDiff, Nat.reduceLT, Nat.reduceSub]
    refine ⟨by omega, ?_⟩
    refine ⟨by omega, ?_⟩
    refine ⟨by kernel_rfl, ?_⟩
    refine hK5 _ ?_
    clear hK5
    refine aw_ret ?_
    show resOf zG _ [.tmp 2] = some _
    simp only [amset, amlib, zset, eq_self, ↓reduceIte, reduceCtorEq, Nat.reduceBEq, Nat.reduceEqDiff, Nat.reduceAdd, Nat.reduceMul, Nat.reduceLeDiff, Nat.reduceLT, Nat.reduceSub]
    simp only [smA, h0, htx0, Bool.false_eq_true, ↓reduceIte, List.append_assoc, List.cons_append, List.nil_append]
  · skip
    refine aw_ops zT fun K6 hK6 => ?_
    simp only [amset, amlib, zset, eq_self, ↓reduceIte, reduceCtorEq, Nat.reduceBEq, Nat.reduceEqDiff, Nat.reduceAdd, Nat.reduceMul, Nat.reduceLeDiff, Nat.reduceLT, Nat.reduceSub]
    refine hK6 _ ?_
    clear hK6
    refine aw_cond rfl (fun h1 => ?_) (fun h1 => ?_)
    · skip
      have hk : x.kind = 2 := by simpa using h1
      have h1l : 1 ≤ x.args.length := hg.1 (by omega)
      have hm0 : x.args[0] ∈ x.args := List.getElem_mem _
      have hget0 : (encEs x.args).getD (Int.toNat 0) [] = encE x.args[0] := encEs_getD _ 0 (by omega)
      have htx0 : tX x 0 = txA x.args[0] := by unfold tX; rw [txL_getD x.args 0 (by omega)]
      have hq0 := subL_mem hm0
      have hl2 := hl
      simp only [smA, hk, Int.reduceBEq, Bool.false_eq_true, ↓reduceIte, List.length_append, List.length_cons, List.length_nil, htx0] at hl2
      refine aw_draw zT prog_mixed fun K7 hK7 => ?_
      simp only [amset, amlib, zset, hget0, eq_self, ↓reduceIte, reduceCtorEq, Nat.reduceBEq, Nat.reduceEqDiff, Nat.reduceAdd, Nat.reduceMul, Nat.reduceLeDiff, Nat.reduceLT, Nat.reduceSub]
      refine ⟨by omega, ?_⟩
      refine ⟨⟨by omega, by omega⟩, ?_⟩
      refine ⟨_, holds94 x.args[0] (ha _ hm0) (wdE_eq x.args[0] ▸ wdL_mem hw hm0).1 (wdE_eq x.args[0] ▸ wdL_mem hw hm0).2 (by omega), ?_⟩
      simp only [later]
      simp only [amset, amlib, zset, hget0, eq_self, ↓reduceIte, reduceCtorEq, Nat.reduceBEq, Nat.reduceEqDiff, Nat.reduceAdd, Nat.reduceMul, Nat.reduceLeDiff, Nat.reduceLT, Nat.reduceSub]
      refine ⟨by omega, ?_⟩
      refine ⟨by omega, ?_⟩
      refine ⟨by kernel_rfl, ?_⟩
      refine hK7 _ ?_
      clear hK7
      refine aw_ret ?_
      show resOf zG _ [.tmp 2] = some _
      simp only [amset, amlib, zset, eq_self, ↓reduceIte, reduceCtorEq, Nat.reduceBEq, Nat.reduceEqDiff, Nat.reduceAdd, Nat.reduceMul, Nat.reduceLeDiff, Nat.reduceLT, Nat.reduceSub]
      simp only [smA, h0, h1, htx0, Bool.false_eq_true, ↓reduceIte, List.append_assoc, List.cons_append, List.nil_append]
    · skip
      refine aw_ops zT fun K8 hK8 => ?_
      simp only [amset, amlib, zset, eq_self, ↓reduceIte, reduceCtorEq, Nat.reduceBEq, Nat.reduceEqDiff, Nat.reduceAdd, Nat.reduceMul, Nat.reduceLeDiff, Nat.reduceLT, Nat.reduceSub]
      refine hK8 _ ?_
      clear hK8
      refine aw_cond rfl (fun h2 => ?_) (fun h2 => ?_)
      · skip
        have hk : x.kind = 3 := by simpa using h2
        have h2l : 2 ≤ x.args.length := hg.2 hk
        have hm0 : x.args[0] ∈ x.args := List.getElem_mem _
        have hget0 : (encEs x.args).getD (Int.toNat 0) [] = encE x.args[0] := encEs_getD _ 0 (by omega)
        have htx0 : tX x 0 = txA x.args[0] := by unfold tX; rw [txL_getD x.args 0 (by omega)]
        have hq0 := subL_mem hm0
        have hm1 : x.args[1] ∈ x.args := List.getElem_mem _
        have hget1 : (encEs x.args).getD (Int.toNat 1) [] = encE x.args[1] := encEs_getD _ 1 (by omega)
        have htx1 : tX x 1 = txA x.args[1] := by unfold tX; rw [txL_getD x.args 1 (by omega)]
        have hq1 := subL_mem hm1
        have hl2 := hl
        simp only [smA, hk, Int.reduceBEq, Bool.false_eq_true, ↓reduceIte, List.length_append, List.length_cons, List.length_nil, htx0, htx1] at hl2
        refine aw_draw zT prog_mixed fun K9 hK9 => ?_
        simp only [amset, amlib, zset, hget0, hget1, eq_self, ↓reduceIte, reduceCtorEq, Nat.reduceBEq, Nat.reduceEqDiff, Nat.reduceAdd, Nat.reduceMul, Nat.reduceLeDiff, Nat.reduceLT, Nat.reduceSub]
        refine ⟨by omega, ?_⟩
        refine ⟨⟨by omega, by omega⟩, ?_⟩
        refine ⟨_, holds94 x.args[0] (ha _ hm0) (wdE_eq x.args[0] ▸ wdL_mem hw hm0).1 (wdE_eq x.args[0] ▸ wdL_mem hw hm0).2 (by omega), ?_⟩
        simp only [later]
        simp only [amset, amlib, zset, hget0, hget1, eq_self, ↓reduceIte, reduceCtorEq, Nat.reduceBEq, Nat.reduceEqDiff, Nat.reduceAdd, Nat.reduceMul, Nat.reduceLeDiff, Nat.reduceLT, Nat.reduceSub]
        refine ⟨by omega, ?_⟩
        refine ⟨by omega, ?_⟩
        refine ⟨⟨by omega, by omega⟩, ?_⟩
        refine ⟨_, holds94 x.args[1] (ha _ hm1) (wdE_eq x.args[1] ▸ wdL_mem hw hm1).1 (wdE_eq x.args[1] ▸ wdL_mem hw hm1).2 (by omega), ?_⟩
        simp only [later]
        simp only [amset, amlib, zset, hget0, hget1, eq_self, ↓reduceIte, reduceCtorEq, Nat.reduceBEq, Nat.reduceEqDiff, Nat.reduceAdd, Nat.reduceMul, Nat.reduceLeDiff, Nat.reduceLT, Nat.reduceSub]
        refine ⟨by omega, ?_⟩
        refine ⟨by omega, ?_⟩
        refine ⟨by kernel_rfl, ?_⟩
        refine hK9 _ ?_
        clear hK9
        refine aw_ret ?_
        show resOf zG _ [.tmp 2] = some _
        simp only [amset, amlib, zset, eq_self, ↓reduceIte, reduceCtorEq, Nat.reduceBEq, Nat.reduceEqDiff, Nat.reduceAdd, Nat.reduceMul, Nat.reduceLeDiff, Nat.reduceLT, Nat.reduceSub]
        simp only [smA, h0, h1, h2, htx0, htx1, Bool.false_eq_true, ↓reduceIte, List.append_assoc, List.cons_append, List.nil_append]
      · skip
        refine aw_ops zT fun K10 hK10 => ?_
        simp only [amset, amlib, zset, eq_self, ↓reduceIte, reduceCtorEq, Nat.reduceBEq, Nat.reduceEqDiff, Nat.reduceAdd, Nat.reduceMul, Nat.reduceLeDiff, Nat.reduceLT, Nat.reduceSub]
        refine hK10 _ ?_
        clear hK10
        refine aw_cond rfl (fun h3 => ?_) (fun h3 => ?_)
        · skip
          have hk : x.kind = 7 := by simpa using h3
          have h1l : 1 ≤ x.args.length := hg.1 (by omega)
          have hm0 : x.args[0] ∈ x.args := List.getElem_mem _
          have hget0 : (encEs x.args).getD (Int.toNat 0) [] = encE x.args[0] := encEs_getD _ 0 (by omega)
          have htx0 : tX x 0 = txA x.args[0] := by unfold tX; rw [txL_getD x.args 0 (by omega)]
          have hq0 := subL_mem hm0
          have hl2 := hl
          simp only [smA, hk, Int.reduceBEq, Bool.false_eq_true, ↓reduceIte, List.length_append, List.length_cons, List.length_nil, htx0] at hl2
          refine aw_draw zT prog_mixed fun K11 hK11 => ?_
          simp only [amset, amlib, zset, hget0, eq_self, ↓reduceIte, reduceCtorEq, Nat.reduceBEq, Nat.reduceEqDiff, Nat.reduceAdd, Nat.reduceMul, Nat.reduceLeDiff, Nat.reduceLT, Nat.reduceSub]
          refine ⟨by omega, ?_⟩
          refine ⟨by omega, ?_⟩
          refine ⟨⟨by omega, by omega⟩, ?_⟩
          refine ⟨_, holds94 x.args[0] (ha _ hm0) (wdE_eq x.args[0] ▸ wdL_mem hw hm0).1 (wdE_eq x.args[0] ▸ wdL_mem hw hm0).2 (by omega), ?_⟩
          simp only [later]
          simp only [amset, amlib, zset, hget0, eq_self, ↓reduceIte, reduceCtorEq, Nat.reduceBEq, Nat.reduceEqDiff, Nat.reduceAdd, Nat.reduceMul, Nat.reduceLeDiff, Nat.reduceLT, Nat.reduceSub]
          refine ⟨by omega, ?_⟩
          refine ⟨by omega, ?_⟩
          refine ⟨by kernel_rfl, ?_⟩
          refine hK11 _ ?_
          clear hK11
          refine aw_ret ?_
          show resOf zG _ [.tmp 2] = some _
          simp only [amset, amlib, zset, eq_self, ↓reduceIte, reduceCtorEq, Nat.reduceBEq, Nat.reduceEqDiff, Nat.reduceAdd, Nat.reduceMul, Nat.reduceLeDiff, Nat.reduceLT, Nat.reduceSub]
          simp only [smA, h0, h1, h2, h3, htx0, Bool.false_eq_true, ↓reduceIte, List.append_assoc, List.cons_append, List.nil_append]
        · skip
          refine aw_ops zT fun K12 hK12 => ?_
          simp only [amset, amlib, zset, eq_self, ↓reduceIte, reduceCtorEq, Nat.reduceBEq, Nat.reduceEqDiff, Nat.reduceAdd, Nat.reduceMul, Nat.reduceLeDiff, Nat.reduceLT, Nat.reduceSub]
          refine hK12 _ ?_
          clear hK12
          refine aw_cond rfl (fun h4 => ?_) (fun h4 => ?_)
          · skip
            have hk : x.kind = 8 := by simpa using h4
            have h1l : 1 ≤ x.args.length := hg.1 (by omega)
            have hm0 : x.args[0] ∈ x.args := List.getElem_mem _
            have hget0 : (encEs x.args).getD (Int.toNat 0) [] = encE x.args[0] := encEs_getD _ 0 (by omega)
            have htx0 : tX x 0 = txA x.args[0] := by unfold tX; rw [txL_getD x.args 0 (by omega)]
            have hq0 := subL_mem hm0
            have hl2 := hl
            simp only [smA, hk, Int.reduceBEq, Bool.false_eq_true, ↓reduceIte, List.length_append, List.length_cons, List.length_nil, htx0] at hl2
            refine aw_ops zT fun K13 hK13 => ?_
            simp only [amset, amlib, zset, hget0, eq_self, ↓reduceIte, reduceCtorEq, Nat.reduceBEq, Nat.reduceEqDiff, Nat.reduceAdd, Nat.reduceMul, Nat.reduceLeDiff, Nat.reduceLT, Nat.reduceSub]
            refine ⟨⟨by omega, by omega⟩, ?_⟩
            refine ⟨_, holds94 x.args[0] (ha _ hm0) (wdE_eq x.args[0] ▸ wdL_mem hw hm0).1 (wdE_eq x.args[0] ▸ wdL_mem hw hm0).2 (by omega), ?_⟩
            simp only [later]
            simp only [amset, amlib, zset, hget0, eq_self, ↓reduceIte, reduceCtorEq, Nat.reduceBEq, Nat.reduceEqDiff, Nat.reduceAdd, Nat.reduceMul, Nat.reduceLeDiff, Nat.reduceLT, Nat.reduceSub]
            refine ⟨by omega, ?_⟩
            refine ⟨by omega, ?_⟩
            refine hK13 _ ?_
            clear hK13
            refine aw_ret ?_
            show resOf zG _ [.tmp 2] = some _
            simp only [amset, amlib, zset, eq_self, ↓reduceIte, reduceCtorEq, Nat.reduceBEq, Nat.reduceEqDiff, Nat.reduceAdd, Nat.reduceMul, Nat.reduceLeDiff, Nat.reduceLT, Nat.reduceSub]
            simp only [smA, h0, h1, h2, h3, h4, htx0, Bool.false_eq_true, ↓reduceIte, List.append_assoc, List.cons_append, List.nil_append]
          · skip
            refine aw_ops zT fun K14 hK14 => ?_
            simp only [amset, amlib, zset, eq_self, ↓reduceIte, reduceCtorEq, Nat.reduceBEq, Nat.reduceEqDiff, Nat.reduceAdd, Nat.reduceMul, Nat.reduceLeDiff, Nat.reduceLT, Nat.reduceSub]
            refine hK14 _ ?_
            clear hK14
            refine aw_cond rfl (fun h5 => ?_) (fun h5 => ?_)
            · skip
              have hk : x.kind = 9 := by simpa using h5
              have h1l : 1 ≤ x.args.length := hg.1 (by omega)
              have hm0 : x.args[0] ∈ x.args := List.getElem_mem _
              have hget0 : (encEs x.args).getD (Int.toNat 0) [] = encE x.args[0] := encEs_getD _ 0 (by omega)
              have htx0 : tX x 0 = txA x.args[0] := by unfold tX; rw [txL_getD x.args 0 (by omega)]
              have hq0 := subL_mem hm0
              have hl2 := hl
              simp only [smA, hk, Int.reduceBEq, Bool.false_eq_true, ↓reduceIte, List.length_append, List.length_cons, List.length_nil, htx0] at hl2
              refine aw_draw zT prog_mixed fun K15 hK15 => ?_
              simp only [amset, amlib, zset, hget0, eq_self, ↓reduceIte, reduceCtorEq, Nat.reduceBEq, Nat.reduceEqDiff, Nat.reduceAdd, Nat.reduceMul, Nat.reduceLeDiff, Nat.reduceLT, Nat.reduceSub]
              refine ⟨by omega, ?_⟩
              refine ⟨by omega, ?_⟩
              refine ⟨⟨by omega, by omega⟩, ?_⟩
              refine ⟨_, holds94 x.args[0] (ha _ hm0) (wdE_eq x.args[0] ▸ wdL_mem hw hm0).1 (wdE_eq x.args[0] ▸ wdL_mem hw hm0).2 (by omega), ?_⟩
              simp only [later]
              simp only [amset, amlib, zset, hget0, eq_self, ↓reduceIte, reduceCtorEq, Nat.reduceBEq, Nat.reduceEqDiff, Nat.reduceAdd, Nat.reduceMul, Nat.reduceLeDiff, Nat.reduceLT, Nat.reduceSub]
              refine ⟨by omega, ?_⟩
              refine ⟨by omega, ?_⟩
              refine ⟨by kernel_rfl, ?_⟩
              refine hK15 _ ?_
              clear hK15
              refine aw_ret ?_
              show resOf zG _ [.tmp 2] = some _
              simp only [amset, amlib, zset, eq_self, ↓reduceIte, reduceCtorEq, Nat.reduceBEq, Nat.reduceEqDiff, Nat.reduceAdd, Nat.reduceMul, Nat.reduceLeDiff, Nat.reduceLT, Nat.reduceSub]
              simp only [smA, h0, h1, h2, h3, h4, h5, htx0, Bool.false_eq_true, ↓reduceIte, List.append_assoc, List.cons_append, List.nil_append]
            · skip
              refine aw_ops zT fun K16 hK16 => ?_
              simp only [amset, amlib, zset, eq_self, ↓reduceIte, reduceCtorEq, Nat.reduceBEq, Nat.reduceEqDiff, Nat.reduceAdd, Nat.reduceMul, Nat.reduceLeDiff, Nat.reduceLT, Nat.reduceSub]
              refine hK16 _ ?_
              clear hK16
              refine aw_cond rfl (fun h6 => ?_) (fun h6 => ?_)
              · skip
                refine aw_ops zT fun K17 hK17 => ?_
                simp only [amset, amlib, zset, eq_self, ↓reduceIte, reduceCtorEq, Nat.reduceBEq, Nat.reduceEqDiff, Nat.reduceAdd, Nat.reduceMul, Nat.reduceLeDiff, Nat.reduceLT, Nat.reduceSub]
                refine hK17 _ ?_
                clear hK17
                refine aw_ret ?_
                show resOf zG _ [.tmp 2] = some _
                simp only [amset, amlib, zset, eq_self, ↓reduceIte, reduceCtorEq, Nat.reduceBEq, Nat.reduceEqDiff, Nat.reduceAdd, Nat.reduceMul, Nat.reduceLeDiff, Nat.reduceLT, Nat.reduceSub]
                simp only [smA, h0, h1, h2, h3, h4, h5, h6, Bool.false_eq_true, ↓reduceIte, List.append_assoc, List.cons_append, List.nil_append]
              · skip
                refine aw_skip ?_
                simp only [thenQ, blkQ, if_true, reduceIte, Nat.reduceEqDiff, eq_self]
                refine hK2 _ ?_
                clear hK2
                refine aw_ops zT fun K18 hK18 => ?_
                simp only [amset, amlib, zset, eq_self, ↓reduceIte, reduceCtorEq, Nat.reduceBEq, Nat.reduceEqDiff, Nat.reduceAdd, Nat.reduceMul, Nat.reduceLeDiff, Nat.reduceLT, Nat.reduceSub]
                refine hK18 _ ?_
                clear hK18
                refine aw_ret ?_
                show resOf zG _ [.tmp 2] = some _
                simp only [amset, amlib, zset, eq_self, ↓reduceIte, reduceCtorEq, Nat.reduceBEq, Nat.reduceEqDiff, Nat.reduceAdd, Nat.reduceMul, Nat.reduceLeDiff, Nat.reduceLT, Nat.reduceSub]
                simp only [smA, h0, h1, h2, h3, h4, h5, h6, Bool.false_eq_true, ↓reduceIte, List.append_assoc, List.cons_append, List.nil_append]
theorem prog201 : Tryz.prog.funcs[201]? = some Tryz.f201 := by kernel_rfl
theorem holds201 (x : St) (hg : agOK x) (ha : ∀ y ∈ x.args, wfA y = true) (hw : wdL x.args) (hs : (subL x.args).length ≤ 1000000000000) (hn : 0 ≤ x.n ∧ x.n ≤ 32767) (hl : (hdA x).length ≤ 1000000000000) : Holds Tryz.prog zG 201 [.agg [.int .i64 x.kind, .str x.name, .int .i64 x.n, .sl 6 (encEs x.args), .sl 7 (encSs x.body), .sl 7 (encSs x.els), .int .i64 x.pos]] [.c (.str (hdA x))] := by
  refine holds_of_body zT prog201 rfl rfl rfl (by simp [Tryz.f201]) ?_
  refine aw_ops zT fun K1 hK1 => ?_
  simp only [amset, amlib, zset, eq_self, ↓reduceIte, reduceCtorEq, Nat.reduceBEq, Nat.reduceEqDiff, Nat.reduceAdd, Nat.reduceMul, Nat.reduceLeDiff, Nat.reduceLT, Nat.reduceSub]
  refine hK1 _ ?_
  clear hK1
  refine aw_seq fun K2 hK2 => ?_
  refine aw_ops zT fun K3 hK3 => ?_
  simp only [amset, amlib, zset, eq_self, ↓reduceIte, reduceCtorEq, Nat.reduceBEq, Nat.reduceEqDiff, Nat.reduceAdd, Nat.reduceMul, Nat.reduceLeDiff, Nat.reduceLT, Nat.reduceSub]
  refine hK3 _ ?_
  clear hK3
  refine aw_block ?_
  refine aw_ops zT fun K4 hK4 => ?_
  simp only [amset, amlib, zset, eq_self, ↓reduceIte, reduceCtorEq, Nat.reduceBEq, Nat.reduceEqDiff, Nat.reduceAdd, Nat.reduceMul, Nat.reduceLeDiff, Nat.reduceLT, Nat.reduceSub]
  refine hK4 _ ?_
  clear hK4
  refine aw_cond rfl (fun h0 => ?_) (fun h0 => ?_)
  · skip
    have hk : x.kind = 4 := by simpa using h0
    have h1l : 1 ≤ x.args.length := hg.1 (by omega)
    have hm0 : x.args[0] ∈ x.args := List.getElem_mem _
    have hget0 : (encEs x.args).getD (Int.toNat 0) [] = encE x.args[0] := encEs_getD _ 0 (by omega)
    have htx0 : tX x 0 = txA x.args[0] := by unfold tX; rw [txL_getD x.args 0 (by omega)]
    have hq0 := subL_mem hm0
    have hl2 := hl
    simp only [hdA, hk, Int.reduceBEq, Bool.false_eq_true, ↓reduceIte, List.length_append, List.length_cons, List.length_nil, htx0] at hl2
    refine aw_ops zT fun K5 hK5 => ?_
    simp only [amset, amlib, zset, hget0, eq_self, ↓reduceIte, reduceCtorEq, Nat.reduceBEq, Nat.reduceEqDiff, Nat.reduceAdd, Nat.reduceMul, Nat.reduceLeDiff, Nat.reduceLT, Nat.reduceSub]
    refine ⟨⟨by omega, by omega⟩, ?_⟩
    refine ⟨_, holds94 x.args[0] (ha _ hm0) (wdE_eq x.args[0] ▸ wdL_mem hw hm0).1 (wdE_eq x.args[0] ▸ wdL_mem hw hm0).2 (by omega), ?_⟩
    simp only [later]
    simp only [amset, amlib, zset, hget0, eq_self, ↓reduceIte, reduceCtorEq, Nat.reduceBEq, Nat.reduceEqDiff, Nat.reduceAdd, Nat.reduceMul, Nat.reduceLeDiff, Nat.reduceLT, Nat.reduceSub]
    refine ⟨by omega, ?_⟩
    refine ⟨by omega, ?_⟩
    refine hK5 _ ?_
    clear hK5
    refine aw_ret ?_
    show resOf zG _ [.tmp 2] = some _
    simp only [amset, amlib, zset, eq_self, ↓reduceIte, reduceCtorEq, Nat.reduceBEq, Nat.reduceEqDiff, Nat.reduceAdd, Nat.reduceMul, Nat.reduceLeDiff, Nat.reduceLT, Nat.reduceSub]
    simp only [hdA, h0, htx0, Bool.false_eq_true, ↓reduceIte, List.append_assoc, List.cons_append, List.nil_append]
  · skip
    refine aw_ops zT fun K6 hK6 => ?_
    simp only [amset, amlib, zset, eq_self, ↓reduceIte, reduceCtorEq, Nat.reduceBEq, Nat.reduceEqDiff, Nat.reduceAdd, Nat.reduceMul, Nat.reduceLeDiff, Nat.reduceLT, Nat.reduceSub]
    refine hK6 _ ?_
    clear hK6
    refine aw_cond rfl (fun h1 => ?_) (fun h1 => ?_)
    · skip
      have hk : x.kind = 6 := by simpa using h1
      have h1l : 1 ≤ x.args.length := hg.1 (by omega)
      have hm0 : x.args[0] ∈ x.args := List.getElem_mem _
      have hget0 : (encEs x.args).getD (Int.toNat 0) [] = encE x.args[0] := encEs_getD _ 0 (by omega)
      have htx0 : tX x 0 = txA x.args[0] := by unfold tX; rw [txL_getD x.args 0 (by omega)]
      have hq0 := subL_mem hm0
      have hl2 := hl
      simp only [hdA, hk, Int.reduceBEq, Bool.false_eq_true, ↓reduceIte, List.length_append, List.length_cons, List.length_nil, htx0] at hl2
      refine aw_ops zT fun K7 hK7 => ?_
      simp only [amset, amlib, zset, hget0, eq_self, ↓reduceIte, reduceCtorEq, Nat.reduceBEq, Nat.reduceEqDiff, Nat.reduceAdd, Nat.reduceMul, Nat.reduceLeDiff, Nat.reduceLT, Nat.reduceSub]
      refine ⟨⟨by omega, by omega⟩, ?_⟩
      refine ⟨_, holds94 x.args[0] (ha _ hm0) (wdE_eq x.args[0] ▸ wdL_mem hw hm0).1 (wdE_eq x.args[0] ▸ wdL_mem hw hm0).2 (by omega), ?_⟩
      simp only [later]
      simp only [amset, amlib, zset, hget0, eq_self, ↓reduceIte, reduceCtorEq, Nat.reduceBEq, Nat.reduceEqDiff, Nat.reduceAdd, Nat.reduceMul, Nat.reduceLeDiff, Nat.reduceLT, Nat.reduceSub]
      refine ⟨by omega, ?_⟩
      refine ⟨by omega, ?_⟩
      refine hK7 _ ?_
      clear hK7
      refine aw_ret ?_
      show resOf zG _ [.tmp 2] = some _
      simp only [amset, amlib, zset, eq_self, ↓reduceIte, reduceCtorEq, Nat.reduceBEq, Nat.reduceEqDiff, Nat.reduceAdd, Nat.reduceMul, Nat.reduceLeDiff, Nat.reduceLT, Nat.reduceSub]
      simp only [hdA, h0, h1, htx0, Bool.false_eq_true, ↓reduceIte, List.append_assoc, List.cons_append, List.nil_append]
    · skip
      refine aw_ops zT fun K8 hK8 => ?_
      simp only [amset, amlib, zset, eq_self, ↓reduceIte, reduceCtorEq, Nat.reduceBEq, Nat.reduceEqDiff, Nat.reduceAdd, Nat.reduceMul, Nat.reduceLeDiff, Nat.reduceLT, Nat.reduceSub]
      refine hK8 _ ?_
      clear hK8
      refine aw_cond rfl (fun h2 => ?_) (fun h2 => ?_)
      · skip
        have hi := i64_itoa x.n hn
        refine aw_ops zT fun K9 hK9 => ?_
        simp only [amset, amlib, zset, eq_self, ↓reduceIte, reduceCtorEq, Nat.reduceBEq, Nat.reduceEqDiff, Nat.reduceAdd, Nat.reduceMul, Nat.reduceLeDiff, Nat.reduceLT, Nat.reduceSub]
        refine ⟨_, holds86 x.n hi.1 hi.2.1, ?_⟩
        simp only [later]
        simp only [amset, amlib, zset, eq_self, ↓reduceIte, reduceCtorEq, Nat.reduceBEq, Nat.reduceEqDiff, Nat.reduceAdd, Nat.reduceMul, Nat.reduceLeDiff, Nat.reduceLT, Nat.reduceSub]
        refine ⟨by omega, ?_⟩
        refine ⟨by omega, ?_⟩
        refine hK9 _ ?_
        clear hK9
        refine aw_ret ?_
        show resOf zG _ [.tmp 2] = some _
        simp only [amset, amlib, zset, eq_self, ↓reduceIte, reduceCtorEq, Nat.reduceBEq, Nat.reduceEqDiff, Nat.reduceAdd, Nat.reduceMul, Nat.reduceLeDiff, Nat.reduceLT, Nat.reduceSub]
        simp only [hdA, h0, h1, h2, Bool.false_eq_true, ↓reduceIte, List.append_assoc, List.cons_append, List.nil_append]
      · skip
        refine aw_ops zT fun K10 hK10 => ?_
        simp only [amset, amlib, zset, eq_self, ↓reduceIte, reduceCtorEq, Nat.reduceBEq, Nat.reduceEqDiff, Nat.reduceAdd, Nat.reduceMul, Nat.reduceLeDiff, Nat.reduceLT, Nat.reduceSub]
        refine hK10 _ ?_
        clear hK10
        refine aw_cond rfl (fun h3 => ?_) (fun h3 => ?_)
        · skip
          have hi := i64_itoa x.n hn
          refine aw_ops zT fun K11 hK11 => ?_
          simp only [amset, amlib, zset, eq_self, ↓reduceIte, reduceCtorEq, Nat.reduceBEq, Nat.reduceEqDiff, Nat.reduceAdd, Nat.reduceMul, Nat.reduceLeDiff, Nat.reduceLT, Nat.reduceSub]
          refine ⟨_, holds86 x.n hi.1 hi.2.1, ?_⟩
          simp only [later]
          simp only [amset, amlib, zset, eq_self, ↓reduceIte, reduceCtorEq, Nat.reduceBEq, Nat.reduceEqDiff, Nat.reduceAdd, Nat.reduceMul, Nat.reduceLeDiff, Nat.reduceLT, Nat.reduceSub]
          refine ⟨by omega, ?_⟩
          refine ⟨by omega, ?_⟩
          refine hK11 _ ?_
          clear hK11
          refine aw_ret ?_
          show resOf zG _ [.tmp 2] = some _
          simp only [amset, amlib, zset, eq_self, ↓reduceIte, reduceCtorEq, Nat.reduceBEq, Nat.reduceEqDiff, Nat.reduceAdd, Nat.reduceMul, Nat.reduceLeDiff, Nat.reduceLT, Nat.reduceSub]
          simp only [hdA, h0, h1, h2, h3, Bool.false_eq_true, ↓reduceIte, List.append_assoc, List.cons_append, List.nil_append]
        · skip
          refine aw_skip ?_
          simp only [thenQ, blkQ, if_true, reduceIte, Nat.reduceEqDiff, eq_self]
          refine hK2 _ ?_
          clear hK2
          have hi := i64_itoa x.n hn
          refine aw_ops zT fun K12 hK12 => ?_
          simp only [amset, amlib, zset, eq_self, ↓reduceIte, reduceCtorEq, Nat.reduceBEq, Nat.reduceEqDiff, Nat.reduceAdd, Nat.reduceMul, Nat.reduceLeDiff, Nat.reduceLT, Nat.reduceSub]
          refine ⟨_, holds86 x.n hi.1 hi.2.1, ?_⟩
          simp only [later]
          simp only [amset, amlib, zset, eq_self, ↓reduceIte, reduceCtorEq, Nat.reduceBEq, Nat.reduceEqDiff, Nat.reduceAdd, Nat.reduceMul, Nat.reduceLeDiff, Nat.reduceLT, Nat.reduceSub]
          refine ⟨by omega, ?_⟩
          refine ⟨by omega, ?_⟩
          refine hK12 _ ?_
          clear hK12
          refine aw_ret ?_
          show resOf zG _ [.tmp 2] = some _
          simp only [amset, amlib, zset, eq_self, ↓reduceIte, reduceCtorEq, Nat.reduceBEq, Nat.reduceEqDiff, Nat.reduceAdd, Nat.reduceMul, Nat.reduceLeDiff, Nat.reduceLT, Nat.reduceSub]
          simp only [hdA, h0, h1, h2, h3, Bool.false_eq_true, ↓reduceIte, List.append_assoc, List.cons_append, List.nil_append]
theorem prog88 : Tryz.prog.funcs[88]? = some Tryz.f88 := by kernel_rfl
theorem holds88 (w : List UInt8) (n : Int) (hn : 0 ≤ n ∧ n ≤ 32767) (hw : w.length ≤ 100) : Holds Tryz.prog zG 88 [.c (.str w), .c (.int .i64 n)] [.c (.str (optA w n))] := by
  refine holds_of_body zT prog88 rfl rfl rfl (by simp [Tryz.f88]) ?_
  refine aw_ops zT fun K1 hK1 => ?_
  simp only [amset, amlib, zset, eq_self, ↓reduceIte, reduceCtorEq, Nat.reduceBEq, Nat.reduceEqDiff, Nat.reduceAdd, Nat.reduceMul, Nat.reduceLeDiff, Nat.reduceLT, Nat.reduceSub]
  refine hK1 _ ?_
  clear hK1
  refine aw_seq fun K2 hK2 => ?_
  refine aw_ops zT fun K3 hK3 => ?_
  simp only [amset, amlib, zset, eq_self, ↓reduceIte, reduceCtorEq, Nat.reduceBEq, Nat.reduceEqDiff, Nat.reduceAdd, Nat.reduceMul, Nat.reduceLeDiff, Nat.reduceLT, Nat.reduceSub]
  refine hK3 _ ?_
  clear hK3
  refine aw_cond rfl (fun h0 => ?_) (fun h0 => ?_)
  · skip
    refine aw_ops zT fun K4 hK4 => ?_
    simp only [amset, amlib, zset, eq_self, ↓reduceIte, reduceCtorEq, Nat.reduceBEq, Nat.reduceEqDiff, Nat.reduceAdd, Nat.reduceMul, Nat.reduceLeDiff, Nat.reduceLT, Nat.reduceSub]
    refine hK4 _ ?_
    clear hK4
    refine aw_ret ?_
    show resOf zG _ [.tmp 4] = some _
    simp only [amset, amlib, zset, eq_self, ↓reduceIte, reduceCtorEq, Nat.reduceBEq, Nat.reduceEqDiff, Nat.reduceAdd, Nat.reduceMul, Nat.reduceLeDiff, Nat.reduceLT, Nat.reduceSub]
    simp only [optA, h0, Bool.false_eq_true, ↓reduceIte, List.append_assoc, List.cons_append, List.nil_append]
  · skip
    refine aw_skip ?_
    simp only [thenQ, blkQ, if_true, reduceIte, Nat.reduceEqDiff, eq_self]
    refine hK2 _ ?_
    clear hK2
    have hi := i64_itoa n hn
    refine aw_ops zT fun K5 hK5 => ?_
    simp only [amset, amlib, zset, eq_self, ↓reduceIte, reduceCtorEq, Nat.reduceBEq, Nat.reduceEqDiff, Nat.reduceAdd, Nat.reduceMul, Nat.reduceLeDiff, Nat.reduceLT, Nat.reduceSub]
    refine ⟨by omega, ?_⟩
    refine ⟨by omega, ?_⟩
    refine ⟨_, holds86 n hi.1 hi.2.1, ?_⟩
    simp only [later]
    simp only [amset, amlib, zset, eq_self, ↓reduceIte, reduceCtorEq, Nat.reduceBEq, Nat.reduceEqDiff, Nat.reduceAdd, Nat.reduceMul, Nat.reduceLeDiff, Nat.reduceLT, Nat.reduceSub]
    refine ⟨by omega, ?_⟩
    refine hK5 _ ?_
    clear hK5
    refine aw_ret ?_
    show resOf zG _ [.tmp 4] = some _
    simp only [amset, amlib, zset, eq_self, ↓reduceIte, reduceCtorEq, Nat.reduceBEq, Nat.reduceEqDiff, Nat.reduceAdd, Nat.reduceMul, Nat.reduceLeDiff, Nat.reduceLT, Nat.reduceSub]
    simp only [optA, h0, Bool.false_eq_true, ↓reduceIte, List.append_assoc, List.cons_append, List.nil_append]
theorem prog87 : Tryz.prog.funcs[87]? = some Tryz.f87 := by kernel_rfl
theorem holds87 (g : Gl) (hn : g.name.length ≤ 100) (h1 : g.len ≤ 32767) (h2 : -32768 ≤ g.init ∧ g.init ≤ 32767) : Holds Tryz.prog zG 87 [.agg [.str g.name, .int .i64 g.len, .int .i16 g.init, .int .i64 g.pos]] [.c (.str (varA g))] := by
  refine holds_of_body zT prog87 rfl rfl rfl (by simp [Tryz.f87]) ?_
  refine aw_ops zT fun K1 hK1 => ?_
  simp only [amset, amlib, zset, eq_self, ↓reduceIte, reduceCtorEq, Nat.reduceBEq, Nat.reduceEqDiff, Nat.reduceAdd, Nat.reduceMul, Nat.reduceLeDiff, Nat.reduceLT, Nat.reduceSub]
  refine hK1 _ ?_
  clear hK1
  refine aw_seq fun K2 hK2 => ?_
  refine aw_block ?_
  refine aw_ops zT fun K3 hK3 => ?_
  simp only [amset, amlib, zset, eq_self, ↓reduceIte, reduceCtorEq, Nat.reduceBEq, Nat.reduceEqDiff, Nat.reduceAdd, Nat.reduceMul, Nat.reduceLeDiff, Nat.reduceLT, Nat.reduceSub]
  refine hK3 _ ?_
  clear hK3
  refine aw_cond rfl (fun h0 => ?_) (fun h0 => ?_)
  · skip
    have hp : 0 < g.len := by simpa using h0
    have hi := Lib.itoa_length_le g.len (by omega) (by omega)
    refine aw_draw zT prog_mixed fun K4 hK4 => ?_
    simp only [amset, amlib, zset, eq_self, ↓reduceIte, reduceCtorEq, Nat.reduceBEq, Nat.reduceEqDiff, Nat.reduceAdd, Nat.reduceMul, Nat.reduceLeDiff, Nat.reduceLT, Nat.reduceSub]
    refine ⟨by omega, ?_⟩
    refine ⟨by omega, ?_⟩
    refine ⟨_, holds86 g.len (by omega) (by omega), ?_⟩
    simp only [later]
    simp only [amset, amlib, zset, eq_self, ↓reduceIte, reduceCtorEq, Nat.reduceBEq, Nat.reduceEqDiff, Nat.reduceAdd, Nat.reduceMul, Nat.reduceLeDiff, Nat.reduceLT, Nat.reduceSub]
    refine ⟨by omega, ?_⟩
    refine ⟨by omega, ?_⟩
    refine ⟨by kernel_rfl, ?_⟩
    refine hK4 _ ?_
    clear hK4
    refine aw_ret ?_
    show resOf zG _ [.tmp 2] = some _
    simp only [amset, amlib, zset, eq_self, ↓reduceIte, reduceCtorEq, Nat.reduceBEq, Nat.reduceEqDiff, Nat.reduceAdd, Nat.reduceMul, Nat.reduceLeDiff, Nat.reduceLT, Nat.reduceSub]
    simp only [varA, h0, Bool.false_eq_true, ↓reduceIte, List.append_assoc, List.cons_append, List.nil_append]
  · skip
    refine aw_ops zT fun K5 hK5 => ?_
    simp only [amset, amlib, zset, eq_self, ↓reduceIte, reduceCtorEq, Nat.reduceBEq, Nat.reduceEqDiff, Nat.reduceAdd, Nat.reduceMul, Nat.reduceLeDiff, Nat.reduceLT, Nat.reduceSub]
    refine hK5 _ ?_
    clear hK5
    refine aw_cond rfl (fun h1 => ?_) (fun h1 => ?_)
    · skip
      have hi := Lib.itoa_length_le g.init (by omega) (by omega)
      have ev := i64_same (n := g.init) (by omega)
      refine aw_draw zT prog_mixed fun K6 hK6 => ?_
      simp only [amset, amlib, zset, ev, eq_self, ↓reduceIte, reduceCtorEq, Nat.reduceBEq, Nat.reduceEqDiff, Nat.reduceAdd, Nat.reduceMul, Nat.reduceLeDiff, Nat.reduceLT, Nat.reduceSub]
      refine ⟨by omega, ?_⟩
      refine ⟨by omega, ?_⟩
      refine ⟨_, holds86 g.init (by omega) (by omega), ?_⟩
      simp only [later]
      simp only [amset, amlib, zset, ev, eq_self, ↓reduceIte, reduceCtorEq, Nat.reduceBEq, Nat.reduceEqDiff, Nat.reduceAdd, Nat.reduceMul, Nat.reduceLeDiff, Nat.reduceLT, Nat.reduceSub]
      refine ⟨by omega, ?_⟩
      refine ⟨by omega, ?_⟩
      refine ⟨by kernel_rfl, ?_⟩
      refine hK6 _ ?_
      clear hK6
      refine aw_ret ?_
      show resOf zG _ [.tmp 2] = some _
      simp only [amset, amlib, zset, eq_self, ↓reduceIte, reduceCtorEq, Nat.reduceBEq, Nat.reduceEqDiff, Nat.reduceAdd, Nat.reduceMul, Nat.reduceLeDiff, Nat.reduceLT, Nat.reduceSub]
      simp only [varA, h0, h1, Bool.false_eq_true, ↓reduceIte, List.append_assoc, List.cons_append, List.nil_append]
    · skip
      refine aw_skip ?_
      simp only [thenQ, blkQ, if_true, reduceIte, Nat.reduceEqDiff, eq_self]
      refine hK2 _ ?_
      clear hK2
      refine aw_ops zT fun K7 hK7 => ?_
      simp only [amset, amlib, zset, eq_self, ↓reduceIte, reduceCtorEq, Nat.reduceBEq, Nat.reduceEqDiff, Nat.reduceAdd, Nat.reduceMul, Nat.reduceLeDiff, Nat.reduceLT, Nat.reduceSub]
      refine ⟨by omega, ?_⟩
      refine ⟨by omega, ?_⟩
      refine hK7 _ ?_
      clear hK7
      refine aw_ret ?_
      show resOf zG _ [.tmp 2] = some _
      simp only [amset, amlib, zset, eq_self, ↓reduceIte, reduceCtorEq, Nat.reduceBEq, Nat.reduceEqDiff, Nat.reduceAdd, Nat.reduceMul, Nat.reduceLeDiff, Nat.reduceLT, Nat.reduceSub]
      simp only [varA, h0, h1, Bool.false_eq_true, ↓reduceIte, List.append_assoc, List.cons_append, List.nil_append]
end Go.Proofs.Am
set_option maxRecDepth 100000
set_option maxHeartbeats 4000000
namespace Go.Proofs.Am
open Go.RowKit
theorem grow_nil (A : Option Addr) (cap : Nat) (w : World) (hc : cap ≤ maxLen) : Calls Tryz.prog 172 #[.slice A 0 cap, .int .i64 0] w fun e w' => e = .returned (.slice A 0 cap) ∧ w' = w := by
  have key : ¬ (0 < wrap64 (-wrap64 (cap : Int))) := by unfold wrap64; simp only [maxLen] at hc; omega
  go_enter Tryz.func172, Tryz.ntmps172
  go_wp2
  all_goals first
    | (exfalso; apply key; assumption)
    | (go_ret; exact ⟨rfl, rfl⟩)
theorem holds172 : Holds Tryz.prog zG 172 [.c (.sl 0 []), .c (.int .i64 0)] [.c (.sl 0 [])] := by
  refine ⟨⟨Tryz.f172, Tryz.func172, rfl, rfl⟩, fun ok w vs hng hglob hA => ?_⟩
  cases hA with
  | cons h r => cases r with
    | cons h2 r =>
      cases r
      obtain rfl : _ = Value.int .i64 0 := h2
      obtain ⟨A, n, cap, rfl, hn, hc, _⟩ := h
      simp at hn
      subst hn
      refine Calls.mono (grow_nil A cap w hc.2) fun e w' he => ?_
      obtain ⟨rfl, rfl⟩ := he
      exact ⟨[_], rfl, .cons ⟨A, 0, cap, rfl, rfl, hc, .inl rfl⟩ .nil, Below.refl _ _⟩
theorem prog99 : Tryz.prog.funcs[99]? = some Tryz.f99 := by kernel_rfl
theorem holds99  : Holds Tryz.prog zG 99 [.c (.sl 1 [[C.sl 1 []], [C.sl 1 []]])] [.c (.sl 0 [])] := by
  refine holds_of_body zT prog99 rfl rfl rfl (by simp [Tryz.f99]) ?_
  refine aw_ops zT fun K1 hK1 => ?_
  simp only [amset, amlib, zset, eq_self, ↓reduceIte, reduceCtorEq, Nat.reduceBEq, Nat.reduceEqDiff, Nat.reduceAdd, Nat.reduceMul, Nat.reduceLeDiff, Nat.reduceLT, Nat.reduceSub]
  refine hK1 _ ?_
  clear hK1
  refine aw_ops zT fun K2 hK2 => ?_
  simp only [amset, amlib, zset, eq_self, ↓reduceIte, reduceCtorEq, Nat.reduceBEq, Nat.reduceEqDiff, Nat.reduceAdd, Nat.reduceMul, Nat.reduceLeDiff, Nat.reduceLT, Nat.reduceSub]
  refine hK2 _ ?_
  clear hK2
  refine aw_seq fun K3 hK3 => ?_
  refine aw_ops zT fun K4 hK4 => ?_
  simp only [amset, amlib, zset, eq_self, ↓reduceIte, reduceCtorEq, Nat.reduceBEq, Nat.reduceEqDiff, Nat.reduceAdd, Nat.reduceMul, Nat.reduceLeDiff, Nat.reduceLT, Nat.reduceSub]
  intros
  refine hK4 _ ?_
  clear hK4
  refine aw_block ?_
  refine aw_range (α := Unit) ([(), ()]) (fun dn => True) (fun dn => [(3, .cell (.c (.int .i64 0))), (11, .cell (.c (.int .i64 dn.length)))]) (fun dn => []) [] [3, 5, 11, 12, 13, 14, 15, 16, 17, 18, 19, 20, 21, 22] [] trivial ?_ ?_ ?_ ?_
  · simp only [amset, amlib, zset, eq_self, ↓reduceIte, reduceCtorEq, Nat.reduceBEq, Nat.reduceEqDiff, Nat.reduceAdd, Nat.reduceMul, Nat.reduceLeDiff, Nat.reduceLT, Nat.reduceSub] <;> simp [eq_self]
  · simp only [amset, amlib, zset, eq_self, ↓reduceIte, reduceCtorEq, Nat.reduceBEq, Nat.reduceEqDiff, Nat.reduceAdd, Nat.reduceMul, Nat.reduceLeDiff, Nat.reduceLT, Nat.reduceSub] <;> simp [eq_self]
  · intro hI R
    refine aw_norm (by simp only [amset, amlib, zset, eq_self, ↓reduceIte, reduceCtorEq, Nat.reduceBEq, Nat.reduceEqDiff, Nat.reduceAdd, Nat.reduceMul, Nat.reduceLeDiff, Nat.reduceLT, Nat.reduceSub]; exact rfl) ?_
    refine aw_ops zT fun K5 hK5 => ?_
    simp only [amset, amlib, zset, eq_self, ↓reduceIte, reduceCtorEq, Nat.reduceBEq, Nat.reduceEqDiff, Nat.reduceAdd, Nat.reduceMul, Nat.reduceLeDiff, Nat.reduceLT, Nat.reduceSub]
    refine hK5 _ ?_
    clear hK5
    refine aw_seq fun K6 hK6 => ?_
    refine aw_cond (t := false) (by simp [evalO, S.get, amLook]) (fun h => nomatch h) (fun _ => ?_)
    refine aw_exit ?_
    simp only [thenQ, blkQ, if_true, reduceIte, Nat.reduceEqDiff, eq_self]
    refine hK3 _ ?_
    clear hK3
    refine aw_ops zT fun K7 hK7 => ?_
    simp only [amset, amlib, zset, eq_self, ↓reduceIte, reduceCtorEq, Nat.reduceBEq, Nat.reduceEqDiff, Nat.reduceAdd, Nat.reduceMul, Nat.reduceLeDiff, Nat.reduceLT, Nat.reduceSub]
    refine ⟨_, holds172, ?_⟩
    simp only [later]
    simp only [amset, amlib, zset, eq_self, ↓reduceIte, reduceCtorEq, Nat.reduceBEq, Nat.reduceEqDiff, Nat.reduceAdd, Nat.reduceMul, Nat.reduceLeDiff, Nat.reduceLT, Nat.reduceSub]
    refine hK7 _ ?_
    clear hK7
    refine aw_seq fun K8 hK8 => ?_
    refine aw_ops zT fun K9 hK9 => ?_
    simp only [amset, amlib, zset, eq_self, ↓reduceIte, reduceCtorEq, Nat.reduceBEq, Nat.reduceEqDiff, Nat.reduceAdd, Nat.reduceMul, Nat.reduceLeDiff, Nat.reduceLT, Nat.reduceSub]
    intros
    refine hK9 _ ?_
    clear hK9
    refine aw_block ?_
    refine aw_range (α := Unit) ([(), ()]) (fun dn1 => True) (fun dn1 => [(6, .cell (.c (.sl 0 []))), (27, .cell (.c (.int .i64 dn1.length)))]) (fun dn1 => []) [] [6, 8, 27, 28, 29, 30, 31, 32, 33, 34] [] trivial ?_ ?_ ?_ ?_
    · simp only [amset, amlib, zset, eq_self, ↓reduceIte, reduceCtorEq, Nat.reduceBEq, Nat.reduceEqDiff, Nat.reduceAdd, Nat.reduceMul, Nat.reduceLeDiff, Nat.reduceLT, Nat.reduceSub] <;> simp [eq_self]
    · simp only [amset, amlib, zset, eq_self, ↓reduceIte, reduceCtorEq, Nat.reduceBEq, Nat.reduceEqDiff, Nat.reduceAdd, Nat.reduceMul, Nat.reduceLeDiff, Nat.reduceLT, Nat.reduceSub] <;> simp [eq_self]
    · intro hI1 R1
      refine aw_norm (by simp only [amset, amlib, zset, eq_self, ↓reduceIte, reduceCtorEq, Nat.reduceBEq, Nat.reduceEqDiff, Nat.reduceAdd, Nat.reduceMul, Nat.reduceLeDiff, Nat.reduceLT, Nat.reduceSub]; exact rfl) ?_
      refine aw_ops zT fun K10 hK10 => ?_
      simp only [amset, amlib, zset, eq_self, ↓reduceIte, reduceCtorEq, Nat.reduceBEq, Nat.reduceEqDiff, Nat.reduceAdd, Nat.reduceMul, Nat.reduceLeDiff, Nat.reduceLT, Nat.reduceSub]
      refine hK10 _ ?_
      clear hK10
      refine aw_seq fun K11 hK11 => ?_
      refine aw_cond (t := false) (by simp [evalO, S.get, amLook]) (fun h => nomatch h) (fun _ => ?_)
      refine aw_exit ?_
      simp only [thenQ, blkQ, if_true, reduceIte, Nat.reduceEqDiff, eq_self]
      refine hK8 _ ?_
      clear hK8
      refine aw_ops zT fun K12 hK12 => ?_
      simp only [amset, amlib, zset, eq_self, ↓reduceIte, reduceCtorEq, Nat.reduceBEq, Nat.reduceEqDiff, Nat.reduceAdd, Nat.reduceMul, Nat.reduceLeDiff, Nat.reduceLT, Nat.reduceSub]
      refine hK12 _ ?_
      clear hK12
      refine aw_ret ?_
      show resOf zG _ [.tmp 2] = some _
      simp only [amset, amlib, zset, eq_self, ↓reduceIte, reduceCtorEq, Nat.reduceBEq, Nat.reduceEqDiff, Nat.reduceAdd, Nat.reduceMul, Nat.reduceLeDiff, Nat.reduceLT, Nat.reduceSub]
    · intro dn1 y1 td1 harg1 hI1 R1 hR1
      have hl1 : ([(), ()]).length = dn1.length + (td1.length + 1) := by rw [harg1]; simp
      have hmem1 : y1 ∈ [(), ()] := by rw [harg1]; simp
      refine aw_norm (by simp only [amset, amlib, zset, eq_self, ↓reduceIte, reduceCtorEq, Nat.reduceBEq, Nat.reduceEqDiff, Nat.reduceAdd, Nat.reduceMul, Nat.reduceLeDiff, Nat.reduceLT, Nat.reduceSub]; exact rfl) ?_
      have hd2 : dn1.length < 2 := by simp at hl1; omega
      have hget1 : ([[C.sl 1 []], [C.sl 1 []]] : List (List C)).getD dn1.length [] = [C.sl 1 []] := by
        rcases hx : dn1.length with _ | _ | n
        · rfl
        · rfl
        · omega
      refine aw_ops zT fun K13 hK13 => ?_
      simp only [amset, amlib, zset, eq_self, ↓reduceIte, reduceCtorEq, Nat.reduceBEq, Nat.reduceEqDiff, Nat.reduceAdd, Nat.reduceMul, Nat.reduceLeDiff, Nat.reduceLT, Nat.reduceSub]
      refine hK13 _ ?_
      clear hK13
      refine aw_seq fun K14 hK14 => ?_
      refine aw_cond (t := true) (by simp [evalO, S.get, amLook]; omega) (fun _ => ?_) (fun h => nomatch h)
      refine aw_skip ?_
      simp only [thenQ, blkQ, if_true, reduceIte, Nat.reduceEqDiff, eq_self]
      refine hK14 _ ?_
      clear hK14
      refine aw_seq fun K15 hK15 => ?_
      refine aw_block ?_
      refine aw_ops zT fun K16 hK16 => ?_
      simp only [amset, amlib, zset, hget1, eq_self, ↓reduceIte, reduceCtorEq, Nat.reduceBEq, Nat.reduceEqDiff, Nat.reduceAdd, Nat.reduceMul, Nat.reduceLeDiff, Nat.reduceLT, Nat.reduceSub]
      refine ⟨⟨by omega, by omega⟩, ?_⟩
      refine hK16 _ ?_
      clear hK16
      refine aw_region zT ?_
      simp only [amset, amlib, zset, eq_self, ↓reduceIte, reduceCtorEq, Nat.reduceBEq, Nat.reduceEqDiff, Nat.reduceAdd, Nat.reduceMul, Nat.reduceLeDiff, Nat.reduceLT, Nat.reduceSub]
      refine hK15 _ ?_
      clear hK15
      refine aw_region zT ?_
      simp only [amset, amlib, zset, eq_self, ↓reduceIte, reduceCtorEq, Nat.reduceBEq, Nat.reduceEqDiff, Nat.reduceAdd, Nat.reduceMul, Nat.reduceLeDiff, Nat.reduceLT, Nat.reduceSub]
      refine ⟨⟨by omega, by omega⟩, ?_⟩
      refine hR1 _ trivial ?_
      refine Reach.to ?_ ?_
      · simp only [amset, amlib, zset, eq_self, ↓reduceIte, reduceCtorEq, Nat.reduceBEq, Nat.reduceEqDiff, Nat.reduceAdd, Nat.reduceMul, Nat.reduceLeDiff, Nat.reduceLT, Nat.reduceSub] <;> simp [eq_self]
      · simp only [amset, amlib, zset, eq_self, ↓reduceIte, reduceCtorEq, Nat.reduceBEq, Nat.reduceEqDiff, Nat.reduceAdd, Nat.reduceMul, Nat.reduceLeDiff, Nat.reduceLT, Nat.reduceSub] <;> simp [eq_self]
  · intro dn y td harg hI R hR
    have hl : ([(), ()]).length = dn.length + (td.length + 1) := by rw [harg]; simp
    have hmem : y ∈ [(), ()] := by rw [harg]; simp
    refine aw_norm (by simp only [amset, amlib, zset, eq_self, ↓reduceIte, reduceCtorEq, Nat.reduceBEq, Nat.reduceEqDiff, Nat.reduceAdd, Nat.reduceMul, Nat.reduceLeDiff, Nat.reduceLT, Nat.reduceSub]; exact rfl) ?_
    have hd2 : dn.length < 2 := by simp at hl; omega
    have hget : ([[C.sl 1 []], [C.sl 1 []]] : List (List C)).getD dn.length [] = [C.sl 1 []] := by
      rcases hx : dn.length with _ | _ | n
      · rfl
      · rfl
      · omega
    refine aw_ops zT fun K17 hK17 => ?_
    simp only [amset, amlib, zset, eq_self, ↓reduceIte, reduceCtorEq, Nat.reduceBEq, Nat.reduceEqDiff, Nat.reduceAdd, Nat.reduceMul, Nat.reduceLeDiff, Nat.reduceLT, Nat.reduceSub]
    refine hK17 _ ?_
    clear hK17
    refine aw_seq fun K18 hK18 => ?_
    refine aw_cond (t := true) (by simp [evalO, S.get, amLook]; omega) (fun _ => ?_) (fun h => nomatch h)
    refine aw_skip ?_
    simp only [thenQ, blkQ, if_true, reduceIte, Nat.reduceEqDiff, eq_self]
    refine hK18 _ ?_
    clear hK18
    refine aw_seq fun K19 hK19 => ?_
    refine aw_block ?_
    refine aw_ops zT fun K20 hK20 => ?_
    simp only [amset, amlib, zset, hget, eq_self, ↓reduceIte, reduceCtorEq, Nat.reduceBEq, Nat.reduceEqDiff, Nat.reduceAdd, Nat.reduceMul, Nat.reduceLeDiff, Nat.reduceLT, Nat.reduceSub]
    refine ⟨⟨by omega, by omega⟩, ?_⟩
    refine hK20 _ ?_
    clear hK20
    have hz : ((0 : Int) + ((0 : Nat) : Int)) = 0 := rfl
    refine aw_ops zT fun K21 hK21 => ?_
    simp only [amset, amlib, zset, hz, eq_self, ↓reduceIte, reduceCtorEq, Nat.reduceBEq, Nat.reduceEqDiff, Nat.reduceAdd, Nat.reduceMul, Nat.reduceLeDiff, Nat.reduceLT, Nat.reduceSub]
    intros
    refine ⟨⟨by omega, by omega⟩, ?_⟩
    refine hK21 _ ?_
    clear hK21
    refine aw_ops zT fun K22 hK22 => ?_
    simp only [amset, amlib, zset, eq_self, ↓reduceIte, reduceCtorEq, Nat.reduceBEq, Nat.reduceEqDiff, Nat.reduceAdd, Nat.reduceMul, Nat.reduceLeDiff, Nat.reduceLT, Nat.reduceSub]
    refine hK22 _ ?_
    clear hK22
    refine aw_cond (t := false) (by simp [evalO, S.get, amLook]) (fun h => nomatch h) (fun _ => ?_)
    refine aw_skip ?_
    simp only [thenQ, blkQ, if_true, reduceIte, Nat.reduceEqDiff, eq_self]
    refine hK19 _ ?_
    clear hK19
    refine aw_region zT ?_
    simp only [amset, amlib, zset, eq_self, ↓reduceIte, reduceCtorEq, Nat.reduceBEq, Nat.reduceEqDiff, Nat.reduceAdd, Nat.reduceMul, Nat.reduceLeDiff, Nat.reduceLT, Nat.reduceSub]
    refine ⟨⟨by omega, by omega⟩, ?_⟩
    refine hR _ trivial ?_
    refine Reach.to ?_ ?_
    · simp only [amset, amlib, zset, eq_self, ↓reduceIte, reduceCtorEq, Nat.reduceBEq, Nat.reduceEqDiff, Nat.reduceAdd, Nat.reduceMul, Nat.reduceLeDiff, Nat.reduceLT, Nat.reduceSub] <;> simp [eq_self]
    · simp only [amset, amlib, zset, eq_self, ↓reduceIte, reduceCtorEq, Nat.reduceBEq, Nat.reduceEqDiff, Nat.reduceAdd, Nat.reduceMul, Nat.reduceLeDiff, Nat.reduceLT, Nat.reduceSub] <;> simp [eq_self]
end Go.Proofs.Am
set_option maxRecDepth 100000
set_option maxHeartbeats 4000000
namespace Go.Proofs.Am
def stTab : List (Bool × Bool × Bool × Bool × Int) := [(false, false, false, false, 0), (true, false, false, false, 1), (true, false, false, false, 1), (true, false, false, false, 2), (false, false, true, true, 1), (false, true, true, false, 0), (false, false, true, false, 1), (true, false, false, false, 1), (false, false, false, false, 1), (true, false, false, false, 1), (false, true, true, false, 0), (false, true, true, false, 0), (false, false, false, false, 0), (false, false, false, false, 0)]
def stR (k : Int) : Bool × Bool × Bool × Bool × Int := stTab.getD k.toNat (false, false, false, false, 0)
def sN (k : Int) : Bool := (stR k).1
def sI (k : Int) : Bool := (stR k).2.1
def sB (k : Int) : Bool := (stR k).2.2.1
def sA (k : Int) : Bool := (stR k).2.2.2.1
def sC (k : Int) : Int := (stR k).2.2.2.2
theorem st_at (k : Int) (h : 1 ≤ k ∧ k ≤ 13) : gStatements.drop (k.toNat * 5) = .bool (sN k) :: .bool (sI k) :: .bool (sB k) :: .bool (sA k) :: .int .i64 (sC k) :: gStatements.drop (k.toNat * 5 + 5) := by
  have : k = 1 ∨ k = 2 ∨ k = 3 ∨ k = 4 ∨ k = 5 ∨ k = 6 ∨ k = 7 ∨ k = 8 ∨ k = 9 ∨ k = 10 ∨ k = 11 ∨ k = 12 ∨ k = 13 := by omega
  rcases this with rfl | rfl | rfl | rfl | rfl | rfl | rfl | rfl | rfl | rfl | rfl | rfl | rfl <;> rfl
def nmA (x : St) : Bool := (sN x.kind && ident x.name) || (!sN x.kind && (x.name == []))
def nuA (x : St) : Bool := (sI x.kind && numA x.n) || (!sI x.kind && (x.n == 0))
def lsA (x : St) : Bool := (sB x.kind || ((x.body.length : Int) == 0)) && (sA x.kind || ((x.els.length : Int) == 0))
def bdA (x : St) : Bool := decide (x.kind < 1) || decide (x.kind > 13) || !nmA x || !nuA x || !lsA x || ((x.args.length : Int) != sC x.kind) || x.args.any (fun y => !wfA y)
mutual
def wfS : St → Bool
  | .mk k n v a b e p => !bdA (.mk k n v a b e p) && wfSs b && wfSs e
def wfSs : List St → Bool
  | [] => true
  | x :: r => wfS x && wfSs r
end
theorem wfS_not (x : St) : (!wfS x) = (bdA x || !wfSs x.body || !wfSs x.els) := by
  cases x
  rw [wfS, Bool.not_and, Bool.not_and, Bool.not_not]
  rfl
theorem wfSs_any (l : List St) : (!(l.any fun y => !wfS y)) = wfSs l := by
  induction l with
  | nil => rfl
  | cons y r ih => rw [List.any_cons, Bool.not_or, ih, wfSs, Bool.not_not]
theorem prog209 : Tryz.prog.funcs[209]? = some Tryz.f209 := by kernel_rfl
theorem holds209 (x : Ex) : Holds Tryz.prog zG 209 [.agg [.int .i64 x.kind, .str x.name, .int .i16 x.value, .int .i64 x.op, .sl 6 (encEs x.args), .int .i64 x.pos]] [.c (.bool (!wfA x))] := by
  refine holds_of_body zT prog209 rfl rfl rfl (by simp [Tryz.f209]) ?_
  refine aw_ops zT fun K1 hK1 => ?_
  simp only [amset, amlib, zset, eq_self, ↓reduceIte, reduceCtorEq, Nat.reduceBEq, Nat.reduceEqDiff, Nat.reduceAdd, Nat.reduceMul, Nat.reduceLeDiff, Nat.reduceLT, Nat.reduceSub]
  refine hK1 _ ?_
  clear hK1
  refine aw_ops zT fun K2 hK2 => ?_
  simp only [amset, amlib, zset, eq_self, ↓reduceIte, reduceCtorEq, Nat.reduceBEq, Nat.reduceEqDiff, Nat.reduceAdd, Nat.reduceMul, Nat.reduceLeDiff, Nat.reduceLT, Nat.reduceSub]
  refine ⟨_, holds93 x, ?_⟩
  simp only [later]
  simp only [amset, amlib, zset, eq_self, ↓reduceIte, reduceCtorEq, Nat.reduceBEq, Nat.reduceEqDiff, Nat.reduceAdd, Nat.reduceMul, Nat.reduceLeDiff, Nat.reduceLT, Nat.reduceSub]
  refine hK2 _ ?_
  clear hK2
  refine aw_ret ?_
  show resOf zG _ [.tmp 2] = some _
  simp only [amset, amlib, zset, eq_self, ↓reduceIte, reduceCtorEq, Nat.reduceBEq, Nat.reduceEqDiff, Nat.reduceAdd, Nat.reduceMul, Nat.reduceLeDiff, Nat.reduceLT, Nat.reduceSub]
theorem prog208 : Tryz.prog.funcs[208]? = some Tryz.f208 := by kernel_rfl
theorem step208 (x : St) (ih : Holds Tryz.prog zG 174 [.c (.sl 7 (encSs x.body))] [.c (.bool (wfSs x.body))]) (ihe : Holds Tryz.prog zG 174 [.c (.sl 7 (encSs x.els))] [.c (.bool (wfSs x.els))]) : Holds Tryz.prog zG 208 [.agg [.int .i64 x.kind, .str x.name, .int .i64 x.n, .sl 6 (encEs x.args), .sl 7 (encSs x.body), .sl 7 (encSs x.els), .int .i64 x.pos]] [.c (.bool (!wfS x))] := by
  refine holds_of_body zT prog208 rfl rfl rfl (by simp [Tryz.f208]) ?_
  refine aw_ops zT fun K1 hK1 => ?_
  simp only [amset, amlib, zset, eq_self, ↓reduceIte, reduceCtorEq, Nat.reduceBEq, Nat.reduceEqDiff, Nat.reduceAdd, Nat.reduceMul, Nat.reduceLeDiff, Nat.reduceLT, Nat.reduceSub]
  refine hK1 _ ?_
  clear hK1
  refine aw_seq fun K2 hK2 => ?_
  refine aw_ops zT fun K3 hK3 => ?_
  cases k0 : decide (x.kind < 1) with
  | true =>
    simp only [amset, amlib, zset, k0, eq_self, ↓reduceIte, reduceCtorEq, Nat.reduceBEq, Nat.reduceEqDiff, Nat.reduceAdd, Nat.reduceMul, Nat.reduceLeDiff, Nat.reduceLT, Nat.reduceSub]
    refine hK3 _ ?_
    clear hK3
    refine aw_cond (t := true) rfl (fun _ => ?_) (fun h => nomatch h)
    refine aw_ops zT fun K4 hK4 => ?_
    simp only [amset, amlib, zset, eq_self, ↓reduceIte, reduceCtorEq, Nat.reduceBEq, Nat.reduceEqDiff, Nat.reduceAdd, Nat.reduceMul, Nat.reduceLeDiff, Nat.reduceLT, Nat.reduceSub]
    refine hK4 _ ?_
    clear hK4
    refine aw_ret ?_
    show resOf zG _ [.tmp 2] = some _
    simp only [amset, amlib, zset, eq_self, ↓reduceIte, reduceCtorEq, Nat.reduceBEq, Nat.reduceEqDiff, Nat.reduceAdd, Nat.reduceMul, Nat.reduceLeDiff, Nat.reduceLT, Nat.reduceSub]
    rw [wfS_not]
    simp only [bdA, k0, Bool.true_or, Bool.or_true, Bool.false_or, Bool.or_false, Bool.true_and, Bool.and_true, Bool.false_and, Bool.and_false, Bool.not_true, Bool.not_false, if_true, if_false, ↓reduceIte, Bool.false_eq_true]
  | false =>
    cases k1 : decide (x.kind > 13) with
    | true =>
      simp only [amset, amlib, zset, k0, k1, eq_self, ↓reduceIte, reduceCtorEq, Nat.reduceBEq, Nat.reduceEqDiff, Nat.reduceAdd, Nat.reduceMul, Nat.reduceLeDiff, Nat.reduceLT, Nat.reduceSub]
      refine hK3 _ ?_
      clear hK3
      refine aw_cond (t := true) rfl (fun _ => ?_) (fun h => nomatch h)
      refine aw_ops zT fun K5 hK5 => ?_
      simp only [amset, amlib, zset, eq_self, ↓reduceIte, reduceCtorEq, Nat.reduceBEq, Nat.reduceEqDiff, Nat.reduceAdd, Nat.reduceMul, Nat.reduceLeDiff, Nat.reduceLT, Nat.reduceSub]
      refine hK5 _ ?_
      clear hK5
      refine aw_ret ?_
      show resOf zG _ [.tmp 2] = some _
      simp only [amset, amlib, zset, eq_self, ↓reduceIte, reduceCtorEq, Nat.reduceBEq, Nat.reduceEqDiff, Nat.reduceAdd, Nat.reduceMul, Nat.reduceLeDiff, Nat.reduceLT, Nat.reduceSub]
      rw [wfS_not]
      simp only [bdA, k0, k1, Bool.true_or, Bool.or_true, Bool.false_or, Bool.or_false, Bool.true_and, Bool.and_true, Bool.false_and, Bool.and_false, Bool.not_true, Bool.not_false, if_true, if_false, ↓reduceIte, Bool.false_eq_true]
    | false =>
      simp only [amset, amlib, zset, k0, k1, eq_self, ↓reduceIte, reduceCtorEq, Nat.reduceBEq, Nat.reduceEqDiff, Nat.reduceAdd, Nat.reduceMul, Nat.reduceLeDiff, Nat.reduceLT, Nat.reduceSub]
      refine hK3 _ ?_
      clear hK3
      refine aw_cond (t := false) rfl (fun h => nomatch h) (fun _ => ?_)
      refine aw_skip ?_
      simp only [thenQ, blkQ, if_true, reduceIte, Nat.reduceEqDiff, eq_self]
      refine hK2 _ ?_
      clear hK2
      have hst := st_at x.kind (by simp at k0 k1; omega)
      refine aw_ops zT fun K6 hK6 => ?_
      simp only [amset, amlib, zset, hst, eq_self, ↓reduceIte, reduceCtorEq, Nat.reduceBEq, Nat.reduceEqDiff, Nat.reduceAdd, Nat.reduceMul, Nat.reduceLeDiff, Nat.reduceLT, Nat.reduceSub]
      refine ⟨⟨by simp at k0; omega, by simp at k1; omega⟩, ?_⟩
      refine hK6 _ ?_
      clear hK6
      refine aw_ops zT fun K7 hK7 => ?_
      have keyK7 : ∀ E B, envIn E ([(1, .ptr 1 0), (3, .ptr 3 0), (4, .cell (.c (.bool (nmA x))))] : List (Nat × V)) → envIn B ([(1, (encS x).map .c), (3, [.c (.bool (sN x.kind)), .c (.bool (sI x.kind)), .c (.bool (sB x.kind)), .c (.bool (sA x.kind)), .c (.int .i64 (sC x.kind))])] : List (Nat × List Cell)) → K7 ⟨E, B⟩ := by
        intro E B he hb
        refine hK7 _ (aw_to ⟨[(1, .ptr 1 0), (3, .ptr 3 0), (4, .cell (.c (.bool (nmA x))))], [(1, (encS x).map .c), (3, [.c (.bool (sN x.kind)), .c (.bool (sI x.kind)), .c (.bool (sB x.kind)), .c (.bool (sA x.kind)), .c (.int .i64 (sC x.kind))])]⟩ he hb ?_)
        refine aw_ops zT fun K8 hK8 => ?_
        have keyK8 : ∀ E B, envIn E ([(1, .ptr 1 0), (3, .ptr 3 0), (4, .cell (.c (.bool (nmA x)))), (5, .cell (.c (.bool (nuA x))))] : List (Nat × V)) → envIn B ([(1, (encS x).map .c), (3, [.c (.bool (sN x.kind)), .c (.bool (sI x.kind)), .c (.bool (sB x.kind)), .c (.bool (sA x.kind)), .c (.int .i64 (sC x.kind))])] : List (Nat × List Cell)) → K8 ⟨E, B⟩ := by
          intro E B he hb
          refine hK8 _ (aw_to ⟨[(1, .ptr 1 0), (3, .ptr 3 0), (4, .cell (.c (.bool (nmA x)))), (5, .cell (.c (.bool (nuA x))))], [(1, (encS x).map .c), (3, [.c (.bool (sN x.kind)), .c (.bool (sI x.kind)), .c (.bool (sB x.kind)), .c (.bool (sA x.kind)), .c (.int .i64 (sC x.kind))])]⟩ he hb ?_)
          refine aw_ops zT fun K9 hK9 => ?_
          have keyK9 : ∀ E B, envIn E ([(1, .ptr 1 0), (3, .ptr 3 0), (4, .cell (.c (.bool (nmA x)))), (5, .cell (.c (.bool (nuA x)))), (6, .cell (.c (.bool (lsA x))))] : List (Nat × V)) → envIn B ([(1, (encS x).map .c), (3, [.c (.bool (sN x.kind)), .c (.bool (sI x.kind)), .c (.bool (sB x.kind)), .c (.bool (sA x.kind)), .c (.int .i64 (sC x.kind))])] : List (Nat × List Cell)) → K9 ⟨E, B⟩ := by
            intro E B he hb
            refine hK9 _ (aw_to ⟨[(1, .ptr 1 0), (3, .ptr 3 0), (4, .cell (.c (.bool (nmA x)))), (5, .cell (.c (.bool (nuA x)))), (6, .cell (.c (.bool (lsA x))))], [(1, (encS x).map .c), (3, [.c (.bool (sN x.kind)), .c (.bool (sI x.kind)), .c (.bool (sB x.kind)), .c (.bool (sA x.kind)), .c (.int .i64 (sC x.kind))])]⟩ he hb ?_)
            refine aw_ops zT fun K10 hK10 => ?_
            cases u0 : (!nmA x) with
            | true =>
              simp only [amset, amlib, zset, k0, k1, u0, eq_self, ↓reduceIte, reduceCtorEq, Nat.reduceBEq, Nat.reduceEqDiff, Nat.reduceAdd, Nat.reduceMul, Nat.reduceLeDiff, Nat.reduceLT, Nat.reduceSub]
              refine hK10 _ ?_
              clear hK10
              refine aw_ret ?_
              show resOf zG _ [.tmp 2] = some _
              simp only [amset, amlib, zset, eq_self, ↓reduceIte, reduceCtorEq, Nat.reduceBEq, Nat.reduceEqDiff, Nat.reduceAdd, Nat.reduceMul, Nat.reduceLeDiff, Nat.reduceLT, Nat.reduceSub]
              rw [wfS_not]
              simp only [bdA, k0, k1, u0, Bool.true_or, Bool.or_true, Bool.false_or, Bool.or_false, Bool.true_and, Bool.and_true, Bool.false_and, Bool.and_false, Bool.not_true, Bool.not_false, if_true, if_false, ↓reduceIte, Bool.false_eq_true]
            | false =>
              cases u1 : (!nuA x) with
              | true =>
                simp only [amset, amlib, zset, k0, k1, u0, u1, eq_self, ↓reduceIte, reduceCtorEq, Nat.reduceBEq, Nat.reduceEqDiff, Nat.reduceAdd, Nat.reduceMul, Nat.reduceLeDiff, Nat.reduceLT, Nat.reduceSub]
                refine hK10 _ ?_
                clear hK10
                refine aw_ret ?_
                show resOf zG _ [.tmp 2] = some _
                simp only [amset, amlib, zset, eq_self, ↓reduceIte, reduceCtorEq, Nat.reduceBEq, Nat.reduceEqDiff, Nat.reduceAdd, Nat.reduceMul, Nat.reduceLeDiff, Nat.reduceLT, Nat.reduceSub]
                rw [wfS_not]
                simp only [bdA, k0, k1, u0, u1, Bool.true_or, Bool.or_true, Bool.false_or, Bool.or_false, Bool.true_and, Bool.and_true, Bool.false_and, Bool.and_false, Bool.not_true, Bool.not_false, if_true, if_false, ↓reduceIte, Bool.false_eq_true]
              | false =>
                cases u2 : (!lsA x) with
                | true =>
                  simp only [amset, amlib, zset, k0, k1, u0, u1, u2, eq_self, ↓reduceIte, reduceCtorEq, Nat.reduceBEq, Nat.reduceEqDiff, Nat.reduceAdd, Nat.reduceMul, Nat.reduceLeDiff, Nat.reduceLT, Nat.reduceSub]
                  refine hK10 _ ?_
                  clear hK10
                  refine aw_ret ?_
                  show resOf zG _ [.tmp 2] = some _
                  simp only [amset, amlib, zset, eq_self, ↓reduceIte, reduceCtorEq, Nat.reduceBEq, Nat.reduceEqDiff, Nat.reduceAdd, Nat.reduceMul, Nat.reduceLeDiff, Nat.reduceLT, Nat.reduceSub]
                  rw [wfS_not]
                  simp only [bdA, k0, k1, u0, u1, u2, Bool.true_or, Bool.or_true, Bool.false_or, Bool.or_false, Bool.true_and, Bool.and_true, Bool.false_and, Bool.and_false, Bool.not_true, Bool.not_false, if_true, if_false, ↓reduceIte, Bool.false_eq_true]
                | false =>
                  cases u3 : ((x.args.length : Int) != sC x.kind) with
                  | true =>
                    simp only [amset, amlib, zset, k0, k1, u0, u1, u2, u3, eq_self, ↓reduceIte, reduceCtorEq, Nat.reduceBEq, Nat.reduceEqDiff, Nat.reduceAdd, Nat.reduceMul, Nat.reduceLeDiff, Nat.reduceLT, Nat.reduceSub]
                    intros
                    refine hK10 _ ?_
                    clear hK10
                    refine aw_ret ?_
                    show resOf zG _ [.tmp 2] = some _
                    simp only [amset, amlib, zset, eq_self, ↓reduceIte, reduceCtorEq, Nat.reduceBEq, Nat.reduceEqDiff, Nat.reduceAdd, Nat.reduceMul, Nat.reduceLeDiff, Nat.reduceLT, Nat.reduceSub]
                    rw [wfS_not]
                    simp only [bdA, k0, k1, u0, u1, u2, u3, Bool.true_or, Bool.or_true, Bool.false_or, Bool.or_false, Bool.true_and, Bool.and_true, Bool.false_and, Bool.and_false, Bool.not_true, Bool.not_false, if_true, if_false, ↓reduceIte, Bool.false_eq_true]
                  | false =>
                    cases u4 : (x.args.any fun y => !wfA y) with
                    | true =>
                      simp only [amset, amlib, zset, k0, k1, u0, u1, u2, u3, u4, eq_self, ↓reduceIte, reduceCtorEq, Nat.reduceBEq, Nat.reduceEqDiff, Nat.reduceAdd, Nat.reduceMul, Nat.reduceLeDiff, Nat.reduceLT, Nat.reduceSub]
                      intros
                      refine ⟨_, holds79 209 (fun y => !wfA y) x.args (fun y _ => holds209 y), ?_⟩
                      simp only [later]
                      simp only [amset, amlib, zset, k0, k1, u0, u1, u2, u3, u4, eq_self, ↓reduceIte, reduceCtorEq, Nat.reduceBEq, Nat.reduceEqDiff, Nat.reduceAdd, Nat.reduceMul, Nat.reduceLeDiff, Nat.reduceLT, Nat.reduceSub]
                      refine hK10 _ ?_
                      clear hK10
                      refine aw_ret ?_
                      show resOf zG _ [.tmp 2] = some _
                      simp only [amset, amlib, zset, eq_self, ↓reduceIte, reduceCtorEq, Nat.reduceBEq, Nat.reduceEqDiff, Nat.reduceAdd, Nat.reduceMul, Nat.reduceLeDiff, Nat.reduceLT, Nat.reduceSub]
                      rw [wfS_not]
                      simp only [bdA, k0, k1, u0, u1, u2, u3, u4, Bool.true_or, Bool.or_true, Bool.false_or, Bool.or_false, Bool.true_and, Bool.and_true, Bool.false_and, Bool.and_false, Bool.not_true, Bool.not_false, if_true, if_false, ↓reduceIte, Bool.false_eq_true]
                    | false =>
                      cases u5 : (!wfSs x.body) with
                      | true =>
                        simp only [amset, amlib, zset, k0, k1, u0, u1, u2, u3, u4, u5, eq_self, ↓reduceIte, reduceCtorEq, Nat.reduceBEq, Nat.reduceEqDiff, Nat.reduceAdd, Nat.reduceMul, Nat.reduceLeDiff, Nat.reduceLT, Nat.reduceSub]
                        intros
                        refine ⟨_, holds79 209 (fun y => !wfA y) x.args (fun y _ => holds209 y), ?_⟩
                        simp only [later]
                        simp only [amset, amlib, zset, k0, k1, u0, u1, u2, u3, u4, u5, eq_self, ↓reduceIte, reduceCtorEq, Nat.reduceBEq, Nat.reduceEqDiff, Nat.reduceAdd, Nat.reduceMul, Nat.reduceLeDiff, Nat.reduceLT, Nat.reduceSub]
                        refine ⟨_, ih, ?_⟩
                        simp only [later]
                        simp only [amset, amlib, zset, k0, k1, u0, u1, u2, u3, u4, u5, eq_self, ↓reduceIte, reduceCtorEq, Nat.reduceBEq, Nat.reduceEqDiff, Nat.reduceAdd, Nat.reduceMul, Nat.reduceLeDiff, Nat.reduceLT, Nat.reduceSub]
                        refine hK10 _ ?_
                        clear hK10
                        refine aw_ret ?_
                        show resOf zG _ [.tmp 2] = some _
                        simp only [amset, amlib, zset, eq_self, ↓reduceIte, reduceCtorEq, Nat.reduceBEq, Nat.reduceEqDiff, Nat.reduceAdd, Nat.reduceMul, Nat.reduceLeDiff, Nat.reduceLT, Nat.reduceSub]
                        rw [wfS_not]
                        simp only [bdA, k0, k1, u0, u1, u2, u3, u4, u5, Bool.true_or, Bool.or_true, Bool.false_or, Bool.or_false, Bool.true_and, Bool.and_true, Bool.false_and, Bool.and_false, Bool.not_true, Bool.not_false, if_true, if_false, ↓reduceIte, Bool.false_eq_true]
                      | false =>
                        cases u6 : (!wfSs x.els) with
                        | true =>
                          simp only [amset, amlib, zset, k0, k1, u0, u1, u2, u3, u4, u5, u6, eq_self, ↓reduceIte, reduceCtorEq, Nat.reduceBEq, Nat.reduceEqDiff, Nat.reduceAdd, Nat.reduceMul, Nat.reduceLeDiff, Nat.reduceLT, Nat.reduceSub]
                          intros
                          refine ⟨_, holds79 209 (fun y => !wfA y) x.args (fun y _ => holds209 y), ?_⟩
                          simp only [later]
                          simp only [amset, amlib, zset, k0, k1, u0, u1, u2, u3, u4, u5, u6, eq_self, ↓reduceIte, reduceCtorEq, Nat.reduceBEq, Nat.reduceEqDiff, Nat.reduceAdd, Nat.reduceMul, Nat.reduceLeDiff, Nat.reduceLT, Nat.reduceSub]
                          refine ⟨_, ih, ?_⟩
                          simp only [later]
                          simp only [amset, amlib, zset, k0, k1, u0, u1, u2, u3, u4, u5, u6, eq_self, ↓reduceIte, reduceCtorEq, Nat.reduceBEq, Nat.reduceEqDiff, Nat.reduceAdd, Nat.reduceMul, Nat.reduceLeDiff, Nat.reduceLT, Nat.reduceSub]
                          refine ⟨_, ihe, ?_⟩
                          simp only [later]
                          simp only [amset, amlib, zset, k0, k1, u0, u1, u2, u3, u4, u5, u6, eq_self, ↓reduceIte, reduceCtorEq, Nat.reduceBEq, Nat.reduceEqDiff, Nat.reduceAdd, Nat.reduceMul, Nat.reduceLeDiff, Nat.reduceLT, Nat.reduceSub]
                          refine hK10 _ ?_
                          clear hK10
                          refine aw_ret ?_
                          show resOf zG _ [.tmp 2] = some _
                          simp only [amset, amlib, zset, eq_self, ↓reduceIte, reduceCtorEq, Nat.reduceBEq, Nat.reduceEqDiff, Nat.reduceAdd, Nat.reduceMul, Nat.reduceLeDiff, Nat.reduceLT, Nat.reduceSub]
                          rw [wfS_not]
                          simp only [bdA, k0, k1, u0, u1, u2, u3, u4, u5, u6, Bool.true_or, Bool.or_true, Bool.false_or, Bool.or_false, Bool.true_and, Bool.and_true, Bool.false_and, Bool.and_false, Bool.not_true, Bool.not_false, if_true, if_false, ↓reduceIte, Bool.false_eq_true]
                        | false =>
                          simp only [amset, amlib, zset, k0, k1, u0, u1, u2, u3, u4, u5, u6, eq_self, ↓reduceIte, reduceCtorEq, Nat.reduceBEq, Nat.reduceEqDiff, Nat.reduceAdd, Nat.reduceMul, Nat.reduceLeDiff, Nat.reduceLT, Nat.reduceSub]
                          intros
                          refine ⟨_, holds79 209 (fun y => !wfA y) x.args (fun y _ => holds209 y), ?_⟩
                          simp only [later]
                          simp only [amset, amlib, zset, k0, k1, u0, u1, u2, u3, u4, u5, u6, eq_self, ↓reduceIte, reduceCtorEq, Nat.reduceBEq, Nat.reduceEqDiff, Nat.reduceAdd, Nat.reduceMul, Nat.reduceLeDiff, Nat.reduceLT, Nat.reduceSub]
                          refine ⟨_, ih, ?_⟩
                          simp only [later]
                          simp only [amset, amlib, zset, k0, k1, u0, u1, u2, u3, u4, u5, u6, eq_self, ↓reduceIte, reduceCtorEq, Nat.reduceBEq, Nat.reduceEqDiff, Nat.reduceAdd, Nat.reduceMul, Nat.reduceLeDiff, Nat.reduceLT, Nat.reduceSub]
                          refine ⟨_, ihe, ?_⟩
                          simp only [later]
                          simp only [amset, amlib, zset, k0, k1, u0, u1, u2, u3, u4, u5, u6, eq_self, ↓reduceIte, reduceCtorEq, Nat.reduceBEq, Nat.reduceEqDiff, Nat.reduceAdd, Nat.reduceMul, Nat.reduceLeDiff, Nat.reduceLT, Nat.reduceSub]
                          refine hK10 _ ?_
                          clear hK10
                          refine aw_ret ?_
                          show resOf zG _ [.tmp 2] = some _
                          simp only [amset, amlib, zset, eq_self, ↓reduceIte, reduceCtorEq, Nat.reduceBEq, Nat.reduceEqDiff, Nat.reduceAdd, Nat.reduceMul, Nat.reduceLeDiff, Nat.reduceLT, Nat.reduceSub]
                          rw [wfS_not]
                          simp only [bdA, k0, k1, u0, u1, u2, u3, u4, u5, u6, Bool.true_or, Bool.or_true, Bool.false_or, Bool.or_false, Bool.true_and, Bool.and_true, Bool.false_and, Bool.and_false, Bool.not_true, Bool.not_false, if_true, if_false, ↓reduceIte, Bool.false_eq_true]
          cases c0 : sB x.kind with
          | true =>
            cases c2 : sA x.kind with
            | true =>
              simp only [amset, amlib, zset, k0, k1, c0, c2, eq_self, ↓reduceIte, reduceCtorEq, Nat.reduceBEq, Nat.reduceEqDiff, Nat.reduceAdd, Nat.reduceMul, Nat.reduceLeDiff, Nat.reduceLT, Nat.reduceSub]
              refine keyK9 _ _ ?_ ?_
              · simp only [amset, amlib, zset, eq_self, ↓reduceIte, reduceCtorEq, Nat.reduceBEq, Nat.reduceEqDiff, Nat.reduceAdd, Nat.reduceMul, Nat.reduceLeDiff, Nat.reduceLT, Nat.reduceSub] <;> simp only [lsA, k0, k1, c0, c2, Bool.true_or, Bool.or_true, Bool.false_or, Bool.or_false, Bool.true_and, Bool.and_true, Bool.false_and, Bool.and_false, Bool.not_true, Bool.not_false, if_true, if_false, ↓reduceIte, Bool.false_eq_true]
              · simp only [amset, amlib, zset, eq_self, ↓reduceIte, reduceCtorEq, Nat.reduceBEq, Nat.reduceEqDiff, Nat.reduceAdd, Nat.reduceMul, Nat.reduceLeDiff, Nat.reduceLT, Nat.reduceSub] <;> simp only [k0, k1, c0, c2]
            | false =>
              simp only [amset, amlib, zset, k0, k1, c0, c2, eq_self, ↓reduceIte, reduceCtorEq, Nat.reduceBEq, Nat.reduceEqDiff, Nat.reduceAdd, Nat.reduceMul, Nat.reduceLeDiff, Nat.reduceLT, Nat.reduceSub]
              intros
              refine keyK9 _ _ ?_ ?_
              · simp only [amset, amlib, zset, eq_self, ↓reduceIte, reduceCtorEq, Nat.reduceBEq, Nat.reduceEqDiff, Nat.reduceAdd, Nat.reduceMul, Nat.reduceLeDiff, Nat.reduceLT, Nat.reduceSub] <;> simp only [lsA, k0, k1, c0, c2, Bool.true_or, Bool.or_true, Bool.false_or, Bool.or_false, Bool.true_and, Bool.and_true, Bool.false_and, Bool.and_false, Bool.not_true, Bool.not_false, if_true, if_false, ↓reduceIte, Bool.false_eq_true]
              · simp only [amset, amlib, zset, eq_self, ↓reduceIte, reduceCtorEq, Nat.reduceBEq, Nat.reduceEqDiff, Nat.reduceAdd, Nat.reduceMul, Nat.reduceLeDiff, Nat.reduceLT, Nat.reduceSub] <;> simp only [k0, k1, c0, c2]
          | false =>
            cases c1 : ((x.body.length : Int) == 0) with
            | true =>
              cases c2 : sA x.kind with
              | true =>
                simp only [amset, amlib, zset, k0, k1, c0, c1, c2, eq_self, ↓reduceIte, reduceCtorEq, Nat.reduceBEq, Nat.reduceEqDiff, Nat.reduceAdd, Nat.reduceMul, Nat.reduceLeDiff, Nat.reduceLT, Nat.reduceSub]
                intros
                refine keyK9 _ _ ?_ ?_
                · simp only [amset, amlib, zset, eq_self, ↓reduceIte, reduceCtorEq, Nat.reduceBEq, Nat.reduceEqDiff, Nat.reduceAdd, Nat.reduceMul, Nat.reduceLeDiff, Nat.reduceLT, Nat.reduceSub] <;> simp only [lsA, k0, k1, c0, c1, c2, Bool.true_or, Bool.or_true, Bool.false_or, Bool.or_false, Bool.true_and, Bool.and_true, Bool.false_and, Bool.and_false, Bool.not_true, Bool.not_false, if_true, if_false, ↓reduceIte, Bool.false_eq_true]
                · simp only [amset, amlib, zset, eq_self, ↓reduceIte, reduceCtorEq, Nat.reduceBEq, Nat.reduceEqDiff, Nat.reduceAdd, Nat.reduceMul, Nat.reduceLeDiff, Nat.reduceLT, Nat.reduceSub] <;> simp only [k0, k1, c0, c1, c2]
              | false =>
                simp only [amset, amlib, zset, k0, k1, c0, c1, c2, eq_self, ↓reduceIte, reduceCtorEq, Nat.reduceBEq, Nat.reduceEqDiff, Nat.reduceAdd, Nat.reduceMul, Nat.reduceLeDiff, Nat.reduceLT, Nat.reduceSub]
                intros
                intros
                refine keyK9 _ _ ?_ ?_
                · simp only [amset, amlib, zset, eq_self, ↓reduceIte, reduceCtorEq, Nat.reduceBEq, Nat.reduceEqDiff, Nat.reduceAdd, Nat.reduceMul, Nat.reduceLeDiff, Nat.reduceLT, Nat.reduceSub] <;> simp only [lsA, k0, k1, c0, c1, c2, Bool.true_or, Bool.or_true, Bool.false_or, Bool.or_false, Bool.true_and, Bool.and_true, Bool.false_and, Bool.and_false, Bool.not_true, Bool.not_false, if_true, if_false, ↓reduceIte, Bool.false_eq_true]
                · simp only [amset, amlib, zset, eq_self, ↓reduceIte, reduceCtorEq, Nat.reduceBEq, Nat.reduceEqDiff, Nat.reduceAdd, Nat.reduceMul, Nat.reduceLeDiff, Nat.reduceLT, Nat.reduceSub] <;> simp only [k0, k1, c0, c1, c2]
            | false =>
              simp only [amset, amlib, zset, k0, k1, c0, c1, eq_self, ↓reduceIte, reduceCtorEq, Nat.reduceBEq, Nat.reduceEqDiff, Nat.reduceAdd, Nat.reduceMul, Nat.reduceLeDiff, Nat.reduceLT, Nat.reduceSub]
              intros
              refine keyK9 _ _ ?_ ?_
              · simp only [amset, amlib, zset, eq_self, ↓reduceIte, reduceCtorEq, Nat.reduceBEq, Nat.reduceEqDiff, Nat.reduceAdd, Nat.reduceMul, Nat.reduceLeDiff, Nat.reduceLT, Nat.reduceSub] <;> simp only [lsA, k0, k1, c0, c1, Bool.true_or, Bool.or_true, Bool.false_or, Bool.or_false, Bool.true_and, Bool.and_true, Bool.false_and, Bool.and_false, Bool.not_true, Bool.not_false, if_true, if_false, ↓reduceIte, Bool.false_eq_true]
              · simp only [amset, amlib, zset, eq_self, ↓reduceIte, reduceCtorEq, Nat.reduceBEq, Nat.reduceEqDiff, Nat.reduceAdd, Nat.reduceMul, Nat.reduceLeDiff, Nat.reduceLT, Nat.reduceSub] <;> simp only [k0, k1, c0, c1]
        cases b0 : sI x.kind with
        | true =>
          cases b1 : numA x.n with
          | true =>
            simp only [amset, amlib, zset, k0, k1, b0, b1, eq_self, ↓reduceIte, reduceCtorEq, Nat.reduceBEq, Nat.reduceEqDiff, Nat.reduceAdd, Nat.reduceMul, Nat.reduceLeDiff, Nat.reduceLT, Nat.reduceSub]
            refine ⟨_, holds98 x.n, ?_⟩
            simp only [later]
            simp only [amset, amlib, zset, k0, k1, b0, b1, eq_self, ↓reduceIte, reduceCtorEq, Nat.reduceBEq, Nat.reduceEqDiff, Nat.reduceAdd, Nat.reduceMul, Nat.reduceLeDiff, Nat.reduceLT, Nat.reduceSub]
            refine keyK8 _ _ ?_ ?_
            · simp only [amset, amlib, zset, eq_self, ↓reduceIte, reduceCtorEq, Nat.reduceBEq, Nat.reduceEqDiff, Nat.reduceAdd, Nat.reduceMul, Nat.reduceLeDiff, Nat.reduceLT, Nat.reduceSub] <;> simp only [nuA, k0, k1, b0, b1, Bool.true_or, Bool.or_true, Bool.false_or, Bool.or_false, Bool.true_and, Bool.and_true, Bool.false_and, Bool.and_false, Bool.not_true, Bool.not_false, if_true, if_false, ↓reduceIte, Bool.false_eq_true]
            · simp only [amset, amlib, zset, eq_self, ↓reduceIte, reduceCtorEq, Nat.reduceBEq, Nat.reduceEqDiff, Nat.reduceAdd, Nat.reduceMul, Nat.reduceLeDiff, Nat.reduceLT, Nat.reduceSub] <;> simp only [k0, k1, b0, b1]
          | false =>
            simp only [amset, amlib, zset, k0, k1, b0, b1, eq_self, ↓reduceIte, reduceCtorEq, Nat.reduceBEq, Nat.reduceEqDiff, Nat.reduceAdd, Nat.reduceMul, Nat.reduceLeDiff, Nat.reduceLT, Nat.reduceSub]
            refine ⟨_, holds98 x.n, ?_⟩
            simp only [later]
            simp only [amset, amlib, zset, k0, k1, b0, b1, eq_self, ↓reduceIte, reduceCtorEq, Nat.reduceBEq, Nat.reduceEqDiff, Nat.reduceAdd, Nat.reduceMul, Nat.reduceLeDiff, Nat.reduceLT, Nat.reduceSub]
            refine keyK8 _ _ ?_ ?_
            · simp only [amset, amlib, zset, eq_self, ↓reduceIte, reduceCtorEq, Nat.reduceBEq, Nat.reduceEqDiff, Nat.reduceAdd, Nat.reduceMul, Nat.reduceLeDiff, Nat.reduceLT, Nat.reduceSub] <;> simp only [nuA, k0, k1, b0, b1, Bool.true_or, Bool.or_true, Bool.false_or, Bool.or_false, Bool.true_and, Bool.and_true, Bool.false_and, Bool.and_false, Bool.not_true, Bool.not_false, if_true, if_false, ↓reduceIte, Bool.false_eq_true]
            · simp only [amset, amlib, zset, eq_self, ↓reduceIte, reduceCtorEq, Nat.reduceBEq, Nat.reduceEqDiff, Nat.reduceAdd, Nat.reduceMul, Nat.reduceLeDiff, Nat.reduceLT, Nat.reduceSub] <;> simp only [k0, k1, b0, b1]
        | false =>
          simp only [amset, amlib, zset, k0, k1, b0, eq_self, ↓reduceIte, reduceCtorEq, Nat.reduceBEq, Nat.reduceEqDiff, Nat.reduceAdd, Nat.reduceMul, Nat.reduceLeDiff, Nat.reduceLT, Nat.reduceSub]
          refine keyK8 _ _ ?_ ?_
          · simp only [amset, amlib, zset, eq_self, ↓reduceIte, reduceCtorEq, Nat.reduceBEq, Nat.reduceEqDiff, Nat.reduceAdd, Nat.reduceMul, Nat.reduceLeDiff, Nat.reduceLT, Nat.reduceSub] <;> simp only [nuA, k0, k1, b0, Bool.true_or, Bool.or_true, Bool.false_or, Bool.or_false, Bool.true_and, Bool.and_true, Bool.false_and, Bool.and_false, Bool.not_true, Bool.not_false, if_true, if_false, ↓reduceIte, Bool.false_eq_true]
          · simp only [amset, amlib, zset, eq_self, ↓reduceIte, reduceCtorEq, Nat.reduceBEq, Nat.reduceEqDiff, Nat.reduceAdd, Nat.reduceMul, Nat.reduceLeDiff, Nat.reduceLT, Nat.reduceSub] <;> simp only [k0, k1, b0]
      cases a0 : sN x.kind with
      | true =>
        cases a1 : ident x.name with
        | true =>
          simp only [amset, amlib, zset, k0, k1, a0, a1, eq_self, ↓reduceIte, reduceCtorEq, Nat.reduceBEq, Nat.reduceEqDiff, Nat.reduceAdd, Nat.reduceMul, Nat.reduceLeDiff, Nat.reduceLT, Nat.reduceSub]
          refine ⟨_, holds96 x.name, ?_⟩
          simp only [later]
          simp only [amset, amlib, zset, k0, k1, a0, a1, eq_self, ↓reduceIte, reduceCtorEq, Nat.reduceBEq, Nat.reduceEqDiff, Nat.reduceAdd, Nat.reduceMul, Nat.reduceLeDiff, Nat.reduceLT, Nat.reduceSub]
          refine keyK7 _ _ ?_ ?_
          · simp only [amset, amlib, zset, eq_self, ↓reduceIte, reduceCtorEq, Nat.reduceBEq, Nat.reduceEqDiff, Nat.reduceAdd, Nat.reduceMul, Nat.reduceLeDiff, Nat.reduceLT, Nat.reduceSub] <;> simp only [nmA, k0, k1, a0, a1, Bool.true_or, Bool.or_true, Bool.false_or, Bool.or_false, Bool.true_and, Bool.and_true, Bool.false_and, Bool.and_false, Bool.not_true, Bool.not_false, if_true, if_false, ↓reduceIte, Bool.false_eq_true]
          · simp only [amset, amlib, zset, eq_self, ↓reduceIte, reduceCtorEq, Nat.reduceBEq, Nat.reduceEqDiff, Nat.reduceAdd, Nat.reduceMul, Nat.reduceLeDiff, Nat.reduceLT, Nat.reduceSub] <;> simp only [k0, k1, a0, a1]
        | false =>
          simp only [amset, amlib, zset, k0, k1, a0, a1, eq_self, ↓reduceIte, reduceCtorEq, Nat.reduceBEq, Nat.reduceEqDiff, Nat.reduceAdd, Nat.reduceMul, Nat.reduceLeDiff, Nat.reduceLT, Nat.reduceSub]
          refine ⟨_, holds96 x.name, ?_⟩
          simp only [later]
          simp only [amset, amlib, zset, k0, k1, a0, a1, eq_self, ↓reduceIte, reduceCtorEq, Nat.reduceBEq, Nat.reduceEqDiff, Nat.reduceAdd, Nat.reduceMul, Nat.reduceLeDiff, Nat.reduceLT, Nat.reduceSub]
          refine keyK7 _ _ ?_ ?_
          · simp only [amset, amlib, zset, eq_self, ↓reduceIte, reduceCtorEq, Nat.reduceBEq, Nat.reduceEqDiff, Nat.reduceAdd, Nat.reduceMul, Nat.reduceLeDiff, Nat.reduceLT, Nat.reduceSub] <;> simp only [nmA, k0, k1, a0, a1, Bool.true_or, Bool.or_true, Bool.false_or, Bool.or_false, Bool.true_and, Bool.and_true, Bool.false_and, Bool.and_false, Bool.not_true, Bool.not_false, if_true, if_false, ↓reduceIte, Bool.false_eq_true]
          · simp only [amset, amlib, zset, eq_self, ↓reduceIte, reduceCtorEq, Nat.reduceBEq, Nat.reduceEqDiff, Nat.reduceAdd, Nat.reduceMul, Nat.reduceLeDiff, Nat.reduceLT, Nat.reduceSub] <;> simp only [k0, k1, a0, a1]
      | false =>
        simp only [amset, amlib, zset, k0, k1, a0, eq_self, ↓reduceIte, reduceCtorEq, Nat.reduceBEq, Nat.reduceEqDiff, Nat.reduceAdd, Nat.reduceMul, Nat.reduceLeDiff, Nat.reduceLT, Nat.reduceSub]
        refine keyK7 _ _ ?_ ?_
        · simp only [amset, amlib, zset, eq_self, ↓reduceIte, reduceCtorEq, Nat.reduceBEq, Nat.reduceEqDiff, Nat.reduceAdd, Nat.reduceMul, Nat.reduceLeDiff, Nat.reduceLT, Nat.reduceSub] <;> simp only [nmA, k0, k1, a0, Bool.true_or, Bool.or_true, Bool.false_or, Bool.or_false, Bool.true_and, Bool.and_true, Bool.false_and, Bool.and_false, Bool.not_true, Bool.not_false, if_true, if_false, ↓reduceIte, Bool.false_eq_true]
        · simp only [amset, amlib, zset, eq_self, ↓reduceIte, reduceCtorEq, Nat.reduceBEq, Nat.reduceEqDiff, Nat.reduceAdd, Nat.reduceMul, Nat.reduceLeDiff, Nat.reduceLT, Nat.reduceSub] <;> simp only [k0, k1, a0]
theorem prog174 : Tryz.prog.funcs[174]? = some Tryz.f174 := by kernel_rfl
theorem step174 (l : List St) (ih : ∀ y ∈ l, Holds Tryz.prog zG 208 [.agg [.int .i64 y.kind, .str y.name, .int .i64 y.n, .sl 6 (encEs y.args), .sl 7 (encSs y.body), .sl 7 (encSs y.els), .int .i64 y.pos]] [.c (.bool (!wfS y))]) : Holds Tryz.prog zG 174 [.c (.sl 7 (encSs l))] [.c (.bool (wfSs l))] := by
  refine holds_of_body zT prog174 rfl rfl rfl (by simp [Tryz.f174]) ?_
  refine aw_ops zT fun K1 hK1 => ?_
  simp only [amset, amlib, zset, eq_self, ↓reduceIte, reduceCtorEq, Nat.reduceBEq, Nat.reduceEqDiff, Nat.reduceAdd, Nat.reduceMul, Nat.reduceLeDiff, Nat.reduceLT, Nat.reduceSub]
  refine hK1 _ ?_
  clear hK1
  refine aw_ops zT fun K2 hK2 => ?_
  simp only [amset, amlib, zset, eq_self, ↓reduceIte, reduceCtorEq, Nat.reduceBEq, Nat.reduceEqDiff, Nat.reduceAdd, Nat.reduceMul, Nat.reduceLeDiff, Nat.reduceLT, Nat.reduceSub]
  refine ⟨_, holds207 208 (fun y => !wfS y) l ih, ?_⟩
  simp only [later]
  simp only [amset, amlib, zset, eq_self, ↓reduceIte, reduceCtorEq, Nat.reduceBEq, Nat.reduceEqDiff, Nat.reduceAdd, Nat.reduceMul, Nat.reduceLeDiff, Nat.reduceLT, Nat.reduceSub]
  refine hK2 _ ?_
  clear hK2
  refine aw_ret ?_
  show resOf zG _ [.tmp 2] = some _
  simp only [amset, amlib, zset, eq_self, ↓reduceIte, reduceCtorEq, Nat.reduceBEq, Nat.reduceEqDiff, Nat.reduceAdd, Nat.reduceMul, Nat.reduceLeDiff, Nat.reduceLT, Nat.reduceSub]
  rw [wfSs_any]
theorem holds174 (l : List St) : Holds Tryz.prog zG 174 [.c (.sl 7 (encSs l))] [.c (.bool (wfSs l))] := step174 l fun y hy => step208 y (holds174 y.body) (holds174 y.els)
  termination_by SizeOf.sizeOf l
  decreasing_by
  · exact sizeOf_body hy
  · exact sizeOf_els hy
end Go.Proofs.Am
set_option maxRecDepth 100000
set_option maxHeartbeats 4000000
namespace Go.Proofs.Am
def isElif (l : List St) : Bool := match l with
  | [y] => y.kind == 4
  | _ => false
mutual
def lnA : St → List UInt8 → List UInt8
  | .mk k n v a b e p, i => if sB k then hdA (.mk k n v a b e p) ++ [10] ++ lnsA b (i ++ [32, 32, 32, 32]) ++ (if isElif e then i ++ [125, 32, 101, 108, 115, 101, 32] ++ ln1 e i else if decide ((e.length : Int) > 0) then i ++ [125, 32, 101, 108, 115, 101, 32, 123, 10] ++ lnsA e (i ++ [32, 32, 32, 32]) ++ (i ++ [125, 10]) else i ++ [125, 10])
    else smA (.mk k n v a b e p) ++ [10]
def lnsA : List St → List UInt8 → List UInt8
  | [], _ => []
  | x :: r, i => i ++ lnA x i ++ lnsA r i
def ln1 : List St → List UInt8 → List UInt8
  | [], _ => []
  | x :: _, i => lnA x i
end
theorem lnA_eq (x : St) (i : List UInt8) : lnA x i = if sB x.kind then hdA x ++ [10] ++ lnsA x.body (i ++ [32, 32, 32, 32]) ++ (if isElif x.els then i ++ [125, 32, 101, 108, 115, 101, 32] ++ ln1 x.els i else if decide ((x.els.length : Int) > 0) then i ++ [125, 32, 101, 108, 115, 101, 32, 123, 10] ++ lnsA x.els (i ++ [32, 32, 32, 32]) ++ (i ++ [125, 10]) else i ++ [125, 10]) else smA x ++ [10] := by cases x; rw [lnA]; rfl
theorem lnsA_append (a b : List St) (i : List UInt8) : lnsA (a ++ b) i = lnsA a i ++ lnsA b i := by
  induction a with
  | nil => simp [lnsA]
  | cons x r ih => simp [lnsA, ih]
/-- What is asked of one statement. -/
def okSt (z : St) : Prop := (1 ≤ z.kind ∧ z.kind ≤ 13) ∧ agOK z ∧ (∀ y ∈ z.args, wfA y = true) ∧ wdL z.args ∧ (subL z.args).length ≤ 1000000000000 ∧ (0 ≤ z.n ∧ z.n ≤ 32767)
theorem stm_self {x : St} : x ∈ stmS x := by rw [stmS_eq]; simp
theorem stm_body {x z : St} (h : z ∈ stmL x.body) : z ∈ stmS x := by rw [stmS_eq]; simp [h]
theorem stm_els {x z : St} (h : z ∈ stmL x.els) : z ∈ stmS x := by rw [stmS_eq]; simp [h]
theorem stm_mem {l : List St} {x z : St} (hx : x ∈ l) (h : z ∈ stmS x) : z ∈ stmL l := by
  induction l with
  | nil => cases hx
  | cons y r ih =>
    rw [stmL]
    rcases List.mem_cons.1 hx with rfl | hx
    · simp [h]
    · simp [ih hx]
theorem st_at2 (k : Int) (h : 1 ≤ k ∧ k ≤ 13) : List.drop 2 (List.drop (k.toNat * 5) gStatements) = .bool (sB k) :: .bool (sA k) :: .int .i64 (sC k) :: gStatements.drop (k.toNat * 5 + 5) := by
  rw [st_at k h]; rfl
def hd1 : List St → St
  | [] => .mk 0 [] 0 [] [] [] 0
  | y :: _ => y
theorem elif_if (l : List St) : isElif l = (((l.length : Int) == 1) && ((hd1 l).kind == 4)) := by
  match l with
  | [] => rfl
  | [y] => simp [isElif, hd1]
  | a :: b :: r => simp [isElif]; omega
theorem getD_hd1 {l : List St} (h : ((l.length : Int) == 1) = true) : (encSs l).getD (Int.toNat 0) [] = encS (hd1 l) := by
  match l, h with
  | [y], _ => rfl
theorem ln1_hd1 {l : List St} (h : ((l.length : Int) == 1) = true) (i : List UInt8) : ln1 l i = lnA (hd1 l) i := by
  match l, h with
  | [y], _ => rfl
theorem hd1_mem {l : List St} (h : ((l.length : Int) == 1) = true) : hd1 l ∈ l := by
  match l, h with
  | [y], _ => simp [hd1]
theorem szb (x : St) : SizeOf.sizeOf x.body < SizeOf.sizeOf x := by cases x; simp [St.body]; omega
theorem sze (x : St) : SizeOf.sizeOf x.els < SizeOf.sizeOf x := by cases x; simp [St.els]; omega
theorem prog160 : Tryz.prog.funcs[160]? = some Tryz.f160 := by kernel_rfl
theorem step160 (b : Nat) (l0 : List UInt8) (x : St) (i : List UInt8) (hok : ∀ z ∈ stmS x, okSt z) (hd : i.length + 4 * depS x ≤ 1000000000000) (hi : i ≠ []) (hl : l0.length + (lnA x i).length ≤ 1000000000000) (ih : ∀ (m : List St), SizeOf.sizeOf m < SizeOf.sizeOf x → ∀ l0 i, (∀ z ∈ stmL m, okSt z) → i.length + 4 * depM m ≤ 1000000000000 → i ≠ [] → l0.length + (lnsA m i).length ≤ 1000000000000 → HoldsO Tryz.prog zG 89 [.c (.val (.pointer (some ⟨b, 0, none⟩))), .c (.sl 7 (encSs m)), .c (.str i)] (bldP b l0) (some []) (bldP b (l0 ++ lnsA m i))) (ihs : ∀ y, SizeOf.sizeOf y < SizeOf.sizeOf x → ∀ l0 i, (∀ z ∈ stmS y, okSt z) → i.length + 4 * depS y ≤ 1000000000000 → i ≠ [] → l0.length + (lnA y i).length ≤ 1000000000000 → HoldsO Tryz.prog zG 160 [.c (.val (.pointer (some ⟨b, 0, none⟩))), .agg [.int .i64 y.kind, .str y.name, .int .i64 y.n, .sl 6 (encEs y.args), .sl 7 (encSs y.body), .sl 7 (encSs y.els), .int .i64 y.pos], .c (.str i)] (bldP b l0) (some []) (bldP b (l0 ++ lnA y i))) : HoldsO Tryz.prog zG 160 [.c (.val (.pointer (some ⟨b, 0, none⟩))), .agg [.int .i64 x.kind, .str x.name, .int .i64 x.n, .sl 6 (encEs x.args), .sl 7 (encSs x.body), .sl 7 (encSs x.els), .int .i64 x.pos], .c (.str i)] (bldP b l0) (some []) (bldP b (l0 ++ lnA x i)) := by
  refine holdsO_of_body zT prog160 rfl rfl rfl (by simp [Tryz.f160]) (Stab.bld) (Stab.bld) ?_
  have hx := hok x stm_self
  obtain ⟨hk, hg, ha, hw, hsz, hn⟩ := hx
  have hst := st_at2 x.kind hk
  have hdx := depS_eq x
  rw [hdx] at hd
  rw [lnA_eq] at hl
  refine aw_ops zT fun K1 hK1 => ?_
  simp only [amset, amlib, zset, eq_self, ↓reduceIte, reduceCtorEq, Nat.reduceBEq, Nat.reduceEqDiff, Nat.reduceAdd, Nat.reduceMul, Nat.reduceLeDiff, Nat.reduceLT, Nat.reduceSub]
  refine hK1 _ ?_
  clear hK1
  refine aw_seq fun K2 hK2 => ?_
  refine aw_ops zT fun K3 hK3 => ?_
  simp only [amset, amlib, zset, hst, eq_self, ↓reduceIte, reduceCtorEq, Nat.reduceBEq, Nat.reduceEqDiff, Nat.reduceAdd, Nat.reduceMul, Nat.reduceLeDiff, Nat.reduceLT, Nat.reduceSub]
  refine ⟨⟨by omega, by omega⟩, ?_⟩
  refine hK3 _ ?_
  clear hK3
  refine aw_cond rfl (fun h0 => ?_) (fun h0 => ?_)
  · skip
    have hB : sB x.kind = false := by simpa using h0
    simp only [hB, Bool.false_eq_true, ↓reduceIte, List.length_append, List.length_cons, List.length_nil] at hl
    refine aw_ops zT fun K4 hK4 => ?_
    simp only [amset, amlib, zset, eq_self, ↓reduceIte, reduceCtorEq, Nat.reduceBEq, Nat.reduceEqDiff, Nat.reduceAdd, Nat.reduceMul, Nat.reduceLeDiff, Nat.reduceLT, Nat.reduceSub]
    refine ⟨_, holds200 x hg ha hw hsz (by omega), ?_⟩
    simp only [later]
    simp only [amset, amlib, zset, eq_self, ↓reduceIte, reduceCtorEq, Nat.reduceBEq, Nat.reduceEqDiff, Nat.reduceAdd, Nat.reduceMul, Nat.reduceLeDiff, Nat.reduceLT, Nat.reduceSub]
    refine ⟨by omega, ?_⟩
    refine ⟨_, _, holds85 _ _ _ (by simp only [List.length_append, List.length_cons, List.length_nil]; omega) (by simp), ?_⟩
    simp only [later]
    simp only [amset, amlib, zset, eq_self, ↓reduceIte, reduceCtorEq, Nat.reduceBEq, Nat.reduceEqDiff, Nat.reduceAdd, Nat.reduceMul, Nat.reduceLeDiff, Nat.reduceLT, Nat.reduceSub]
    refine hK4 _ ?_
    clear hK4
    refine aw_ret ?_
    try show resOf zG _ [] = some _ ∧ _ ∧ _
    try simp only [amset, amlib, zset, eq_self, ↓reduceIte, reduceCtorEq, Nat.reduceBEq, Nat.reduceEqDiff, Nat.reduceAdd, Nat.reduceMul, Nat.reduceLeDiff, Nat.reduceLT, Nat.reduceSub]
    rw [lnA_eq x i]
    simp only [hB, elif_if, h0, Bool.true_or, Bool.or_true, Bool.false_or, Bool.or_false, Bool.true_and, Bool.and_true, Bool.false_and, Bool.and_false, Bool.not_true, Bool.not_false, if_true, if_false, ↓reduceIte, Bool.false_eq_true, List.append_assoc, List.cons_append, List.nil_append]
    try exact ⟨rfl, trivial⟩
  · skip
    refine aw_skip ?_
    simp only [thenQ, blkQ, if_true, reduceIte, Nat.reduceEqDiff, eq_self]
    refine hK2 _ ?_
    clear hK2
    have hB : sB x.kind = true := by simpa using h0
    simp only [hB, ↓reduceIte, List.length_append, List.length_cons, List.length_nil] at hl
    refine aw_ops zT fun K5 hK5 => ?_
    simp only [amset, amlib, zset, eq_self, ↓reduceIte, reduceCtorEq, Nat.reduceBEq, Nat.reduceEqDiff, Nat.reduceAdd, Nat.reduceMul, Nat.reduceLeDiff, Nat.reduceLT, Nat.reduceSub]
    refine ⟨_, holds201 x hg ha hw hsz hn (by omega), ?_⟩
    simp only [later]
    simp only [amset, amlib, zset, eq_self, ↓reduceIte, reduceCtorEq, Nat.reduceBEq, Nat.reduceEqDiff, Nat.reduceAdd, Nat.reduceMul, Nat.reduceLeDiff, Nat.reduceLT, Nat.reduceSub]
    refine ⟨by omega, ?_⟩
    refine ⟨_, _, holds85 _ _ _ (by simp only [List.length_append, List.length_cons, List.length_nil]; omega) (by simp), ?_⟩
    simp only [later]
    simp only [amset, amlib, zset, eq_self, ↓reduceIte, reduceCtorEq, Nat.reduceBEq, Nat.reduceEqDiff, Nat.reduceAdd, Nat.reduceMul, Nat.reduceLeDiff, Nat.reduceLT, Nat.reduceSub]
    refine hK5 _ ?_
    clear hK5
    refine aw_ops zT fun K6 hK6 => ?_
    simp only [amset, amlib, zset, eq_self, ↓reduceIte, reduceCtorEq, Nat.reduceBEq, Nat.reduceEqDiff, Nat.reduceAdd, Nat.reduceMul, Nat.reduceLeDiff, Nat.reduceLT, Nat.reduceSub]
    refine ⟨by omega, ?_⟩
    refine ⟨_, _, ih x.body (szb x) _ _ (fun z hz => hok z (stm_body hz)) (by simp only [List.length_append, List.length_cons, List.length_nil]; omega) (by simp) (by simp only [List.length_append, List.length_cons, List.length_nil]; omega), ?_⟩
    simp only [later]
    simp only [amset, amlib, zset, eq_self, ↓reduceIte, reduceCtorEq, Nat.reduceBEq, Nat.reduceEqDiff, Nat.reduceAdd, Nat.reduceMul, Nat.reduceLeDiff, Nat.reduceLT, Nat.reduceSub]
    refine hK6 _ ?_
    clear hK6
    refine aw_seq fun K7 hK7 => ?_
    refine aw_block ?_
    refine aw_ops zT fun K8 hK8 => ?_
    cases e0 : ((x.els.length : Int) == 1) with
    | true =>
      cases e1 : ((hd1 x.els).kind == 4) with
      | true =>
        simp only [amset, amlib, zset, e0, e1, h0, getD_hd1, eq_self, ↓reduceIte, reduceCtorEq, Nat.reduceBEq, Nat.reduceEqDiff, Nat.reduceAdd, Nat.reduceMul, Nat.reduceLeDiff, Nat.reduceLT, Nat.reduceSub]
        intros
        refine ⟨⟨by omega, by simp at e0; omega⟩, ?_⟩
        refine hK8 _ ?_
        clear hK8
        refine aw_cond (t := true) rfl (fun _ => ?_) (fun h => nomatch h)
        simp only [elif_if, e0, e1, h0, Bool.true_or, Bool.or_true, Bool.false_or, Bool.or_false, Bool.true_and, Bool.and_true, Bool.false_and, Bool.and_false, Bool.not_true, Bool.not_false, if_true, if_false, ↓reduceIte, Bool.false_eq_true, List.length_append, List.length_cons, List.length_nil] at hl
        rw [ln1_hd1 e0] at hl
        refine aw_ops zT fun K9 hK9 => ?_
        simp only [amset, amlib, zset, eq_self, ↓reduceIte, reduceCtorEq, Nat.reduceBEq, Nat.reduceEqDiff, Nat.reduceAdd, Nat.reduceMul, Nat.reduceLeDiff, Nat.reduceLT, Nat.reduceSub]
        refine ⟨by omega, ?_⟩
        refine ⟨_, _, holds85 _ _ _ (by simp only [List.length_append, List.length_cons, List.length_nil]; omega) (by simp), ?_⟩
        simp only [later]
        simp only [amset, amlib, zset, eq_self, ↓reduceIte, reduceCtorEq, Nat.reduceBEq, Nat.reduceEqDiff, Nat.reduceAdd, Nat.reduceMul, Nat.reduceLeDiff, Nat.reduceLT, Nat.reduceSub]
        refine hK9 _ ?_
        clear hK9
        refine aw_ops zT fun K10 hK10 => ?_
        simp only [amset, amlib, zset, e0, e1, h0, getD_hd1, eq_self, ↓reduceIte, reduceCtorEq, Nat.reduceBEq, Nat.reduceEqDiff, Nat.reduceAdd, Nat.reduceMul, Nat.reduceLeDiff, Nat.reduceLT, Nat.reduceSub]
        refine ⟨⟨by omega, by simp at e0; omega⟩, ?_⟩
        refine ⟨_, _, ihs (hd1 x.els) (Nat.lt_trans (List.sizeOf_lt_of_mem (hd1_mem e0)) (sze x)) _ _ (fun z hz => hok z (stm_els (stm_mem (hd1_mem e0) hz))) (by have := depM_mem (hd1_mem e0); omega) hi (by simp only [List.length_append, List.length_cons, List.length_nil]; omega), ?_⟩
        simp only [later]
        simp only [amset, amlib, zset, e0, e1, h0, getD_hd1, eq_self, ↓reduceIte, reduceCtorEq, Nat.reduceBEq, Nat.reduceEqDiff, Nat.reduceAdd, Nat.reduceMul, Nat.reduceLeDiff, Nat.reduceLT, Nat.reduceSub]
        refine hK10 _ ?_
        clear hK10
        refine aw_ret ?_
        try show resOf zG _ [] = some _ ∧ _ ∧ _
        try simp only [amset, amlib, zset, eq_self, ↓reduceIte, reduceCtorEq, Nat.reduceBEq, Nat.reduceEqDiff, Nat.reduceAdd, Nat.reduceMul, Nat.reduceLeDiff, Nat.reduceLT, Nat.reduceSub]
        rw [lnA_eq x i]
        simp only [hB, elif_if, e0, e1, h0, Bool.true_or, Bool.or_true, Bool.false_or, Bool.or_false, Bool.true_and, Bool.and_true, Bool.false_and, Bool.and_false, Bool.not_true, Bool.not_false, if_true, if_false, ↓reduceIte, Bool.false_eq_true, ln1_hd1 e0, List.append_assoc, List.cons_append, List.nil_append]
        try exact ⟨rfl, trivial⟩
      | false =>
        simp only [amset, amlib, zset, e0, e1, h0, getD_hd1, eq_self, ↓reduceIte, reduceCtorEq, Nat.reduceBEq, Nat.reduceEqDiff, Nat.reduceAdd, Nat.reduceMul, Nat.reduceLeDiff, Nat.reduceLT, Nat.reduceSub]
        intros
        refine ⟨⟨by omega, by simp at e0; omega⟩, ?_⟩
        refine hK8 _ ?_
        clear hK8
        refine aw_cond (t := false) rfl (fun h => nomatch h) (fun _ => ?_)
        refine aw_ops zT fun K11 hK11 => ?_
        simp only [amset, amlib, zset, eq_self, ↓reduceIte, reduceCtorEq, Nat.reduceBEq, Nat.reduceEqDiff, Nat.reduceAdd, Nat.reduceMul, Nat.reduceLeDiff, Nat.reduceLT, Nat.reduceSub]
        intros
        refine hK11 _ ?_
        clear hK11
        refine aw_cond rfl (fun h1 => ?_) (fun h1 => ?_)
        · skip
          have hcl : isElif x.els = false := by rw [elif_if]; simp only [e0, e1, h0, h1, Bool.true_or, Bool.or_true, Bool.false_or, Bool.or_false, Bool.true_and, Bool.and_true, Bool.false_and, Bool.and_false, Bool.not_true, Bool.not_false, if_true, if_false, ↓reduceIte, Bool.false_eq_true]
          simp only [hcl, h1, ↓reduceIte, Bool.false_eq_true, List.length_append, List.length_cons, List.length_nil] at hl
          refine aw_ops zT fun K12 hK12 => ?_
          simp only [amset, amlib, zset, eq_self, ↓reduceIte, reduceCtorEq, Nat.reduceBEq, Nat.reduceEqDiff, Nat.reduceAdd, Nat.reduceMul, Nat.reduceLeDiff, Nat.reduceLT, Nat.reduceSub]
          refine ⟨by omega, ?_⟩
          refine ⟨_, _, holds85 _ _ _ (by simp only [List.length_append, List.length_cons, List.length_nil]; omega) (by simp), ?_⟩
          simp only [later]
          simp only [amset, amlib, zset, eq_self, ↓reduceIte, reduceCtorEq, Nat.reduceBEq, Nat.reduceEqDiff, Nat.reduceAdd, Nat.reduceMul, Nat.reduceLeDiff, Nat.reduceLT, Nat.reduceSub]
          refine hK12 _ ?_
          clear hK12
          refine aw_region zT ?_
          simp only [amset, amlib, zset, eq_self, ↓reduceIte, reduceCtorEq, Nat.reduceBEq, Nat.reduceEqDiff, Nat.reduceAdd, Nat.reduceMul, Nat.reduceLeDiff, Nat.reduceLT, Nat.reduceSub]
          refine ⟨by omega, ?_⟩
          refine ⟨_, _, ih x.els (sze x) _ _ (fun z hz => hok z (stm_els hz)) (by simp only [List.length_append, List.length_cons, List.length_nil]; omega) (by simp) (by simp only [List.length_append, List.length_cons, List.length_nil]; omega), ?_⟩
          simp only [later]
          simp only [amset, amlib, zset, eq_self, ↓reduceIte, reduceCtorEq, Nat.reduceBEq, Nat.reduceEqDiff, Nat.reduceAdd, Nat.reduceMul, Nat.reduceLeDiff, Nat.reduceLT, Nat.reduceSub]
          refine hK7 _ ?_
          clear hK7
          have hcl : isElif x.els = false := by rw [elif_if]; simp only [e0, e1, h0, h1, Bool.true_or, Bool.or_true, Bool.false_or, Bool.or_false, Bool.true_and, Bool.and_true, Bool.false_and, Bool.and_false, Bool.not_true, Bool.not_false, if_true, if_false, ↓reduceIte, Bool.false_eq_true]
          try simp only [hcl, h1, ↓reduceIte, Bool.false_eq_true, List.length_append, List.length_cons, List.length_nil] at hl
          refine aw_region zT ?_
          simp only [amset, amlib, zset, eq_self, ↓reduceIte, reduceCtorEq, Nat.reduceBEq, Nat.reduceEqDiff, Nat.reduceAdd, Nat.reduceMul, Nat.reduceLeDiff, Nat.reduceLT, Nat.reduceSub]
          refine ⟨by omega, ?_⟩
          refine ⟨_, _, holds85 _ _ _ (by simp only [List.length_append, List.length_cons, List.length_nil]; omega) (by simp), ?_⟩
          simp only [later]
          simp only [amset, amlib, zset, eq_self, ↓reduceIte, reduceCtorEq, Nat.reduceBEq, Nat.reduceEqDiff, Nat.reduceAdd, Nat.reduceMul, Nat.reduceLeDiff, Nat.reduceLT, Nat.reduceSub]
          try show resOf zG _ [] = some _ ∧ _ ∧ _
          try simp only [amset, amlib, zset, eq_self, ↓reduceIte, reduceCtorEq, Nat.reduceBEq, Nat.reduceEqDiff, Nat.reduceAdd, Nat.reduceMul, Nat.reduceLeDiff, Nat.reduceLT, Nat.reduceSub]
          rw [lnA_eq x i]
          simp only [hB, elif_if, e0, e1, h0, h1, Bool.true_or, Bool.or_true, Bool.false_or, Bool.or_false, Bool.true_and, Bool.and_true, Bool.false_and, Bool.and_false, Bool.not_true, Bool.not_false, if_true, if_false, ↓reduceIte, Bool.false_eq_true, List.append_assoc, List.cons_append, List.nil_append]
          try exact ⟨rfl, trivial⟩
        · skip
          refine aw_skip ?_
          simp only [thenQ, blkQ, if_true, reduceIte, Nat.reduceEqDiff, eq_self]
          refine hK7 _ ?_
          clear hK7
          have hcl : isElif x.els = false := by rw [elif_if]; simp only [e0, e1, h0, h1, Bool.true_or, Bool.or_true, Bool.false_or, Bool.or_false, Bool.true_and, Bool.and_true, Bool.false_and, Bool.and_false, Bool.not_true, Bool.not_false, if_true, if_false, ↓reduceIte, Bool.false_eq_true]
          try simp only [hcl, h1, ↓reduceIte, Bool.false_eq_true, List.length_append, List.length_cons, List.length_nil] at hl
          refine aw_region zT ?_
          simp only [amset, amlib, zset, eq_self, ↓reduceIte, reduceCtorEq, Nat.reduceBEq, Nat.reduceEqDiff, Nat.reduceAdd, Nat.reduceMul, Nat.reduceLeDiff, Nat.reduceLT, Nat.reduceSub]
          refine ⟨by omega, ?_⟩
          refine ⟨_, _, holds85 _ _ _ (by simp only [List.length_append, List.length_cons, List.length_nil]; omega) (by simp), ?_⟩
          simp only [later]
          simp only [amset, amlib, zset, eq_self, ↓reduceIte, reduceCtorEq, Nat.reduceBEq, Nat.reduceEqDiff, Nat.reduceAdd, Nat.reduceMul, Nat.reduceLeDiff, Nat.reduceLT, Nat.reduceSub]
          try show resOf zG _ [] = some _ ∧ _ ∧ _
          try simp only [amset, amlib, zset, eq_self, ↓reduceIte, reduceCtorEq, Nat.reduceBEq, Nat.reduceEqDiff, Nat.reduceAdd, Nat.reduceMul, Nat.reduceLeDiff, Nat.reduceLT, Nat.reduceSub]
          rw [lnA_eq x i]
          simp only [hB, elif_if, e0, e1, h0, h1, Bool.true_or, Bool.or_true, Bool.false_or, Bool.or_false, Bool.true_and, Bool.and_true, Bool.false_and, Bool.and_false, Bool.not_true, Bool.not_false, if_true, if_false, ↓reduceIte, Bool.false_eq_true, List.append_assoc, List.cons_append, List.nil_append]
          try exact ⟨rfl, trivial⟩
    | false =>
      simp only [amset, amlib, zset, e0, h0, getD_hd1, eq_self, ↓reduceIte, reduceCtorEq, Nat.reduceBEq, Nat.reduceEqDiff, Nat.reduceAdd, Nat.reduceMul, Nat.reduceLeDiff, Nat.reduceLT, Nat.reduceSub]
      intros
      refine hK8 _ ?_
      clear hK8
      refine aw_cond (t := false) rfl (fun h => nomatch h) (fun _ => ?_)
      refine aw_ops zT fun K13 hK13 => ?_
      simp only [amset, amlib, zset, eq_self, ↓reduceIte, reduceCtorEq, Nat.reduceBEq, Nat.reduceEqDiff, Nat.reduceAdd, Nat.reduceMul, Nat.reduceLeDiff, Nat.reduceLT, Nat.reduceSub]
      intros
      refine hK13 _ ?_
      clear hK13
      refine aw_cond rfl (fun h1 => ?_) (fun h1 => ?_)
      · skip
        have hcl : isElif x.els = false := by rw [elif_if]; simp only [e0, h0, h1, Bool.true_or, Bool.or_true, Bool.false_or, Bool.or_false, Bool.true_and, Bool.and_true, Bool.false_and, Bool.and_false, Bool.not_true, Bool.not_false, if_true, if_false, ↓reduceIte, Bool.false_eq_true]
        simp only [hcl, h1, ↓reduceIte, Bool.false_eq_true, List.length_append, List.length_cons, List.length_nil] at hl
        refine aw_ops zT fun K14 hK14 => ?_
        simp only [amset, amlib, zset, eq_self, ↓reduceIte, reduceCtorEq, Nat.reduceBEq, Nat.reduceEqDiff, Nat.reduceAdd, Nat.reduceMul, Nat.reduceLeDiff, Nat.reduceLT, Nat.reduceSub]
        refine ⟨by omega, ?_⟩
        refine ⟨_, _, holds85 _ _ _ (by simp only [List.length_append, List.length_cons, List.length_nil]; omega) (by simp), ?_⟩
        simp only [later]
        simp only [amset, amlib, zset, eq_self, ↓reduceIte, reduceCtorEq, Nat.reduceBEq, Nat.reduceEqDiff, Nat.reduceAdd, Nat.reduceMul, Nat.reduceLeDiff, Nat.reduceLT, Nat.reduceSub]
        refine hK14 _ ?_
        clear hK14
        refine aw_region zT ?_
        simp only [amset, amlib, zset, eq_self, ↓reduceIte, reduceCtorEq, Nat.reduceBEq, Nat.reduceEqDiff, Nat.reduceAdd, Nat.reduceMul, Nat.reduceLeDiff, Nat.reduceLT, Nat.reduceSub]
        refine ⟨by omega, ?_⟩
        refine ⟨_, _, ih x.els (sze x) _ _ (fun z hz => hok z (stm_els hz)) (by simp only [List.length_append, List.length_cons, List.length_nil]; omega) (by simp) (by simp only [List.length_append, List.length_cons, List.length_nil]; omega), ?_⟩
        simp only [later]
        simp only [amset, amlib, zset, eq_self, ↓reduceIte, reduceCtorEq, Nat.reduceBEq, Nat.reduceEqDiff, Nat.reduceAdd, Nat.reduceMul, Nat.reduceLeDiff, Nat.reduceLT, Nat.reduceSub]
        refine hK7 _ ?_
        clear hK7
        have hcl : isElif x.els = false := by rw [elif_if]; simp only [e0, h0, h1, Bool.true_or, Bool.or_true, Bool.false_or, Bool.or_false, Bool.true_and, Bool.and_true, Bool.false_and, Bool.and_false, Bool.not_true, Bool.not_false, if_true, if_false, ↓reduceIte, Bool.false_eq_true]
        try simp only [hcl, h1, ↓reduceIte, Bool.false_eq_true, List.length_append, List.length_cons, List.length_nil] at hl
        refine aw_region zT ?_
        simp only [amset, amlib, zset, eq_self, ↓reduceIte, reduceCtorEq, Nat.reduceBEq, Nat.reduceEqDiff, Nat.reduceAdd, Nat.reduceMul, Nat.reduceLeDiff, Nat.reduceLT, Nat.reduceSub]
        refine ⟨by omega, ?_⟩
        refine ⟨_, _, holds85 _ _ _ (by simp only [List.length_append, List.length_cons, List.length_nil]; omega) (by simp), ?_⟩
        simp only [later]
        simp only [amset, amlib, zset, eq_self, ↓reduceIte, reduceCtorEq, Nat.reduceBEq, Nat.reduceEqDiff, Nat.reduceAdd, Nat.reduceMul, Nat.reduceLeDiff, Nat.reduceLT, Nat.reduceSub]
        try show resOf zG _ [] = some _ ∧ _ ∧ _
        try simp only [amset, amlib, zset, eq_self, ↓reduceIte, reduceCtorEq, Nat.reduceBEq, Nat.reduceEqDiff, Nat.reduceAdd, Nat.reduceMul, Nat.reduceLeDiff, Nat.reduceLT, Nat.reduceSub]
        rw [lnA_eq x i]
        simp only [hB, elif_if, e0, h0, h1, Bool.true_or, Bool.or_true, Bool.false_or, Bool.or_false, Bool.true_and, Bool.and_true, Bool.false_and, Bool.and_false, Bool.not_true, Bool.not_false, if_true, if_false, ↓reduceIte, Bool.false_eq_true, List.append_assoc, List.cons_append, List.nil_append]
        try exact ⟨rfl, trivial⟩
      · skip
        refine aw_skip ?_
        simp only [thenQ, blkQ, if_true, reduceIte, Nat.reduceEqDiff, eq_self]
        refine hK7 _ ?_
        clear hK7
        have hcl : isElif x.els = false := by rw [elif_if]; simp only [e0, h0, h1, Bool.true_or, Bool.or_true, Bool.false_or, Bool.or_false, Bool.true_and, Bool.and_true, Bool.false_and, Bool.and_false, Bool.not_true, Bool.not_false, if_true, if_false, ↓reduceIte, Bool.false_eq_true]
        try simp only [hcl, h1, ↓reduceIte, Bool.false_eq_true, List.length_append, List.length_cons, List.length_nil] at hl
        refine aw_region zT ?_
        simp only [amset, amlib, zset, eq_self, ↓reduceIte, reduceCtorEq, Nat.reduceBEq, Nat.reduceEqDiff, Nat.reduceAdd, Nat.reduceMul, Nat.reduceLeDiff, Nat.reduceLT, Nat.reduceSub]
        refine ⟨by omega, ?_⟩
        refine ⟨_, _, holds85 _ _ _ (by simp only [List.length_append, List.length_cons, List.length_nil]; omega) (by simp), ?_⟩
        simp only [later]
        simp only [amset, amlib, zset, eq_self, ↓reduceIte, reduceCtorEq, Nat.reduceBEq, Nat.reduceEqDiff, Nat.reduceAdd, Nat.reduceMul, Nat.reduceLeDiff, Nat.reduceLT, Nat.reduceSub]
        try show resOf zG _ [] = some _ ∧ _ ∧ _
        try simp only [amset, amlib, zset, eq_self, ↓reduceIte, reduceCtorEq, Nat.reduceBEq, Nat.reduceEqDiff, Nat.reduceAdd, Nat.reduceMul, Nat.reduceLeDiff, Nat.reduceLT, Nat.reduceSub]
        rw [lnA_eq x i]
        simp only [hB, elif_if, e0, h0, h1, Bool.true_or, Bool.or_true, Bool.false_or, Bool.or_false, Bool.true_and, Bool.and_true, Bool.false_and, Bool.and_false, Bool.not_true, Bool.not_false, if_true, if_false, ↓reduceIte, Bool.false_eq_true, List.append_assoc, List.cons_append, List.nil_append]
        try exact ⟨rfl, trivial⟩
theorem prog89 : Tryz.prog.funcs[89]? = some Tryz.f89 := by kernel_rfl
theorem step89 (b : Nat) (l0 : List UInt8) (l : List St) (i : List UInt8) (hok : ∀ z ∈ stmL l, okSt z) (hd : i.length + 4 * depM l ≤ 1000000000000) (hi : i ≠ []) (hl : l0.length + (lnsA l i).length ≤ 1000000000000) (ih : ∀ y ∈ l, ∀ l0 i, (∀ z ∈ stmS y, okSt z) → i.length + 4 * depS y ≤ 1000000000000 → i ≠ [] → l0.length + (lnA y i).length ≤ 1000000000000 → HoldsO Tryz.prog zG 160 [.c (.val (.pointer (some ⟨b, 0, none⟩))), .agg [.int .i64 y.kind, .str y.name, .int .i64 y.n, .sl 6 (encEs y.args), .sl 7 (encSs y.body), .sl 7 (encSs y.els), .int .i64 y.pos], .c (.str i)] (bldP b l0) (some []) (bldP b (l0 ++ lnA y i))) : HoldsO Tryz.prog zG 89 [.c (.val (.pointer (some ⟨b, 0, none⟩))), .c (.sl 7 (encSs l)), .c (.str i)] (bldP b l0) (some []) (bldP b (l0 ++ lnsA l i)) := by
  refine holdsO_of_body zT prog89 rfl rfl rfl (by simp [Tryz.f89]) (Stab.bld) (Stab.bld) ?_
  refine aw_ops zT fun K1 hK1 => ?_
  simp only [amset, amlib, zset, eq_self, ↓reduceIte, reduceCtorEq, Nat.reduceBEq, Nat.reduceEqDiff, Nat.reduceAdd, Nat.reduceMul, Nat.reduceLeDiff, Nat.reduceLT, Nat.reduceSub]
  intros
  refine hK1 _ ?_
  clear hK1
  refine aw_block ?_
  refine aw_range (α := St) (l) (fun dn => True) (fun dn => [(10, .cell (.c (.int .i64 dn.length)))]) (fun dn => [(1000000, [.objst (bldP b (l0 ++ lnsA dn i))])]) [] [7, 10, 11, 12, 13, 14, 15, 16, 17, 18, 19, 20, 21] [7, 1000000] trivial ?_ ?_ ?_ ?_
  · simp only [amset, amlib, zset, eq_self, ↓reduceIte, reduceCtorEq, Nat.reduceBEq, Nat.reduceEqDiff, Nat.reduceAdd, Nat.reduceMul, Nat.reduceLeDiff, Nat.reduceLT, Nat.reduceSub] <;> simp [lnsA, lnsA_append, List.append_assoc, List.append_nil]
  · simp only [amset, amlib, zset, eq_self, ↓reduceIte, reduceCtorEq, Nat.reduceBEq, Nat.reduceEqDiff, Nat.reduceAdd, Nat.reduceMul, Nat.reduceLeDiff, Nat.reduceLT, Nat.reduceSub] <;> simp [lnsA, lnsA_append, List.append_assoc, List.append_nil]
  · intro hI R
    refine aw_norm (by simp only [amset, amlib, zset, eq_self, ↓reduceIte, reduceCtorEq, Nat.reduceBEq, Nat.reduceEqDiff, Nat.reduceAdd, Nat.reduceMul, Nat.reduceLeDiff, Nat.reduceLT, Nat.reduceSub]; exact rfl) ?_
    refine aw_ops zT fun K2 hK2 => ?_
    simp only [amset, amlib, zset, eq_self, ↓reduceIte, reduceCtorEq, Nat.reduceBEq, Nat.reduceEqDiff, Nat.reduceAdd, Nat.reduceMul, Nat.reduceLeDiff, Nat.reduceLT, Nat.reduceSub]
    refine hK2 _ ?_
    clear hK2
    refine aw_seq fun K3 hK3 => ?_
    refine aw_cond (t := false) (by simp [evalO, S.get, amLook]) (fun h => nomatch h) (fun _ => ?_)
    refine aw_exit ?_
    try show resOf zG _ [] = some _ ∧ _ ∧ _
    try simp only [amset, amlib, zset, eq_self, ↓reduceIte, reduceCtorEq, Nat.reduceBEq, Nat.reduceEqDiff, Nat.reduceAdd, Nat.reduceMul, Nat.reduceLeDiff, Nat.reduceLT, Nat.reduceSub]
    try exact ⟨rfl, trivial, rfl⟩
  · intro dn y td harg hI R hR
    have hl : (l).length = dn.length + (td.length + 1) := by rw [harg]; simp
    have hmem : y ∈ l := by rw [harg]; simp
    refine aw_norm (by simp only [amset, amlib, zset, eq_self, ↓reduceIte, reduceCtorEq, Nat.reduceBEq, Nat.reduceEqDiff, Nat.reduceAdd, Nat.reduceMul, Nat.reduceLeDiff, Nat.reduceLT, Nat.reduceSub]; exact rfl) ?_
    have hget : (encSs (l)).getD dn.length [] = encS y := by rw [harg]; exact encSs_mid dn td y
    have hy := depM_mem hmem
    have hlen : (lnsA l i).length = (lnsA dn i).length + (i.length + (lnA y i).length + (lnsA td i).length) := by rw [harg, lnsA_append, lnsA]; simp only [List.length_append]
    refine aw_ops zT fun K4 hK4 => ?_
    simp only [amset, amlib, zset, eq_self, ↓reduceIte, reduceCtorEq, Nat.reduceBEq, Nat.reduceEqDiff, Nat.reduceAdd, Nat.reduceMul, Nat.reduceLeDiff, Nat.reduceLT, Nat.reduceSub]
    refine hK4 _ ?_
    clear hK4
    refine aw_seq fun K5 hK5 => ?_
    refine aw_cond (t := true) (by simp [evalO, S.get, amLook]; omega) (fun _ => ?_) (fun h => nomatch h)
    refine aw_skip ?_
    simp only [thenQ, blkQ, if_true, reduceIte, Nat.reduceEqDiff, eq_self]
    refine hK5 _ ?_
    clear hK5
    refine aw_seq fun K6 hK6 => ?_
    refine aw_block ?_
    refine aw_ops zT fun K7 hK7 => ?_
    simp only [amset, amlib, zset, hget, eq_self, ↓reduceIte, reduceCtorEq, Nat.reduceBEq, Nat.reduceEqDiff, Nat.reduceAdd, Nat.reduceMul, Nat.reduceLeDiff, Nat.reduceLT, Nat.reduceSub]
    refine ⟨⟨by omega, by omega⟩, ?_⟩
    refine hK7 _ ?_
    clear hK7
    refine aw_ops zT fun K8 hK8 => ?_
    simp only [amset, amlib, zset, eq_self, ↓reduceIte, reduceCtorEq, Nat.reduceBEq, Nat.reduceEqDiff, Nat.reduceAdd, Nat.reduceMul, Nat.reduceLeDiff, Nat.reduceLT, Nat.reduceSub]
    refine ⟨_, _, holds85 _ _ _ (by simp only [List.length_append, List.length_cons, List.length_nil]; omega) hi, ?_⟩
    simp only [later]
    simp only [amset, amlib, zset, eq_self, ↓reduceIte, reduceCtorEq, Nat.reduceBEq, Nat.reduceEqDiff, Nat.reduceAdd, Nat.reduceMul, Nat.reduceLeDiff, Nat.reduceLT, Nat.reduceSub]
    refine hK8 _ ?_
    clear hK8
    refine aw_region zT ?_
    simp only [amset, amlib, zset, eq_self, ↓reduceIte, reduceCtorEq, Nat.reduceBEq, Nat.reduceEqDiff, Nat.reduceAdd, Nat.reduceMul, Nat.reduceLeDiff, Nat.reduceLT, Nat.reduceSub]
    refine ⟨_, _, ih y hmem _ _ (fun z hz => hok z (stm_mem hmem hz)) (by omega) hi (by simp only [List.length_append, List.length_cons, List.length_nil]; omega), ?_⟩
    simp only [later]
    simp only [amset, amlib, zset, eq_self, ↓reduceIte, reduceCtorEq, Nat.reduceBEq, Nat.reduceEqDiff, Nat.reduceAdd, Nat.reduceMul, Nat.reduceLeDiff, Nat.reduceLT, Nat.reduceSub]
    refine hK6 _ ?_
    clear hK6
    refine aw_region zT ?_
    simp only [amset, amlib, zset, eq_self, ↓reduceIte, reduceCtorEq, Nat.reduceBEq, Nat.reduceEqDiff, Nat.reduceAdd, Nat.reduceMul, Nat.reduceLeDiff, Nat.reduceLT, Nat.reduceSub]
    refine ⟨⟨by omega, by omega⟩, ?_⟩
    refine hR _ trivial ?_
    refine Reach.to ?_ ?_
    · simp only [amset, amlib, zset, eq_self, ↓reduceIte, reduceCtorEq, Nat.reduceBEq, Nat.reduceEqDiff, Nat.reduceAdd, Nat.reduceMul, Nat.reduceLeDiff, Nat.reduceLT, Nat.reduceSub] <;> simp [lnsA, lnsA_append, List.append_assoc, List.append_nil]
    · simp only [amset, amlib, zset, eq_self, ↓reduceIte, reduceCtorEq, Nat.reduceBEq, Nat.reduceEqDiff, Nat.reduceAdd, Nat.reduceMul, Nat.reduceLeDiff, Nat.reduceLT, Nat.reduceSub] <;> simp [lnsA, lnsA_append, List.append_assoc, List.append_nil]
mutual
theorem holds160 (b : Nat) (l0 : List UInt8) (x : St) (i : List UInt8) (hok : ∀ z ∈ stmS x, okSt z) (hd : i.length + 4 * depS x ≤ 1000000000000) (hi : i ≠ []) (hl : l0.length + (lnA x i).length ≤ 1000000000000) : HoldsO Tryz.prog zG 160 [.c (.val (.pointer (some ⟨b, 0, none⟩))), .agg [.int .i64 x.kind, .str x.name, .int .i64 x.n, .sl 6 (encEs x.args), .sl 7 (encSs x.body), .sl 7 (encSs x.els), .int .i64 x.pos], .c (.str i)] (bldP b l0) (some []) (bldP b (l0 ++ lnA x i)) :=
  step160 b l0 x i hok hd hi hl (fun m hm l0 i h1 h2 h3 h4 => holds89 b l0 m i h1 h2 h3 h4) (fun y hy l0 i h1 h2 h3 h4 => holds160 b l0 y i h1 h2 h3 h4)
  termination_by SizeOf.sizeOf x
  decreasing_by
  · exact hm
  · exact hy
theorem holds89 (b : Nat) (l0 : List UInt8) (l : List St) (i : List UInt8) (hok : ∀ z ∈ stmL l, okSt z) (hd : i.length + 4 * depM l ≤ 1000000000000) (hi : i ≠ []) (hl : l0.length + (lnsA l i).length ≤ 1000000000000) : HoldsO Tryz.prog zG 89 [.c (.val (.pointer (some ⟨b, 0, none⟩))), .c (.sl 7 (encSs l)), .c (.str i)] (bldP b l0) (some []) (bldP b (l0 ++ lnsA l i)) :=
  step89 b l0 l i hok hd hi hl (fun y hy l0 i h1 h2 h3 h4 => holds160 b l0 y i h1 h2 h3 h4)
  termination_by SizeOf.sizeOf l
  decreasing_by exact List.sizeOf_lt_of_mem hy
end
end Go.Proofs.Am
set_option maxRecDepth 100000
set_option maxHeartbeats 4000000
namespace Go.Proofs.Am
def wfT (t : Tk) : Bool := ident t.name && numA t.deadline && numA t.within && numA t.period && wfSs t.body && (if decide (t.period > 0) then t.channel == [] && t.param == [] && t.within == 0 else ident t.channel && ident t.param)
def okC (c : Cn) : Bool := ident c.name && signedA c.value
def okG (g : Gl) : Bool := ident g.name && numA g.len && signedA g.init && !(decide (g.len > 0) && (g.init != 0))
def okH (c : Ch) : Bool := ident c.name && numA c.cap
def wfP (p : Pg) : Bool := p.consts.all okC && p.globals.all okG && (p.sensors ++ p.outputs).all ident && p.channels.all okH && p.tasks.all wfT
theorem tasks_any (l : List Tk) : (!(l.any fun y => !wfT y)) = l.all wfT := by
  induction l with
  | nil => rfl
  | cons y r ih => rw [List.any_cons, List.all_cons, Bool.not_or, ih, Bool.not_not]
theorem prog102 : Tryz.prog.funcs[102]? = some Tryz.f102 := by kernel_rfl
theorem holds102 (t : Tk) : Holds Tryz.prog zG 102 [.agg [.str t.name, .int .i64 t.period, .int .i64 t.deadline, .str t.channel, .str t.param, .int .i64 t.within, .sl 7 (encSs t.body), .int .i64 t.pos]] [.c (.bool (wfT t))] := by
  refine holds_of_body zT prog102 rfl rfl rfl (by simp [Tryz.f102]) ?_
  refine aw_ops zT fun K1 hK1 => ?_
  simp only [amset, amlib, zset, eq_self, ↓reduceIte, reduceCtorEq, Nat.reduceBEq, Nat.reduceEqDiff, Nat.reduceAdd, Nat.reduceMul, Nat.reduceLeDiff, Nat.reduceLT, Nat.reduceSub]
  refine hK1 _ ?_
  clear hK1
  refine aw_seq fun K2 hK2 => ?_
  refine aw_ops zT fun K3 hK3 => ?_
  cases u0 : ident t.name with
  | true =>
    cases u1 : numA t.deadline with
    | true =>
      cases u2 : numA t.within with
      | true =>
        cases u3 : numA t.period with
        | true =>
          cases u4 : wfSs t.body with
          | true =>
            simp only [amset, amlib, zset, u0, u1, u2, u3, u4, eq_self, ↓reduceIte, reduceCtorEq, Nat.reduceBEq, Nat.reduceEqDiff, Nat.reduceAdd, Nat.reduceMul, Nat.reduceLeDiff, Nat.reduceLT, Nat.reduceSub]
            refine ⟨_, holds96 _, ?_⟩
            simp only [later]
            simp only [amset, amlib, zset, u0, u1, u2, u3, u4, eq_self, ↓reduceIte, reduceCtorEq, Nat.reduceBEq, Nat.reduceEqDiff, Nat.reduceAdd, Nat.reduceMul, Nat.reduceLeDiff, Nat.reduceLT, Nat.reduceSub]
            refine ⟨_, holds98 _, ?_⟩
            simp only [later]
            simp only [amset, amlib, zset, u0, u1, u2, u3, u4, eq_self, ↓reduceIte, reduceCtorEq, Nat.reduceBEq, Nat.reduceEqDiff, Nat.reduceAdd, Nat.reduceMul, Nat.reduceLeDiff, Nat.reduceLT, Nat.reduceSub]
            refine ⟨_, holds98 _, ?_⟩
            simp only [later]
            simp only [amset, amlib, zset, u0, u1, u2, u3, u4, eq_self, ↓reduceIte, reduceCtorEq, Nat.reduceBEq, Nat.reduceEqDiff, Nat.reduceAdd, Nat.reduceMul, Nat.reduceLeDiff, Nat.reduceLT, Nat.reduceSub]
            refine ⟨_, holds98 _, ?_⟩
            simp only [later]
            simp only [amset, amlib, zset, u0, u1, u2, u3, u4, eq_self, ↓reduceIte, reduceCtorEq, Nat.reduceBEq, Nat.reduceEqDiff, Nat.reduceAdd, Nat.reduceMul, Nat.reduceLeDiff, Nat.reduceLT, Nat.reduceSub]
            refine ⟨_, holds174 t.body, ?_⟩
            simp only [later]
            simp only [amset, amlib, zset, u0, u1, u2, u3, u4, eq_self, ↓reduceIte, reduceCtorEq, Nat.reduceBEq, Nat.reduceEqDiff, Nat.reduceAdd, Nat.reduceMul, Nat.reduceLeDiff, Nat.reduceLT, Nat.reduceSub]
            refine hK3 _ ?_
            clear hK3
            refine aw_cond (t := false) rfl (fun h => nomatch h) (fun _ => ?_)
            refine aw_skip ?_
            simp only [thenQ, blkQ, if_true, reduceIte, Nat.reduceEqDiff, eq_self]
            refine hK2 _ ?_
            clear hK2
            refine aw_seq fun K4 hK4 => ?_
            refine aw_ops zT fun K5 hK5 => ?_
            simp only [amset, amlib, zset, eq_self, ↓reduceIte, reduceCtorEq, Nat.reduceBEq, Nat.reduceEqDiff, Nat.reduceAdd, Nat.reduceMul, Nat.reduceLeDiff, Nat.reduceLT, Nat.reduceSub]
            refine hK5 _ ?_
            clear hK5
            refine aw_cond rfl (fun h0 => ?_) (fun h0 => ?_)
            · skip
              refine aw_ops zT fun K6 hK6 => ?_
              cases v0 : (t.channel == []) with
              | true =>
                cases v1 : (t.param == []) with
                | true =>
                  simp only [amset, amlib, zset, u0, u1, u2, u3, u4, v0, v1, eq_self, ↓reduceIte, reduceCtorEq, Nat.reduceBEq, Nat.reduceEqDiff, Nat.reduceAdd, Nat.reduceMul, Nat.reduceLeDiff, Nat.reduceLT, Nat.reduceSub]
                  refine hK6 _ ?_
                  clear hK6
                  refine aw_ret ?_
                  show resOf zG _ [.tmp 2] = some _
                  simp only [amset, amlib, zset, eq_self, ↓reduceIte, reduceCtorEq, Nat.reduceBEq, Nat.reduceEqDiff, Nat.reduceAdd, Nat.reduceMul, Nat.reduceLeDiff, Nat.reduceLT, Nat.reduceSub]
                  simp only [wfT, u0, u1, u2, u3, u4, v0, v1, h0, Bool.true_or, Bool.or_true, Bool.false_or, Bool.or_false, Bool.true_and, Bool.and_true, Bool.false_and, Bool.and_false, Bool.not_true, Bool.not_false, if_true, if_false, ↓reduceIte, Bool.false_eq_true]
                | false =>
                  simp only [amset, amlib, zset, u0, u1, u2, u3, u4, v0, v1, eq_self, ↓reduceIte, reduceCtorEq, Nat.reduceBEq, Nat.reduceEqDiff, Nat.reduceAdd, Nat.reduceMul, Nat.reduceLeDiff, Nat.reduceLT, Nat.reduceSub]
                  refine hK6 _ ?_
                  clear hK6
                  refine aw_ret ?_
                  show resOf zG _ [.tmp 2] = some _
                  simp only [amset, amlib, zset, eq_self, ↓reduceIte, reduceCtorEq, Nat.reduceBEq, Nat.reduceEqDiff, Nat.reduceAdd, Nat.reduceMul, Nat.reduceLeDiff, Nat.reduceLT, Nat.reduceSub]
                  simp only [wfT, u0, u1, u2, u3, u4, v0, v1, h0, Bool.true_or, Bool.or_true, Bool.false_or, Bool.or_false, Bool.true_and, Bool.and_true, Bool.false_and, Bool.and_false, Bool.not_true, Bool.not_false, if_true, if_false, ↓reduceIte, Bool.false_eq_true]
              | false =>
                simp only [amset, amlib, zset, u0, u1, u2, u3, u4, v0, eq_self, ↓reduceIte, reduceCtorEq, Nat.reduceBEq, Nat.reduceEqDiff, Nat.reduceAdd, Nat.reduceMul, Nat.reduceLeDiff, Nat.reduceLT, Nat.reduceSub]
                refine hK6 _ ?_
                clear hK6
                refine aw_ret ?_
                show resOf zG _ [.tmp 2] = some _
                simp only [amset, amlib, zset, eq_self, ↓reduceIte, reduceCtorEq, Nat.reduceBEq, Nat.reduceEqDiff, Nat.reduceAdd, Nat.reduceMul, Nat.reduceLeDiff, Nat.reduceLT, Nat.reduceSub]
                simp only [wfT, u0, u1, u2, u3, u4, v0, h0, Bool.true_or, Bool.or_true, Bool.false_or, Bool.or_false, Bool.true_and, Bool.and_true, Bool.false_and, Bool.and_false, Bool.not_true, Bool.not_false, if_true, if_false, ↓reduceIte, Bool.false_eq_true]
            · skip
              refine aw_skip ?_
              simp only [thenQ, blkQ, if_true, reduceIte, Nat.reduceEqDiff, eq_self]
              refine hK4 _ ?_
              clear hK4
              refine aw_ops zT fun K7 hK7 => ?_
              cases w0 : ident t.channel with
              | true =>
                simp only [amset, amlib, zset, u0, u1, u2, u3, u4, w0, eq_self, ↓reduceIte, reduceCtorEq, Nat.reduceBEq, Nat.reduceEqDiff, Nat.reduceAdd, Nat.reduceMul, Nat.reduceLeDiff, Nat.reduceLT, Nat.reduceSub]
                refine ⟨_, holds96 _, ?_⟩
                simp only [later]
                simp only [amset, amlib, zset, u0, u1, u2, u3, u4, w0, eq_self, ↓reduceIte, reduceCtorEq, Nat.reduceBEq, Nat.reduceEqDiff, Nat.reduceAdd, Nat.reduceMul, Nat.reduceLeDiff, Nat.reduceLT, Nat.reduceSub]
                refine ⟨_, holds96 _, ?_⟩
                simp only [later]
                simp only [amset, amlib, zset, u0, u1, u2, u3, u4, w0, eq_self, ↓reduceIte, reduceCtorEq, Nat.reduceBEq, Nat.reduceEqDiff, Nat.reduceAdd, Nat.reduceMul, Nat.reduceLeDiff, Nat.reduceLT, Nat.reduceSub]
                refine hK7 _ ?_
                clear hK7
                refine aw_ret ?_
                show resOf zG _ [.tmp 2] = some _
                simp only [amset, amlib, zset, eq_self, ↓reduceIte, reduceCtorEq, Nat.reduceBEq, Nat.reduceEqDiff, Nat.reduceAdd, Nat.reduceMul, Nat.reduceLeDiff, Nat.reduceLT, Nat.reduceSub]
                simp only [wfT, u0, u1, u2, u3, u4, w0, h0, Bool.true_or, Bool.or_true, Bool.false_or, Bool.or_false, Bool.true_and, Bool.and_true, Bool.false_and, Bool.and_false, Bool.not_true, Bool.not_false, if_true, if_false, ↓reduceIte, Bool.false_eq_true]
              | false =>
                simp only [amset, amlib, zset, u0, u1, u2, u3, u4, w0, eq_self, ↓reduceIte, reduceCtorEq, Nat.reduceBEq, Nat.reduceEqDiff, Nat.reduceAdd, Nat.reduceMul, Nat.reduceLeDiff, Nat.reduceLT, Nat.reduceSub]
                refine ⟨_, holds96 _, ?_⟩
                simp only [later]
                simp only [amset, amlib, zset, u0, u1, u2, u3, u4, w0, eq_self, ↓reduceIte, reduceCtorEq, Nat.reduceBEq, Nat.reduceEqDiff, Nat.reduceAdd, Nat.reduceMul, Nat.reduceLeDiff, Nat.reduceLT, Nat.reduceSub]
                refine hK7 _ ?_
                clear hK7
                refine aw_ret ?_
                show resOf zG _ [.tmp 2] = some _
                simp only [amset, amlib, zset, eq_self, ↓reduceIte, reduceCtorEq, Nat.reduceBEq, Nat.reduceEqDiff, Nat.reduceAdd, Nat.reduceMul, Nat.reduceLeDiff, Nat.reduceLT, Nat.reduceSub]
                simp only [wfT, u0, u1, u2, u3, u4, w0, h0, Bool.true_or, Bool.or_true, Bool.false_or, Bool.or_false, Bool.true_and, Bool.and_true, Bool.false_and, Bool.and_false, Bool.not_true, Bool.not_false, if_true, if_false, ↓reduceIte, Bool.false_eq_true]
          | false =>
            simp only [amset, amlib, zset, u0, u1, u2, u3, u4, eq_self, ↓reduceIte, reduceCtorEq, Nat.reduceBEq, Nat.reduceEqDiff, Nat.reduceAdd, Nat.reduceMul, Nat.reduceLeDiff, Nat.reduceLT, Nat.reduceSub]
            refine ⟨_, holds96 _, ?_⟩
            simp only [later]
            simp only [amset, amlib, zset, u0, u1, u2, u3, u4, eq_self, ↓reduceIte, reduceCtorEq, Nat.reduceBEq, Nat.reduceEqDiff, Nat.reduceAdd, Nat.reduceMul, Nat.reduceLeDiff, Nat.reduceLT, Nat.reduceSub]
            refine ⟨_, holds98 _, ?_⟩
            simp only [later]
            simp only [amset, amlib, zset, u0, u1, u2, u3, u4, eq_self, ↓reduceIte, reduceCtorEq, Nat.reduceBEq, Nat.reduceEqDiff, Nat.reduceAdd, Nat.reduceMul, Nat.reduceLeDiff, Nat.reduceLT, Nat.reduceSub]
            refine ⟨_, holds98 _, ?_⟩
            simp only [later]
            simp only [amset, amlib, zset, u0, u1, u2, u3, u4, eq_self, ↓reduceIte, reduceCtorEq, Nat.reduceBEq, Nat.reduceEqDiff, Nat.reduceAdd, Nat.reduceMul, Nat.reduceLeDiff, Nat.reduceLT, Nat.reduceSub]
            refine ⟨_, holds98 _, ?_⟩
            simp only [later]
            simp only [amset, amlib, zset, u0, u1, u2, u3, u4, eq_self, ↓reduceIte, reduceCtorEq, Nat.reduceBEq, Nat.reduceEqDiff, Nat.reduceAdd, Nat.reduceMul, Nat.reduceLeDiff, Nat.reduceLT, Nat.reduceSub]
            refine ⟨_, holds174 t.body, ?_⟩
            simp only [later]
            simp only [amset, amlib, zset, u0, u1, u2, u3, u4, eq_self, ↓reduceIte, reduceCtorEq, Nat.reduceBEq, Nat.reduceEqDiff, Nat.reduceAdd, Nat.reduceMul, Nat.reduceLeDiff, Nat.reduceLT, Nat.reduceSub]
            refine hK3 _ ?_
            clear hK3
            refine aw_cond (t := true) rfl (fun _ => ?_) (fun h => nomatch h)
            refine aw_ops zT fun K8 hK8 => ?_
            simp only [amset, amlib, zset, eq_self, ↓reduceIte, reduceCtorEq, Nat.reduceBEq, Nat.reduceEqDiff, Nat.reduceAdd, Nat.reduceMul, Nat.reduceLeDiff, Nat.reduceLT, Nat.reduceSub]
            refine hK8 _ ?_
            clear hK8
            refine aw_ret ?_
            show resOf zG _ [.tmp 2] = some _
            simp only [amset, amlib, zset, eq_self, ↓reduceIte, reduceCtorEq, Nat.reduceBEq, Nat.reduceEqDiff, Nat.reduceAdd, Nat.reduceMul, Nat.reduceLeDiff, Nat.reduceLT, Nat.reduceSub]
            simp only [wfT, u0, u1, u2, u3, u4, Bool.true_or, Bool.or_true, Bool.false_or, Bool.or_false, Bool.true_and, Bool.and_true, Bool.false_and, Bool.and_false, Bool.not_true, Bool.not_false, if_true, if_false, ↓reduceIte, Bool.false_eq_true]
        | false =>
          simp only [amset, amlib, zset, u0, u1, u2, u3, eq_self, ↓reduceIte, reduceCtorEq, Nat.reduceBEq, Nat.reduceEqDiff, Nat.reduceAdd, Nat.reduceMul, Nat.reduceLeDiff, Nat.reduceLT, Nat.reduceSub]
          refine ⟨_, holds96 _, ?_⟩
          simp only [later]
          simp only [amset, amlib, zset, u0, u1, u2, u3, eq_self, ↓reduceIte, reduceCtorEq, Nat.reduceBEq, Nat.reduceEqDiff, Nat.reduceAdd, Nat.reduceMul, Nat.reduceLeDiff, Nat.reduceLT, Nat.reduceSub]
          refine ⟨_, holds98 _, ?_⟩
          simp only [later]
          simp only [amset, amlib, zset, u0, u1, u2, u3, eq_self, ↓reduceIte, reduceCtorEq, Nat.reduceBEq, Nat.reduceEqDiff, Nat.reduceAdd, Nat.reduceMul, Nat.reduceLeDiff, Nat.reduceLT, Nat.reduceSub]
          refine ⟨_, holds98 _, ?_⟩
          simp only [later]
          simp only [amset, amlib, zset, u0, u1, u2, u3, eq_self, ↓reduceIte, reduceCtorEq, Nat.reduceBEq, Nat.reduceEqDiff, Nat.reduceAdd, Nat.reduceMul, Nat.reduceLeDiff, Nat.reduceLT, Nat.reduceSub]
          refine ⟨_, holds98 _, ?_⟩
          simp only [later]
          simp only [amset, amlib, zset, u0, u1, u2, u3, eq_self, ↓reduceIte, reduceCtorEq, Nat.reduceBEq, Nat.reduceEqDiff, Nat.reduceAdd, Nat.reduceMul, Nat.reduceLeDiff, Nat.reduceLT, Nat.reduceSub]
          refine hK3 _ ?_
          clear hK3
          refine aw_cond (t := true) rfl (fun _ => ?_) (fun h => nomatch h)
          refine aw_ops zT fun K9 hK9 => ?_
          simp only [amset, amlib, zset, eq_self, ↓reduceIte, reduceCtorEq, Nat.reduceBEq, Nat.reduceEqDiff, Nat.reduceAdd, Nat.reduceMul, Nat.reduceLeDiff, Nat.reduceLT, Nat.reduceSub]
          refine hK9 _ ?_
          clear hK9
          refine aw_ret ?_
          show resOf zG _ [.tmp 2] = some _
          simp only [amset, amlib, zset, eq_self, ↓reduceIte, reduceCtorEq, Nat.reduceBEq, Nat.reduceEqDiff, Nat.reduceAdd, Nat.reduceMul, Nat.reduceLeDiff, Nat.reduceLT, Nat.reduceSub]
          simp only [wfT, u0, u1, u2, u3, Bool.true_or, Bool.or_true, Bool.false_or, Bool.or_false, Bool.true_and, Bool.and_true, Bool.false_and, Bool.and_false, Bool.not_true, Bool.not_false, if_true, if_false, ↓reduceIte, Bool.false_eq_true]
      | false =>
        simp only [amset, amlib, zset, u0, u1, u2, eq_self, ↓reduceIte, reduceCtorEq, Nat.reduceBEq, Nat.reduceEqDiff, Nat.reduceAdd, Nat.reduceMul, Nat.reduceLeDiff, Nat.reduceLT, Nat.reduceSub]
        refine ⟨_, holds96 _, ?_⟩
        simp only [later]
        simp only [amset, amlib, zset, u0, u1, u2, eq_self, ↓reduceIte, reduceCtorEq, Nat.reduceBEq, Nat.reduceEqDiff, Nat.reduceAdd, Nat.reduceMul, Nat.reduceLeDiff, Nat.reduceLT, Nat.reduceSub]
        refine ⟨_, holds98 _, ?_⟩
        simp only [later]
        simp only [amset, amlib, zset, u0, u1, u2, eq_self, ↓reduceIte, reduceCtorEq, Nat.reduceBEq, Nat.reduceEqDiff, Nat.reduceAdd, Nat.reduceMul, Nat.reduceLeDiff, Nat.reduceLT, Nat.reduceSub]
        refine ⟨_, holds98 _, ?_⟩
        simp only [later]
        simp only [amset, amlib, zset, u0, u1, u2, eq_self, ↓reduceIte, reduceCtorEq, Nat.reduceBEq, Nat.reduceEqDiff, Nat.reduceAdd, Nat.reduceMul, Nat.reduceLeDiff, Nat.reduceLT, Nat.reduceSub]
        refine hK3 _ ?_
        clear hK3
        refine aw_cond (t := true) rfl (fun _ => ?_) (fun h => nomatch h)
        refine aw_ops zT fun K10 hK10 => ?_
        simp only [amset, amlib, zset, eq_self, ↓reduceIte, reduceCtorEq, Nat.reduceBEq, Nat.reduceEqDiff, Nat.reduceAdd, Nat.reduceMul, Nat.reduceLeDiff, Nat.reduceLT, Nat.reduceSub]
        refine hK10 _ ?_
        clear hK10
        refine aw_ret ?_
        show resOf zG _ [.tmp 2] = some _
        simp only [amset, amlib, zset, eq_self, ↓reduceIte, reduceCtorEq, Nat.reduceBEq, Nat.reduceEqDiff, Nat.reduceAdd, Nat.reduceMul, Nat.reduceLeDiff, Nat.reduceLT, Nat.reduceSub]
        simp only [wfT, u0, u1, u2, Bool.true_or, Bool.or_true, Bool.false_or, Bool.or_false, Bool.true_and, Bool.and_true, Bool.false_and, Bool.and_false, Bool.not_true, Bool.not_false, if_true, if_false, ↓reduceIte, Bool.false_eq_true]
    | false =>
      simp only [amset, amlib, zset, u0, u1, eq_self, ↓reduceIte, reduceCtorEq, Nat.reduceBEq, Nat.reduceEqDiff, Nat.reduceAdd, Nat.reduceMul, Nat.reduceLeDiff, Nat.reduceLT, Nat.reduceSub]
      refine ⟨_, holds96 _, ?_⟩
      simp only [later]
      simp only [amset, amlib, zset, u0, u1, eq_self, ↓reduceIte, reduceCtorEq, Nat.reduceBEq, Nat.reduceEqDiff, Nat.reduceAdd, Nat.reduceMul, Nat.reduceLeDiff, Nat.reduceLT, Nat.reduceSub]
      refine ⟨_, holds98 _, ?_⟩
      simp only [later]
      simp only [amset, amlib, zset, u0, u1, eq_self, ↓reduceIte, reduceCtorEq, Nat.reduceBEq, Nat.reduceEqDiff, Nat.reduceAdd, Nat.reduceMul, Nat.reduceLeDiff, Nat.reduceLT, Nat.reduceSub]
      refine hK3 _ ?_
      clear hK3
      refine aw_cond (t := true) rfl (fun _ => ?_) (fun h => nomatch h)
      refine aw_ops zT fun K11 hK11 => ?_
      simp only [amset, amlib, zset, eq_self, ↓reduceIte, reduceCtorEq, Nat.reduceBEq, Nat.reduceEqDiff, Nat.reduceAdd, Nat.reduceMul, Nat.reduceLeDiff, Nat.reduceLT, Nat.reduceSub]
      refine hK11 _ ?_
      clear hK11
      refine aw_ret ?_
      show resOf zG _ [.tmp 2] = some _
      simp only [amset, amlib, zset, eq_self, ↓reduceIte, reduceCtorEq, Nat.reduceBEq, Nat.reduceEqDiff, Nat.reduceAdd, Nat.reduceMul, Nat.reduceLeDiff, Nat.reduceLT, Nat.reduceSub]
      simp only [wfT, u0, u1, Bool.true_or, Bool.or_true, Bool.false_or, Bool.or_false, Bool.true_and, Bool.and_true, Bool.false_and, Bool.and_false, Bool.not_true, Bool.not_false, if_true, if_false, ↓reduceIte, Bool.false_eq_true]
  | false =>
    simp only [amset, amlib, zset, u0, eq_self, ↓reduceIte, reduceCtorEq, Nat.reduceBEq, Nat.reduceEqDiff, Nat.reduceAdd, Nat.reduceMul, Nat.reduceLeDiff, Nat.reduceLT, Nat.reduceSub]
    refine ⟨_, holds96 _, ?_⟩
    simp only [later]
    simp only [amset, amlib, zset, u0, eq_self, ↓reduceIte, reduceCtorEq, Nat.reduceBEq, Nat.reduceEqDiff, Nat.reduceAdd, Nat.reduceMul, Nat.reduceLeDiff, Nat.reduceLT, Nat.reduceSub]
    refine hK3 _ ?_
    clear hK3
    refine aw_cond (t := true) rfl (fun _ => ?_) (fun h => nomatch h)
    refine aw_ops zT fun K12 hK12 => ?_
    simp only [amset, amlib, zset, eq_self, ↓reduceIte, reduceCtorEq, Nat.reduceBEq, Nat.reduceEqDiff, Nat.reduceAdd, Nat.reduceMul, Nat.reduceLeDiff, Nat.reduceLT, Nat.reduceSub]
    refine hK12 _ ?_
    clear hK12
    refine aw_ret ?_
    show resOf zG _ [.tmp 2] = some _
    simp only [amset, amlib, zset, eq_self, ↓reduceIte, reduceCtorEq, Nat.reduceBEq, Nat.reduceEqDiff, Nat.reduceAdd, Nat.reduceMul, Nat.reduceLeDiff, Nat.reduceLT, Nat.reduceSub]
    simp only [wfT, u0, Bool.true_or, Bool.or_true, Bool.false_or, Bool.or_false, Bool.true_and, Bool.and_true, Bool.false_and, Bool.and_false, Bool.not_true, Bool.not_false, if_true, if_false, ↓reduceIte, Bool.false_eq_true]
theorem prog101 : Tryz.prog.funcs[101]? = some Tryz.f101 := by kernel_rfl
theorem holds101 (t : Tk) : Holds Tryz.prog zG 101 [.agg [.str t.name, .int .i64 t.period, .int .i64 t.deadline, .str t.channel, .str t.param, .int .i64 t.within, .sl 7 (encSs t.body), .int .i64 t.pos]] [.c (.bool (!wfT t))] := by
  refine holds_of_body zT prog101 rfl rfl rfl (by simp [Tryz.f101]) ?_
  refine aw_ops zT fun K1 hK1 => ?_
  simp only [amset, amlib, zset, eq_self, ↓reduceIte, reduceCtorEq, Nat.reduceBEq, Nat.reduceEqDiff, Nat.reduceAdd, Nat.reduceMul, Nat.reduceLeDiff, Nat.reduceLT, Nat.reduceSub]
  refine hK1 _ ?_
  clear hK1
  refine aw_ops zT fun K2 hK2 => ?_
  simp only [amset, amlib, zset, eq_self, ↓reduceIte, reduceCtorEq, Nat.reduceBEq, Nat.reduceEqDiff, Nat.reduceAdd, Nat.reduceMul, Nat.reduceLeDiff, Nat.reduceLT, Nat.reduceSub]
  refine ⟨_, holds102 t, ?_⟩
  simp only [later]
  simp only [amset, amlib, zset, eq_self, ↓reduceIte, reduceCtorEq, Nat.reduceBEq, Nat.reduceEqDiff, Nat.reduceAdd, Nat.reduceMul, Nat.reduceLeDiff, Nat.reduceLT, Nat.reduceSub]
  refine hK2 _ ?_
  clear hK2
  refine aw_ret ?_
  show resOf zG _ [.tmp 2] = some _
  simp only [amset, amlib, zset, eq_self, ↓reduceIte, reduceCtorEq, Nat.reduceBEq, Nat.reduceEqDiff, Nat.reduceAdd, Nat.reduceMul, Nat.reduceLeDiff, Nat.reduceLT, Nat.reduceSub]
theorem prog36 : Tryz.prog.funcs[36]? = some Tryz.f36 := by kernel_rfl
theorem holds36 (p : Pg) (hse : p.sensors = []) (hou : p.outputs = []) : Holds Tryz.prog zG 36 [.agg [.sl 3 (encCs p.consts), .sl 4 (encGs p.globals), .sl 1 (encStrs p.sensors), .sl 1 (encStrs p.outputs), .sl 3 (encHs p.channels), .sl 8 (encTs p.tasks)]] [.c (.bool (wfP p))] := by
  refine holds_of_body zT prog36 rfl rfl rfl (by simp [Tryz.f36]) ?_
  refine aw_ops zT fun K1 hK1 => ?_
  simp only [amset, amlib, zset, eq_self, ↓reduceIte, reduceCtorEq, Nat.reduceBEq, Nat.reduceEqDiff, Nat.reduceAdd, Nat.reduceMul, Nat.reduceLeDiff, Nat.reduceLT, Nat.reduceSub]
  refine hK1 _ ?_
  clear hK1
  refine aw_seq fun K2 hK2 => ?_
  refine aw_ops zT fun K3 hK3 => ?_
  simp only [amset, amlib, zset, eq_self, ↓reduceIte, reduceCtorEq, Nat.reduceBEq, Nat.reduceEqDiff, Nat.reduceAdd, Nat.reduceMul, Nat.reduceLeDiff, Nat.reduceLT, Nat.reduceSub]
  intros
  refine hK3 _ ?_
  clear hK3
  refine aw_block ?_
  refine aw_range (α := Cn) (p.consts) (fun dn => dn.all okC = true) (fun dn => [(14, .cell (.c (.int .i64 dn.length)))]) (fun dn => []) [] [2, 4, 14, 15, 16, 17, 18, 19, 20, 21, 22, 23, 24, 25, 26, 27, 28] [4] rfl ?_ ?_ ?_ ?_
  · simp only [amset, amlib, zset, eq_self, ↓reduceIte, reduceCtorEq, Nat.reduceBEq, Nat.reduceEqDiff, Nat.reduceAdd, Nat.reduceMul, Nat.reduceLeDiff, Nat.reduceLT, Nat.reduceSub] <;> simp [eq_self]
  · simp only [amset, amlib, zset, eq_self, ↓reduceIte, reduceCtorEq, Nat.reduceBEq, Nat.reduceEqDiff, Nat.reduceAdd, Nat.reduceMul, Nat.reduceLeDiff, Nat.reduceLT, Nat.reduceSub] <;> simp [eq_self]
  · intro hI R
    refine aw_norm (by simp only [amset, amlib, zset, eq_self, ↓reduceIte, reduceCtorEq, Nat.reduceBEq, Nat.reduceEqDiff, Nat.reduceAdd, Nat.reduceMul, Nat.reduceLeDiff, Nat.reduceLT, Nat.reduceSub]; exact rfl) ?_
    refine aw_ops zT fun K4 hK4 => ?_
    simp only [amset, amlib, zset, eq_self, ↓reduceIte, reduceCtorEq, Nat.reduceBEq, Nat.reduceEqDiff, Nat.reduceAdd, Nat.reduceMul, Nat.reduceLeDiff, Nat.reduceLT, Nat.reduceSub]
    refine hK4 _ ?_
    clear hK4
    refine aw_seq fun K5 hK5 => ?_
    refine aw_cond (t := false) (by simp [evalO, S.get, amLook]) (fun h => nomatch h) (fun _ => ?_)
    refine aw_exit ?_
    simp only [thenQ, blkQ, if_true, reduceIte, Nat.reduceEqDiff, eq_self]
    refine hK2 _ ?_
    clear hK2
    refine aw_seq fun K6 hK6 => ?_
    refine aw_ops zT fun K7 hK7 => ?_
    simp only [amset, amlib, zset, eq_self, ↓reduceIte, reduceCtorEq, Nat.reduceBEq, Nat.reduceEqDiff, Nat.reduceAdd, Nat.reduceMul, Nat.reduceLeDiff, Nat.reduceLT, Nat.reduceSub]
    intros
    refine hK7 _ ?_
    clear hK7
    refine aw_block ?_
    refine aw_range (α := Gl) (p.globals) (fun dn1 => dn1.all okG = true) (fun dn1 => [(32, .cell (.c (.int .i64 dn1.length)))]) (fun dn1 => []) [] [2, 6, 32, 33, 34, 35, 36, 37, 38, 39, 40, 41, 42, 43, 44, 45, 46, 47, 48, 49, 50, 51, 52, 53, 54, 55, 56, 57, 58, 59, 60, 61, 62] [6] rfl ?_ ?_ ?_ ?_
    · simp only [amset, amlib, zset, eq_self, ↓reduceIte, reduceCtorEq, Nat.reduceBEq, Nat.reduceEqDiff, Nat.reduceAdd, Nat.reduceMul, Nat.reduceLeDiff, Nat.reduceLT, Nat.reduceSub] <;> simp [eq_self]
    · simp only [amset, amlib, zset, eq_self, ↓reduceIte, reduceCtorEq, Nat.reduceBEq, Nat.reduceEqDiff, Nat.reduceAdd, Nat.reduceMul, Nat.reduceLeDiff, Nat.reduceLT, Nat.reduceSub] <;> simp [eq_self]
    · intro hI1 R1
      refine aw_norm (by simp only [amset, amlib, zset, eq_self, ↓reduceIte, reduceCtorEq, Nat.reduceBEq, Nat.reduceEqDiff, Nat.reduceAdd, Nat.reduceMul, Nat.reduceLeDiff, Nat.reduceLT, Nat.reduceSub]; exact rfl) ?_
      refine aw_ops zT fun K8 hK8 => ?_
      simp only [amset, amlib, zset, eq_self, ↓reduceIte, reduceCtorEq, Nat.reduceBEq, Nat.reduceEqDiff, Nat.reduceAdd, Nat.reduceMul, Nat.reduceLeDiff, Nat.reduceLT, Nat.reduceSub]
      refine hK8 _ ?_
      clear hK8
      refine aw_seq fun K9 hK9 => ?_
      refine aw_cond (t := false) (by simp [evalO, S.get, amLook]) (fun h => nomatch h) (fun _ => ?_)
      refine aw_exit ?_
      simp only [thenQ, blkQ, if_true, reduceIte, Nat.reduceEqDiff, eq_self]
      refine hK6 _ ?_
      clear hK6
      refine aw_seq fun K10 hK10 => ?_
      refine aw_ops zT fun K11 hK11 => ?_
      simp only [amset, amlib, zset, hse, hou, encStrs_nil, eq_self, ↓reduceIte, reduceCtorEq, Nat.reduceBEq, Nat.reduceEqDiff, Nat.reduceAdd, Nat.reduceMul, Nat.reduceLeDiff, Nat.reduceLT, Nat.reduceSub]
      refine ⟨_, holds99, ?_⟩
      simp only [later]
      simp only [amset, amlib, zset, hse, hou, encStrs_nil, eq_self, ↓reduceIte, reduceCtorEq, Nat.reduceBEq, Nat.reduceEqDiff, Nat.reduceAdd, Nat.reduceMul, Nat.reduceLeDiff, Nat.reduceLT, Nat.reduceSub]
      intros
      refine hK11 _ ?_
      clear hK11
      refine aw_block ?_
      refine aw_range (α := Unit) (([] : List Unit)) (fun dn2 => True) (fun dn2 => [(70, .cell (.c (.int .i64 dn2.length)))]) (fun dn2 => []) [] [2, 8, 70, 71, 72, 73, 74, 75, 76, 77] [] trivial ?_ ?_ ?_ ?_
      · simp only [amset, amlib, zset, eq_self, ↓reduceIte, reduceCtorEq, Nat.reduceBEq, Nat.reduceEqDiff, Nat.reduceAdd, Nat.reduceMul, Nat.reduceLeDiff, Nat.reduceLT, Nat.reduceSub] <;> simp [eq_self]
      · simp only [amset, amlib, zset, eq_self, ↓reduceIte, reduceCtorEq, Nat.reduceBEq, Nat.reduceEqDiff, Nat.reduceAdd, Nat.reduceMul, Nat.reduceLeDiff, Nat.reduceLT, Nat.reduceSub] <;> simp [eq_self]
      · intro hI2 R2
        refine aw_norm (by simp only [amset, amlib, zset, eq_self, ↓reduceIte, reduceCtorEq, Nat.reduceBEq, Nat.reduceEqDiff, Nat.reduceAdd, Nat.reduceMul, Nat.reduceLeDiff, Nat.reduceLT, Nat.reduceSub]; exact rfl) ?_
        refine aw_ops zT fun K12 hK12 => ?_
        simp only [amset, amlib, zset, eq_self, ↓reduceIte, reduceCtorEq, Nat.reduceBEq, Nat.reduceEqDiff, Nat.reduceAdd, Nat.reduceMul, Nat.reduceLeDiff, Nat.reduceLT, Nat.reduceSub]
        refine hK12 _ ?_
        clear hK12
        refine aw_seq fun K13 hK13 => ?_
        refine aw_cond (t := false) (by simp [evalO, S.get, amLook]) (fun h => nomatch h) (fun _ => ?_)
        refine aw_exit ?_
        simp only [thenQ, blkQ, if_true, reduceIte, Nat.reduceEqDiff, eq_self]
        refine hK10 _ ?_
        clear hK10
        refine aw_seq fun K14 hK14 => ?_
        refine aw_ops zT fun K15 hK15 => ?_
        simp only [amset, amlib, zset, eq_self, ↓reduceIte, reduceCtorEq, Nat.reduceBEq, Nat.reduceEqDiff, Nat.reduceAdd, Nat.reduceMul, Nat.reduceLeDiff, Nat.reduceLT, Nat.reduceSub]
        intros
        refine hK15 _ ?_
        clear hK15
        refine aw_block ?_
        refine aw_range (α := Ch) (p.channels) (fun dn3 => dn3.all okH = true) (fun dn3 => [(81, .cell (.c (.int .i64 dn3.length)))]) (fun dn3 => []) [] [2, 10, 81, 82, 83, 84, 85, 86, 87, 88, 89, 90, 91, 92, 93, 94, 95] [10] rfl ?_ ?_ ?_ ?_
        · simp only [amset, amlib, zset, eq_self, ↓reduceIte, reduceCtorEq, Nat.reduceBEq, Nat.reduceEqDiff, Nat.reduceAdd, Nat.reduceMul, Nat.reduceLeDiff, Nat.reduceLT, Nat.reduceSub] <;> simp [eq_self]
        · simp only [amset, amlib, zset, eq_self, ↓reduceIte, reduceCtorEq, Nat.reduceBEq, Nat.reduceEqDiff, Nat.reduceAdd, Nat.reduceMul, Nat.reduceLeDiff, Nat.reduceLT, Nat.reduceSub] <;> simp [eq_self]
        · intro hI3 R3
          refine aw_norm (by simp only [amset, amlib, zset, eq_self, ↓reduceIte, reduceCtorEq, Nat.reduceBEq, Nat.reduceEqDiff, Nat.reduceAdd, Nat.reduceMul, Nat.reduceLeDiff, Nat.reduceLT, Nat.reduceSub]; exact rfl) ?_
          refine aw_ops zT fun K16 hK16 => ?_
          simp only [amset, amlib, zset, eq_self, ↓reduceIte, reduceCtorEq, Nat.reduceBEq, Nat.reduceEqDiff, Nat.reduceAdd, Nat.reduceMul, Nat.reduceLeDiff, Nat.reduceLT, Nat.reduceSub]
          refine hK16 _ ?_
          clear hK16
          refine aw_seq fun K17 hK17 => ?_
          refine aw_cond (t := false) (by simp [evalO, S.get, amLook]) (fun h => nomatch h) (fun _ => ?_)
          refine aw_exit ?_
          simp only [thenQ, blkQ, if_true, reduceIte, Nat.reduceEqDiff, eq_self]
          refine hK14 _ ?_
          clear hK14
          refine aw_ops zT fun K18 hK18 => ?_
          simp only [amset, amlib, zset, eq_self, ↓reduceIte, reduceCtorEq, Nat.reduceBEq, Nat.reduceEqDiff, Nat.reduceAdd, Nat.reduceMul, Nat.reduceLeDiff, Nat.reduceLT, Nat.reduceSub]
          refine ⟨_, holds100 101 (fun y => !wfT y) p.tasks (fun y _ => holds101 y), ?_⟩
          simp only [later]
          simp only [amset, amlib, zset, eq_self, ↓reduceIte, reduceCtorEq, Nat.reduceBEq, Nat.reduceEqDiff, Nat.reduceAdd, Nat.reduceMul, Nat.reduceLeDiff, Nat.reduceLT, Nat.reduceSub]
          refine hK18 _ ?_
          clear hK18
          refine aw_ret ?_
          show resOf zG _ [.tmp 2] = some _
          simp only [amset, amlib, zset, eq_self, ↓reduceIte, reduceCtorEq, Nat.reduceBEq, Nat.reduceEqDiff, Nat.reduceAdd, Nat.reduceMul, Nat.reduceLeDiff, Nat.reduceLT, Nat.reduceSub]
          rw [tasks_any]
          simp only [wfP, hI, hI1, hI3, hse, hou, List.append_nil, List.all_nil, Bool.true_or, Bool.or_true, Bool.false_or, Bool.or_false, Bool.true_and, Bool.and_true, Bool.false_and, Bool.and_false, Bool.not_true, Bool.not_false, if_true, if_false, ↓reduceIte, Bool.false_eq_true]
        · intro dn3 y3 td3 harg3 hI3 R3 hR3
          have hl3 : (p.channels).length = dn3.length + (td3.length + 1) := by rw [harg3]; simp
          have hmem3 : y3 ∈ p.channels := by rw [harg3]; simp
          refine aw_norm (by simp only [amset, amlib, zset, eq_self, ↓reduceIte, reduceCtorEq, Nat.reduceBEq, Nat.reduceEqDiff, Nat.reduceAdd, Nat.reduceMul, Nat.reduceLeDiff, Nat.reduceLT, Nat.reduceSub]; exact rfl) ?_
          have hget3 : (encHs (p.channels)).getD dn3.length [] = encH y3 := by rw [harg3]; exact encHs_mid dn3 td3 y3
          refine aw_ops zT fun K19 hK19 => ?_
          simp only [amset, amlib, zset, eq_self, ↓reduceIte, reduceCtorEq, Nat.reduceBEq, Nat.reduceEqDiff, Nat.reduceAdd, Nat.reduceMul, Nat.reduceLeDiff, Nat.reduceLT, Nat.reduceSub]
          refine hK19 _ ?_
          clear hK19
          refine aw_seq fun K20 hK20 => ?_
          refine aw_cond (t := true) (by simp [evalO, S.get, amLook]; omega) (fun _ => ?_) (fun h => nomatch h)
          refine aw_skip ?_
          simp only [thenQ, blkQ, if_true, reduceIte, Nat.reduceEqDiff, eq_self]
          refine hK20 _ ?_
          clear hK20
          refine aw_seq fun K21 hK21 => ?_
          refine aw_block ?_
          refine aw_ops zT fun K22 hK22 => ?_
          simp only [amset, amlib, zset, hget3, eq_self, ↓reduceIte, reduceCtorEq, Nat.reduceBEq, Nat.reduceEqDiff, Nat.reduceAdd, Nat.reduceMul, Nat.reduceLeDiff, Nat.reduceLT, Nat.reduceSub]
          refine ⟨⟨by omega, by omega⟩, ?_⟩
          refine hK22 _ ?_
          clear hK22
          refine aw_ops zT fun K23 hK23 => ?_
          cases a0 : ident y3.name with
          | true =>
            cases a1 : numA y3.cap with
            | true =>
              simp only [amset, amlib, zset, a0, a1, eq_self, ↓reduceIte, reduceCtorEq, Nat.reduceBEq, Nat.reduceEqDiff, Nat.reduceAdd, Nat.reduceMul, Nat.reduceLeDiff, Nat.reduceLT, Nat.reduceSub]
              refine ⟨_, holds96 _, ?_⟩
              simp only [later]
              simp only [amset, amlib, zset, a0, a1, eq_self, ↓reduceIte, reduceCtorEq, Nat.reduceBEq, Nat.reduceEqDiff, Nat.reduceAdd, Nat.reduceMul, Nat.reduceLeDiff, Nat.reduceLT, Nat.reduceSub]
              refine ⟨_, holds98 _, ?_⟩
              simp only [later]
              simp only [amset, amlib, zset, a0, a1, eq_self, ↓reduceIte, reduceCtorEq, Nat.reduceBEq, Nat.reduceEqDiff, Nat.reduceAdd, Nat.reduceMul, Nat.reduceLeDiff, Nat.reduceLT, Nat.reduceSub]
              refine hK23 _ ?_
              clear hK23
              refine aw_cond (t := false) rfl (fun h => nomatch h) (fun _ => ?_)
              refine aw_skip ?_
              simp only [thenQ, blkQ, if_true, reduceIte, Nat.reduceEqDiff, eq_self]
              refine hK21 _ ?_
              clear hK21
              refine aw_region zT ?_
              simp only [amset, amlib, zset, eq_self, ↓reduceIte, reduceCtorEq, Nat.reduceBEq, Nat.reduceEqDiff, Nat.reduceAdd, Nat.reduceMul, Nat.reduceLeDiff, Nat.reduceLT, Nat.reduceSub]
              refine ⟨⟨by omega, by omega⟩, ?_⟩
              refine hR3 _ (by rw [List.all_append, hI3]; simp only [List.all_cons, List.all_nil, okH, a0, a1, Bool.true_or, Bool.or_true, Bool.false_or, Bool.or_false, Bool.true_and, Bool.and_true, Bool.false_and, Bool.and_false, Bool.not_true, Bool.not_false, if_true, if_false, ↓reduceIte, Bool.false_eq_true]) ?_
              refine Reach.to ?_ ?_
              · simp only [amset, amlib, zset, eq_self, ↓reduceIte, reduceCtorEq, Nat.reduceBEq, Nat.reduceEqDiff, Nat.reduceAdd, Nat.reduceMul, Nat.reduceLeDiff, Nat.reduceLT, Nat.reduceSub] <;> simp [eq_self]
              · simp only [amset, amlib, zset, eq_self, ↓reduceIte, reduceCtorEq, Nat.reduceBEq, Nat.reduceEqDiff, Nat.reduceAdd, Nat.reduceMul, Nat.reduceLeDiff, Nat.reduceLT, Nat.reduceSub] <;> simp [eq_self]
            | false =>
              simp only [amset, amlib, zset, a0, a1, eq_self, ↓reduceIte, reduceCtorEq, Nat.reduceBEq, Nat.reduceEqDiff, Nat.reduceAdd, Nat.reduceMul, Nat.reduceLeDiff, Nat.reduceLT, Nat.reduceSub]
              refine ⟨_, holds96 _, ?_⟩
              simp only [later]
              simp only [amset, amlib, zset, a0, a1, eq_self, ↓reduceIte, reduceCtorEq, Nat.reduceBEq, Nat.reduceEqDiff, Nat.reduceAdd, Nat.reduceMul, Nat.reduceLeDiff, Nat.reduceLT, Nat.reduceSub]
              refine ⟨_, holds98 _, ?_⟩
              simp only [later]
              simp only [amset, amlib, zset, a0, a1, eq_self, ↓reduceIte, reduceCtorEq, Nat.reduceBEq, Nat.reduceEqDiff, Nat.reduceAdd, Nat.reduceMul, Nat.reduceLeDiff, Nat.reduceLT, Nat.reduceSub]
              refine hK23 _ ?_
              clear hK23
              refine aw_cond (t := true) rfl (fun _ => ?_) (fun h => nomatch h)
              refine aw_ops zT fun K24 hK24 => ?_
              simp only [amset, amlib, zset, eq_self, ↓reduceIte, reduceCtorEq, Nat.reduceBEq, Nat.reduceEqDiff, Nat.reduceAdd, Nat.reduceMul, Nat.reduceLeDiff, Nat.reduceLT, Nat.reduceSub]
              refine hK24 _ ?_
              clear hK24
              refine aw_ret ?_
              show resOf zG _ [.tmp 2] = some _
              simp only [amset, amlib, zset, eq_self, ↓reduceIte, reduceCtorEq, Nat.reduceBEq, Nat.reduceEqDiff, Nat.reduceAdd, Nat.reduceMul, Nat.reduceLeDiff, Nat.reduceLT, Nat.reduceSub]
              have hf : p.channels.all okH = false := by
                rw [harg3, List.all_append, List.all_cons]
                have : okH y3 = false := by simp only [okH, a0, a1, Bool.true_or, Bool.or_true, Bool.false_or, Bool.or_false, Bool.true_and, Bool.and_true, Bool.false_and, Bool.and_false, Bool.not_true, Bool.not_false, if_true, if_false, ↓reduceIte, Bool.false_eq_true]
                rw [this]; simp
              simp only [wfP, hf, Bool.true_or, Bool.or_true, Bool.false_or, Bool.or_false, Bool.true_and, Bool.and_true, Bool.false_and, Bool.and_false, Bool.not_true, Bool.not_false, if_true, if_false, ↓reduceIte, Bool.false_eq_true]
          | false =>
            simp only [amset, amlib, zset, a0, eq_self, ↓reduceIte, reduceCtorEq, Nat.reduceBEq, Nat.reduceEqDiff, Nat.reduceAdd, Nat.reduceMul, Nat.reduceLeDiff, Nat.reduceLT, Nat.reduceSub]
            refine ⟨_, holds96 _, ?_⟩
            simp only [later]
            simp only [amset, amlib, zset, a0, eq_self, ↓reduceIte, reduceCtorEq, Nat.reduceBEq, Nat.reduceEqDiff, Nat.reduceAdd, Nat.reduceMul, Nat.reduceLeDiff, Nat.reduceLT, Nat.reduceSub]
            refine hK23 _ ?_
            clear hK23
            refine aw_cond (t := true) rfl (fun _ => ?_) (fun h => nomatch h)
            refine aw_ops zT fun K25 hK25 => ?_
            simp only [amset, amlib, zset, eq_self, ↓reduceIte, reduceCtorEq, Nat.reduceBEq, Nat.reduceEqDiff, Nat.reduceAdd, Nat.reduceMul, Nat.reduceLeDiff, Nat.reduceLT, Nat.reduceSub]
            refine hK25 _ ?_
            clear hK25
            refine aw_ret ?_
            show resOf zG _ [.tmp 2] = some _
            simp only [amset, amlib, zset, eq_self, ↓reduceIte, reduceCtorEq, Nat.reduceBEq, Nat.reduceEqDiff, Nat.reduceAdd, Nat.reduceMul, Nat.reduceLeDiff, Nat.reduceLT, Nat.reduceSub]
            have hf : p.channels.all okH = false := by
              rw [harg3, List.all_append, List.all_cons]
              have : okH y3 = false := by simp only [okH, a0, Bool.true_or, Bool.or_true, Bool.false_or, Bool.or_false, Bool.true_and, Bool.and_true, Bool.false_and, Bool.and_false, Bool.not_true, Bool.not_false, if_true, if_false, ↓reduceIte, Bool.false_eq_true]
              rw [this]; simp
            simp only [wfP, hf, Bool.true_or, Bool.or_true, Bool.false_or, Bool.or_false, Bool.true_and, Bool.and_true, Bool.false_and, Bool.and_false, Bool.not_true, Bool.not_false, if_true, if_false, ↓reduceIte, Bool.false_eq_true]
      · intro dn2 y2 td2 harg2 hI2 R2 hR2
        have hl2 : (([] : List Unit)).length = dn2.length + (td2.length + 1) := by rw [harg2]; simp
        have hmem2 : y2 ∈ ([] : List Unit) := by rw [harg2]; simp
        refine aw_norm (by simp only [amset, amlib, zset, eq_self, ↓reduceIte, reduceCtorEq, Nat.reduceBEq, Nat.reduceEqDiff, Nat.reduceAdd, Nat.reduceMul, Nat.reduceLeDiff, Nat.reduceLT, Nat.reduceSub]; exact rfl) ?_
        exact absurd harg2 (by simp)
    · intro dn1 y1 td1 harg1 hI1 R1 hR1
      have hl1 : (p.globals).length = dn1.length + (td1.length + 1) := by rw [harg1]; simp
      have hmem1 : y1 ∈ p.globals := by rw [harg1]; simp
      refine aw_norm (by simp only [amset, amlib, zset, eq_self, ↓reduceIte, reduceCtorEq, Nat.reduceBEq, Nat.reduceEqDiff, Nat.reduceAdd, Nat.reduceMul, Nat.reduceLeDiff, Nat.reduceLT, Nat.reduceSub]; exact rfl) ?_
      have hget1 : (encGs (p.globals)).getD dn1.length [] = encG y1 := by rw [harg1]; exact encGs_mid dn1 td1 y1
      refine aw_ops zT fun K26 hK26 => ?_
      simp only [amset, amlib, zset, eq_self, ↓reduceIte, reduceCtorEq, Nat.reduceBEq, Nat.reduceEqDiff, Nat.reduceAdd, Nat.reduceMul, Nat.reduceLeDiff, Nat.reduceLT, Nat.reduceSub]
      refine hK26 _ ?_
      clear hK26
      refine aw_seq fun K27 hK27 => ?_
      refine aw_cond (t := true) (by simp [evalO, S.get, amLook]; omega) (fun _ => ?_) (fun h => nomatch h)
      refine aw_skip ?_
      simp only [thenQ, blkQ, if_true, reduceIte, Nat.reduceEqDiff, eq_self]
      refine hK27 _ ?_
      clear hK27
      refine aw_seq fun K28 hK28 => ?_
      refine aw_block ?_
      refine aw_ops zT fun K29 hK29 => ?_
      simp only [amset, amlib, zset, hget1, eq_self, ↓reduceIte, reduceCtorEq, Nat.reduceBEq, Nat.reduceEqDiff, Nat.reduceAdd, Nat.reduceMul, Nat.reduceLeDiff, Nat.reduceLT, Nat.reduceSub]
      refine ⟨⟨by omega, by omega⟩, ?_⟩
      refine hK29 _ ?_
      clear hK29
      refine aw_ops zT fun K30 hK30 => ?_
      cases a0 : ident y1.name with
      | true =>
        cases a1 : numA y1.len with
        | true =>
          cases a2 : signedA y1.init with
          | true =>
            cases a3 : decide (y1.len > 0) with
            | true =>
              cases a4 : (y1.init != 0) with
              | true =>
                simp only [amset, amlib, zset, a0, a1, a2, a3, a4, eq_self, ↓reduceIte, reduceCtorEq, Nat.reduceBEq, Nat.reduceEqDiff, Nat.reduceAdd, Nat.reduceMul, Nat.reduceLeDiff, Nat.reduceLT, Nat.reduceSub]
                refine ⟨_, holds96 _, ?_⟩
                simp only [later]
                simp only [amset, amlib, zset, a0, a1, a2, a3, a4, eq_self, ↓reduceIte, reduceCtorEq, Nat.reduceBEq, Nat.reduceEqDiff, Nat.reduceAdd, Nat.reduceMul, Nat.reduceLeDiff, Nat.reduceLT, Nat.reduceSub]
                refine ⟨_, holds98 _, ?_⟩
                simp only [later]
                simp only [amset, amlib, zset, a0, a1, a2, a3, a4, eq_self, ↓reduceIte, reduceCtorEq, Nat.reduceBEq, Nat.reduceEqDiff, Nat.reduceAdd, Nat.reduceMul, Nat.reduceLeDiff, Nat.reduceLT, Nat.reduceSub]
                refine ⟨_, holds97 _, ?_⟩
                simp only [later]
                simp only [amset, amlib, zset, a0, a1, a2, a3, a4, eq_self, ↓reduceIte, reduceCtorEq, Nat.reduceBEq, Nat.reduceEqDiff, Nat.reduceAdd, Nat.reduceMul, Nat.reduceLeDiff, Nat.reduceLT, Nat.reduceSub]
                refine hK30 _ ?_
                clear hK30
                refine aw_cond (t := true) rfl (fun _ => ?_) (fun h => nomatch h)
                refine aw_ops zT fun K31 hK31 => ?_
                simp only [amset, amlib, zset, eq_self, ↓reduceIte, reduceCtorEq, Nat.reduceBEq, Nat.reduceEqDiff, Nat.reduceAdd, Nat.reduceMul, Nat.reduceLeDiff, Nat.reduceLT, Nat.reduceSub]
                refine hK31 _ ?_
                clear hK31
                refine aw_ret ?_
                show resOf zG _ [.tmp 2] = some _
                simp only [amset, amlib, zset, eq_self, ↓reduceIte, reduceCtorEq, Nat.reduceBEq, Nat.reduceEqDiff, Nat.reduceAdd, Nat.reduceMul, Nat.reduceLeDiff, Nat.reduceLT, Nat.reduceSub]
                have hf : p.globals.all okG = false := by
                  rw [harg1, List.all_append, List.all_cons]
                  have : okG y1 = false := by simp only [okG, a0, a1, a2, a3, a4, Bool.true_or, Bool.or_true, Bool.false_or, Bool.or_false, Bool.true_and, Bool.and_true, Bool.false_and, Bool.and_false, Bool.not_true, Bool.not_false, if_true, if_false, ↓reduceIte, Bool.false_eq_true]
                  rw [this]; simp
                simp only [wfP, hf, Bool.true_or, Bool.or_true, Bool.false_or, Bool.or_false, Bool.true_and, Bool.and_true, Bool.false_and, Bool.and_false, Bool.not_true, Bool.not_false, if_true, if_false, ↓reduceIte, Bool.false_eq_true]
              | false =>
                simp only [amset, amlib, zset, a0, a1, a2, a3, a4, eq_self, ↓reduceIte, reduceCtorEq, Nat.reduceBEq, Nat.reduceEqDiff, Nat.reduceAdd, Nat.reduceMul, Nat.reduceLeDiff, Nat.reduceLT, Nat.reduceSub]
                refine ⟨_, holds96 _, ?_⟩
                simp only [later]
                simp only [amset, amlib, zset, a0, a1, a2, a3, a4, eq_self, ↓reduceIte, reduceCtorEq, Nat.reduceBEq, Nat.reduceEqDiff, Nat.reduceAdd, Nat.reduceMul, Nat.reduceLeDiff, Nat.reduceLT, Nat.reduceSub]
                refine ⟨_, holds98 _, ?_⟩
                simp only [later]
                simp only [amset, amlib, zset, a0, a1, a2, a3, a4, eq_self, ↓reduceIte, reduceCtorEq, Nat.reduceBEq, Nat.reduceEqDiff, Nat.reduceAdd, Nat.reduceMul, Nat.reduceLeDiff, Nat.reduceLT, Nat.reduceSub]
                refine ⟨_, holds97 _, ?_⟩
                simp only [later]
                simp only [amset, amlib, zset, a0, a1, a2, a3, a4, eq_self, ↓reduceIte, reduceCtorEq, Nat.reduceBEq, Nat.reduceEqDiff, Nat.reduceAdd, Nat.reduceMul, Nat.reduceLeDiff, Nat.reduceLT, Nat.reduceSub]
                refine hK30 _ ?_
                clear hK30
                refine aw_cond (t := false) rfl (fun h => nomatch h) (fun _ => ?_)
                refine aw_skip ?_
                simp only [thenQ, blkQ, if_true, reduceIte, Nat.reduceEqDiff, eq_self]
                refine hK28 _ ?_
                clear hK28
                refine aw_region zT ?_
                simp only [amset, amlib, zset, eq_self, ↓reduceIte, reduceCtorEq, Nat.reduceBEq, Nat.reduceEqDiff, Nat.reduceAdd, Nat.reduceMul, Nat.reduceLeDiff, Nat.reduceLT, Nat.reduceSub]
                refine ⟨⟨by omega, by omega⟩, ?_⟩
                refine hR1 _ (by rw [List.all_append, hI1]; simp only [List.all_cons, List.all_nil, okG, a0, a1, a2, a3, a4, Bool.true_or, Bool.or_true, Bool.false_or, Bool.or_false, Bool.true_and, Bool.and_true, Bool.false_and, Bool.and_false, Bool.not_true, Bool.not_false, if_true, if_false, ↓reduceIte, Bool.false_eq_true]) ?_
                refine Reach.to ?_ ?_
                · simp only [amset, amlib, zset, eq_self, ↓reduceIte, reduceCtorEq, Nat.reduceBEq, Nat.reduceEqDiff, Nat.reduceAdd, Nat.reduceMul, Nat.reduceLeDiff, Nat.reduceLT, Nat.reduceSub] <;> simp [eq_self]
                · simp only [amset, amlib, zset, eq_self, ↓reduceIte, reduceCtorEq, Nat.reduceBEq, Nat.reduceEqDiff, Nat.reduceAdd, Nat.reduceMul, Nat.reduceLeDiff, Nat.reduceLT, Nat.reduceSub] <;> simp [eq_self]
            | false =>
              simp only [amset, amlib, zset, a0, a1, a2, a3, eq_self, ↓reduceIte, reduceCtorEq, Nat.reduceBEq, Nat.reduceEqDiff, Nat.reduceAdd, Nat.reduceMul, Nat.reduceLeDiff, Nat.reduceLT, Nat.reduceSub]
              refine ⟨_, holds96 _, ?_⟩
              simp only [later]
              simp only [amset, amlib, zset, a0, a1, a2, a3, eq_self, ↓reduceIte, reduceCtorEq, Nat.reduceBEq, Nat.reduceEqDiff, Nat.reduceAdd, Nat.reduceMul, Nat.reduceLeDiff, Nat.reduceLT, Nat.reduceSub]
              refine ⟨_, holds98 _, ?_⟩
              simp only [later]
              simp only [amset, amlib, zset, a0, a1, a2, a3, eq_self, ↓reduceIte, reduceCtorEq, Nat.reduceBEq, Nat.reduceEqDiff, Nat.reduceAdd, Nat.reduceMul, Nat.reduceLeDiff, Nat.reduceLT, Nat.reduceSub]
              refine ⟨_, holds97 _, ?_⟩
              simp only [later]
              simp only [amset, amlib, zset, a0, a1, a2, a3, eq_self, ↓reduceIte, reduceCtorEq, Nat.reduceBEq, Nat.reduceEqDiff, Nat.reduceAdd, Nat.reduceMul, Nat.reduceLeDiff, Nat.reduceLT, Nat.reduceSub]
              refine hK30 _ ?_
              clear hK30
              refine aw_cond (t := false) rfl (fun h => nomatch h) (fun _ => ?_)
              refine aw_skip ?_
              simp only [thenQ, blkQ, if_true, reduceIte, Nat.reduceEqDiff, eq_self]
              refine hK28 _ ?_
              clear hK28
              refine aw_region zT ?_
              simp only [amset, amlib, zset, eq_self, ↓reduceIte, reduceCtorEq, Nat.reduceBEq, Nat.reduceEqDiff, Nat.reduceAdd, Nat.reduceMul, Nat.reduceLeDiff, Nat.reduceLT, Nat.reduceSub]
              refine ⟨⟨by omega, by omega⟩, ?_⟩
              refine hR1 _ (by rw [List.all_append, hI1]; simp only [List.all_cons, List.all_nil, okG, a0, a1, a2, a3, Bool.true_or, Bool.or_true, Bool.false_or, Bool.or_false, Bool.true_and, Bool.and_true, Bool.false_and, Bool.and_false, Bool.not_true, Bool.not_false, if_true, if_false, ↓reduceIte, Bool.false_eq_true]) ?_
              refine Reach.to ?_ ?_
              · simp only [amset, amlib, zset, eq_self, ↓reduceIte, reduceCtorEq, Nat.reduceBEq, Nat.reduceEqDiff, Nat.reduceAdd, Nat.reduceMul, Nat.reduceLeDiff, Nat.reduceLT, Nat.reduceSub] <;> simp [eq_self]
              · simp only [amset, amlib, zset, eq_self, ↓reduceIte, reduceCtorEq, Nat.reduceBEq, Nat.reduceEqDiff, Nat.reduceAdd, Nat.reduceMul, Nat.reduceLeDiff, Nat.reduceLT, Nat.reduceSub] <;> simp [eq_self]
          | false =>
            simp only [amset, amlib, zset, a0, a1, a2, eq_self, ↓reduceIte, reduceCtorEq, Nat.reduceBEq, Nat.reduceEqDiff, Nat.reduceAdd, Nat.reduceMul, Nat.reduceLeDiff, Nat.reduceLT, Nat.reduceSub]
            refine ⟨_, holds96 _, ?_⟩
            simp only [later]
            simp only [amset, amlib, zset, a0, a1, a2, eq_self, ↓reduceIte, reduceCtorEq, Nat.reduceBEq, Nat.reduceEqDiff, Nat.reduceAdd, Nat.reduceMul, Nat.reduceLeDiff, Nat.reduceLT, Nat.reduceSub]
            refine ⟨_, holds98 _, ?_⟩
            simp only [later]
            simp only [amset, amlib, zset, a0, a1, a2, eq_self, ↓reduceIte, reduceCtorEq, Nat.reduceBEq, Nat.reduceEqDiff, Nat.reduceAdd, Nat.reduceMul, Nat.reduceLeDiff, Nat.reduceLT, Nat.reduceSub]
            refine ⟨_, holds97 _, ?_⟩
            simp only [later]
            simp only [amset, amlib, zset, a0, a1, a2, eq_self, ↓reduceIte, reduceCtorEq, Nat.reduceBEq, Nat.reduceEqDiff, Nat.reduceAdd, Nat.reduceMul, Nat.reduceLeDiff, Nat.reduceLT, Nat.reduceSub]
            refine hK30 _ ?_
            clear hK30
            refine aw_cond (t := true) rfl (fun _ => ?_) (fun h => nomatch h)
            refine aw_ops zT fun K32 hK32 => ?_
            simp only [amset, amlib, zset, eq_self, ↓reduceIte, reduceCtorEq, Nat.reduceBEq, Nat.reduceEqDiff, Nat.reduceAdd, Nat.reduceMul, Nat.reduceLeDiff, Nat.reduceLT, Nat.reduceSub]
            refine hK32 _ ?_
            clear hK32
            refine aw_ret ?_
            show resOf zG _ [.tmp 2] = some _
            simp only [amset, amlib, zset, eq_self, ↓reduceIte, reduceCtorEq, Nat.reduceBEq, Nat.reduceEqDiff, Nat.reduceAdd, Nat.reduceMul, Nat.reduceLeDiff, Nat.reduceLT, Nat.reduceSub]
            have hf : p.globals.all okG = false := by
              rw [harg1, List.all_append, List.all_cons]
              have : okG y1 = false := by simp only [okG, a0, a1, a2, Bool.true_or, Bool.or_true, Bool.false_or, Bool.or_false, Bool.true_and, Bool.and_true, Bool.false_and, Bool.and_false, Bool.not_true, Bool.not_false, if_true, if_false, ↓reduceIte, Bool.false_eq_true]
              rw [this]; simp
            simp only [wfP, hf, Bool.true_or, Bool.or_true, Bool.false_or, Bool.or_false, Bool.true_and, Bool.and_true, Bool.false_and, Bool.and_false, Bool.not_true, Bool.not_false, if_true, if_false, ↓reduceIte, Bool.false_eq_true]
        | false =>
          simp only [amset, amlib, zset, a0, a1, eq_self, ↓reduceIte, reduceCtorEq, Nat.reduceBEq, Nat.reduceEqDiff, Nat.reduceAdd, Nat.reduceMul, Nat.reduceLeDiff, Nat.reduceLT, Nat.reduceSub]
          refine ⟨_, holds96 _, ?_⟩
          simp only [later]
          simp only [amset, amlib, zset, a0, a1, eq_self, ↓reduceIte, reduceCtorEq, Nat.reduceBEq, Nat.reduceEqDiff, Nat.reduceAdd, Nat.reduceMul, Nat.reduceLeDiff, Nat.reduceLT, Nat.reduceSub]
          refine ⟨_, holds98 _, ?_⟩
          simp only [later]
          simp only [amset, amlib, zset, a0, a1, eq_self, ↓reduceIte, reduceCtorEq, Nat.reduceBEq, Nat.reduceEqDiff, Nat.reduceAdd, Nat.reduceMul, Nat.reduceLeDiff, Nat.reduceLT, Nat.reduceSub]
          refine hK30 _ ?_
          clear hK30
          refine aw_cond (t := true) rfl (fun _ => ?_) (fun h => nomatch h)
          refine aw_ops zT fun K33 hK33 => ?_
          simp only [amset, amlib, zset, eq_self, ↓reduceIte, reduceCtorEq, Nat.reduceBEq, Nat.reduceEqDiff, Nat.reduceAdd, Nat.reduceMul, Nat.reduceLeDiff, Nat.reduceLT, Nat.reduceSub]
          refine hK33 _ ?_
          clear hK33
          refine aw_ret ?_
          show resOf zG _ [.tmp 2] = some _
          simp only [amset, amlib, zset, eq_self, ↓reduceIte, reduceCtorEq, Nat.reduceBEq, Nat.reduceEqDiff, Nat.reduceAdd, Nat.reduceMul, Nat.reduceLeDiff, Nat.reduceLT, Nat.reduceSub]
          have hf : p.globals.all okG = false := by
            rw [harg1, List.all_append, List.all_cons]
            have : okG y1 = false := by simp only [okG, a0, a1, Bool.true_or, Bool.or_true, Bool.false_or, Bool.or_false, Bool.true_and, Bool.and_true, Bool.false_and, Bool.and_false, Bool.not_true, Bool.not_false, if_true, if_false, ↓reduceIte, Bool.false_eq_true]
            rw [this]; simp
          simp only [wfP, hf, Bool.true_or, Bool.or_true, Bool.false_or, Bool.or_false, Bool.true_and, Bool.and_true, Bool.false_and, Bool.and_false, Bool.not_true, Bool.not_false, if_true, if_false, ↓reduceIte, Bool.false_eq_true]
      | false =>
        simp only [amset, amlib, zset, a0, eq_self, ↓reduceIte, reduceCtorEq, Nat.reduceBEq, Nat.reduceEqDiff, Nat.reduceAdd, Nat.reduceMul, Nat.reduceLeDiff, Nat.reduceLT, Nat.reduceSub]
        refine ⟨_, holds96 _, ?_⟩
        simp only [later]
        simp only [amset, amlib, zset, a0, eq_self, ↓reduceIte, reduceCtorEq, Nat.reduceBEq, Nat.reduceEqDiff, Nat.reduceAdd, Nat.reduceMul, Nat.reduceLeDiff, Nat.reduceLT, Nat.reduceSub]
        refine hK30 _ ?_
        clear hK30
        refine aw_cond (t := true) rfl (fun _ => ?_) (fun h => nomatch h)
        refine aw_ops zT fun K34 hK34 => ?_
        simp only [amset, amlib, zset, eq_self, ↓reduceIte, reduceCtorEq, Nat.reduceBEq, Nat.reduceEqDiff, Nat.reduceAdd, Nat.reduceMul, Nat.reduceLeDiff, Nat.reduceLT, Nat.reduceSub]
        refine hK34 _ ?_
        clear hK34
        refine aw_ret ?_
        show resOf zG _ [.tmp 2] = some _
        simp only [amset, amlib, zset, eq_self, ↓reduceIte, reduceCtorEq, Nat.reduceBEq, Nat.reduceEqDiff, Nat.reduceAdd, Nat.reduceMul, Nat.reduceLeDiff, Nat.reduceLT, Nat.reduceSub]
        have hf : p.globals.all okG = false := by
          rw [harg1, List.all_append, List.all_cons]
          have : okG y1 = false := by simp only [okG, a0, Bool.true_or, Bool.or_true, Bool.false_or, Bool.or_false, Bool.true_and, Bool.and_true, Bool.false_and, Bool.and_false, Bool.not_true, Bool.not_false, if_true, if_false, ↓reduceIte, Bool.false_eq_true]
          rw [this]; simp
        simp only [wfP, hf, Bool.true_or, Bool.or_true, Bool.false_or, Bool.or_false, Bool.true_and, Bool.and_true, Bool.false_and, Bool.and_false, Bool.not_true, Bool.not_false, if_true, if_false, ↓reduceIte, Bool.false_eq_true]
  · intro dn y td harg hI R hR
    have hl : (p.consts).length = dn.length + (td.length + 1) := by rw [harg]; simp
    have hmem : y ∈ p.consts := by rw [harg]; simp
    refine aw_norm (by simp only [amset, amlib, zset, eq_self, ↓reduceIte, reduceCtorEq, Nat.reduceBEq, Nat.reduceEqDiff, Nat.reduceAdd, Nat.reduceMul, Nat.reduceLeDiff, Nat.reduceLT, Nat.reduceSub]; exact rfl) ?_
    have hget : (encCs (p.consts)).getD dn.length [] = encC y := by rw [harg]; exact encCs_mid dn td y
    refine aw_ops zT fun K35 hK35 => ?_
    simp only [amset, amlib, zset, eq_self, ↓reduceIte, reduceCtorEq, Nat.reduceBEq, Nat.reduceEqDiff, Nat.reduceAdd, Nat.reduceMul, Nat.reduceLeDiff, Nat.reduceLT, Nat.reduceSub]
    refine hK35 _ ?_
    clear hK35
    refine aw_seq fun K36 hK36 => ?_
    refine aw_cond (t := true) (by simp [evalO, S.get, amLook]; omega) (fun _ => ?_) (fun h => nomatch h)
    refine aw_skip ?_
    simp only [thenQ, blkQ, if_true, reduceIte, Nat.reduceEqDiff, eq_self]
    refine hK36 _ ?_
    clear hK36
    refine aw_seq fun K37 hK37 => ?_
    refine aw_block ?_
    refine aw_ops zT fun K38 hK38 => ?_
    simp only [amset, amlib, zset, hget, eq_self, ↓reduceIte, reduceCtorEq, Nat.reduceBEq, Nat.reduceEqDiff, Nat.reduceAdd, Nat.reduceMul, Nat.reduceLeDiff, Nat.reduceLT, Nat.reduceSub]
    refine ⟨⟨by omega, by omega⟩, ?_⟩
    refine hK38 _ ?_
    clear hK38
    refine aw_ops zT fun K39 hK39 => ?_
    cases a0 : ident y.name with
    | true =>
      cases a1 : signedA y.value with
      | true =>
        simp only [amset, amlib, zset, a0, a1, eq_self, ↓reduceIte, reduceCtorEq, Nat.reduceBEq, Nat.reduceEqDiff, Nat.reduceAdd, Nat.reduceMul, Nat.reduceLeDiff, Nat.reduceLT, Nat.reduceSub]
        refine ⟨_, holds96 _, ?_⟩
        simp only [later]
        simp only [amset, amlib, zset, a0, a1, eq_self, ↓reduceIte, reduceCtorEq, Nat.reduceBEq, Nat.reduceEqDiff, Nat.reduceAdd, Nat.reduceMul, Nat.reduceLeDiff, Nat.reduceLT, Nat.reduceSub]
        refine ⟨_, holds97 _, ?_⟩
        simp only [later]
        simp only [amset, amlib, zset, a0, a1, eq_self, ↓reduceIte, reduceCtorEq, Nat.reduceBEq, Nat.reduceEqDiff, Nat.reduceAdd, Nat.reduceMul, Nat.reduceLeDiff, Nat.reduceLT, Nat.reduceSub]
        refine hK39 _ ?_
        clear hK39
        refine aw_cond (t := false) rfl (fun h => nomatch h) (fun _ => ?_)
        refine aw_skip ?_
        simp only [thenQ, blkQ, if_true, reduceIte, Nat.reduceEqDiff, eq_self]
        refine hK37 _ ?_
        clear hK37
        refine aw_region zT ?_
        simp only [amset, amlib, zset, eq_self, ↓reduceIte, reduceCtorEq, Nat.reduceBEq, Nat.reduceEqDiff, Nat.reduceAdd, Nat.reduceMul, Nat.reduceLeDiff, Nat.reduceLT, Nat.reduceSub]
        refine ⟨⟨by omega, by omega⟩, ?_⟩
        refine hR _ (by rw [List.all_append, hI]; simp only [List.all_cons, List.all_nil, okC, a0, a1, Bool.true_or, Bool.or_true, Bool.false_or, Bool.or_false, Bool.true_and, Bool.and_true, Bool.false_and, Bool.and_false, Bool.not_true, Bool.not_false, if_true, if_false, ↓reduceIte, Bool.false_eq_true]) ?_
        refine Reach.to ?_ ?_
        · simp only [amset, amlib, zset, eq_self, ↓reduceIte, reduceCtorEq, Nat.reduceBEq, Nat.reduceEqDiff, Nat.reduceAdd, Nat.reduceMul, Nat.reduceLeDiff, Nat.reduceLT, Nat.reduceSub] <;> simp [eq_self]
        · simp only [amset, amlib, zset, eq_self, ↓reduceIte, reduceCtorEq, Nat.reduceBEq, Nat.reduceEqDiff, Nat.reduceAdd, Nat.reduceMul, Nat.reduceLeDiff, Nat.reduceLT, Nat.reduceSub] <;> simp [eq_self]
      | false =>
        simp only [amset, amlib, zset, a0, a1, eq_self, ↓reduceIte, reduceCtorEq, Nat.reduceBEq, Nat.reduceEqDiff, Nat.reduceAdd, Nat.reduceMul, Nat.reduceLeDiff, Nat.reduceLT, Nat.reduceSub]
        refine ⟨_, holds96 _, ?_⟩
        simp only [later]
        simp only [amset, amlib, zset, a0, a1, eq_self, ↓reduceIte, reduceCtorEq, Nat.reduceBEq, Nat.reduceEqDiff, Nat.reduceAdd, Nat.reduceMul, Nat.reduceLeDiff, Nat.reduceLT, Nat.reduceSub]
        refine ⟨_, holds97 _, ?_⟩
        simp only [later]
        simp only [amset, amlib, zset, a0, a1, eq_self, ↓reduceIte, reduceCtorEq, Nat.reduceBEq, Nat.reduceEqDiff, Nat.reduceAdd, Nat.reduceMul, Nat.reduceLeDiff, Nat.reduceLT, Nat.reduceSub]
        refine hK39 _ ?_
        clear hK39
        refine aw_cond (t := true) rfl (fun _ => ?_) (fun h => nomatch h)
        refine aw_ops zT fun K40 hK40 => ?_
        simp only [amset, amlib, zset, eq_self, ↓reduceIte, reduceCtorEq, Nat.reduceBEq, Nat.reduceEqDiff, Nat.reduceAdd, Nat.reduceMul, Nat.reduceLeDiff, Nat.reduceLT, Nat.reduceSub]
        refine hK40 _ ?_
        clear hK40
        refine aw_ret ?_
        show resOf zG _ [.tmp 2] = some _
        simp only [amset, amlib, zset, eq_self, ↓reduceIte, reduceCtorEq, Nat.reduceBEq, Nat.reduceEqDiff, Nat.reduceAdd, Nat.reduceMul, Nat.reduceLeDiff, Nat.reduceLT, Nat.reduceSub]
        have hf : p.consts.all okC = false := by
          rw [harg, List.all_append, List.all_cons]
          have : okC y = false := by simp only [okC, a0, a1, Bool.true_or, Bool.or_true, Bool.false_or, Bool.or_false, Bool.true_and, Bool.and_true, Bool.false_and, Bool.and_false, Bool.not_true, Bool.not_false, if_true, if_false, ↓reduceIte, Bool.false_eq_true]
          rw [this]; simp
        simp only [wfP, hf, Bool.true_or, Bool.or_true, Bool.false_or, Bool.or_false, Bool.true_and, Bool.and_true, Bool.false_and, Bool.and_false, Bool.not_true, Bool.not_false, if_true, if_false, ↓reduceIte, Bool.false_eq_true]
    | false =>
      simp only [amset, amlib, zset, a0, eq_self, ↓reduceIte, reduceCtorEq, Nat.reduceBEq, Nat.reduceEqDiff, Nat.reduceAdd, Nat.reduceMul, Nat.reduceLeDiff, Nat.reduceLT, Nat.reduceSub]
      refine ⟨_, holds96 _, ?_⟩
      simp only [later]
      simp only [amset, amlib, zset, a0, eq_self, ↓reduceIte, reduceCtorEq, Nat.reduceBEq, Nat.reduceEqDiff, Nat.reduceAdd, Nat.reduceMul, Nat.reduceLeDiff, Nat.reduceLT, Nat.reduceSub]
      refine hK39 _ ?_
      clear hK39
      refine aw_cond (t := true) rfl (fun _ => ?_) (fun h => nomatch h)
      refine aw_ops zT fun K41 hK41 => ?_
      simp only [amset, amlib, zset, eq_self, ↓reduceIte, reduceCtorEq, Nat.reduceBEq, Nat.reduceEqDiff, Nat.reduceAdd, Nat.reduceMul, Nat.reduceLeDiff, Nat.reduceLT, Nat.reduceSub]
      refine hK41 _ ?_
      clear hK41
      refine aw_ret ?_
      show resOf zG _ [.tmp 2] = some _
      simp only [amset, amlib, zset, eq_self, ↓reduceIte, reduceCtorEq, Nat.reduceBEq, Nat.reduceEqDiff, Nat.reduceAdd, Nat.reduceMul, Nat.reduceLeDiff, Nat.reduceLT, Nat.reduceSub]
      have hf : p.consts.all okC = false := by
        rw [harg, List.all_append, List.all_cons]
        have : okC y = false := by simp only [okC, a0, Bool.true_or, Bool.or_true, Bool.false_or, Bool.or_false, Bool.true_and, Bool.and_true, Bool.false_and, Bool.and_false, Bool.not_true, Bool.not_false, if_true, if_false, ↓reduceIte, Bool.false_eq_true]
        rw [this]; simp
      simp only [wfP, hf, Bool.true_or, Bool.or_true, Bool.false_or, Bool.or_false, Bool.true_and, Bool.and_true, Bool.false_and, Bool.and_false, Bool.not_true, Bool.not_false, if_true, if_false, ↓reduceIte, Bool.false_eq_true]
end Go.Proofs.Am
