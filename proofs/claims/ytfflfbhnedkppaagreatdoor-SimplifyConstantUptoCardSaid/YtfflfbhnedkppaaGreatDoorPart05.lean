/- Part 5 of a proof that the law holds of every input of the given bulk. -/
import Derived.Test.YtfflfbhnedkppaaGreatDoorPart04
import Derived.Shelf.Strings.Fields
import Derived.Shelf.Strconv.Itoa3
import Derived.Lib.ItoaLen
set_option autoImplicit false
set_option linter.unusedSimpArgs false
set_option linter.unusedVariables false
set_option linter.unusedSectionVars false
set_option maxRecDepth 100000
namespace Go.Proofs.Am
def kws : List (List UInt8) := [[99, 104, 97, 110, 110, 101, 108],
  [99, 104, 101, 99, 107, 112, 111, 105, 110, 116],
  [99, 111, 110, 115, 116],
  [100, 101, 97, 100, 108, 105, 110, 101],
  [101, 108, 115, 101],
  [101, 109, 105, 116],
  [101, 118, 101, 114, 121],
  [102, 114, 101, 115, 104],
  [105, 102],
  [108, 101, 116],
  [111, 110],
  [111, 117, 116, 112, 117, 116],
  [114, 101, 97, 100],
  [114, 101, 112, 101, 97, 116],
  [114, 101, 116, 117, 114, 110],
  [115, 101, 110, 100],
  [115, 101, 110, 115, 111, 114],
  [116, 97, 115, 107],
  [116, 111, 103, 101, 116, 104, 101, 114],
  [118, 97, 114],
  [119, 104, 105, 108, 101],
  [119, 105, 116, 104, 105, 110]]
theorem prog148 : Tryz.prog.funcs[148]? = some Tryz.f148 := by kernel_rfl
theorem holds148  : Holds Tryz.prog zG 148 [] [.c (.sl 1 (encStrs kws))] := by
  refine holds_of_body zT prog148 rfl rfl rfl (by simp [Tryz.f148]) ?_
  refine aw_ops zT fun K1 hK1 => ?_
  simp only [amset, amlib, zset, eq_self, ↓reduceIte, reduceCtorEq, Nat.reduceBEq, Nat.reduceEqDiff, Nat.reduceAdd, Nat.reduceMul, Nat.reduceLeDiff, Nat.reduceLT, Nat.reduceSub]
  refine hK1 _ ?_
  clear hK1
  refine aw_ops zT fun K2 hK2 => ?_
  simp only [amset, amlib, zset, eq_self, ↓reduceIte, reduceCtorEq, Nat.reduceBEq, Nat.reduceEqDiff, Nat.reduceAdd, Nat.reduceMul, Nat.reduceLeDiff, Nat.reduceLT, Nat.reduceSub]
  refine hK2 _ ?_
  clear hK2
  refine aw_ret ?_
  show resOf zG _ [.tmp 0] = some _
  simp only [amset, amlib, zset, eq_self, ↓reduceIte, reduceCtorEq, Nat.reduceBEq, Nat.reduceEqDiff, Nat.reduceAdd, Nat.reduceMul, Nat.reduceLeDiff, Nat.reduceLT, Nat.reduceSub]
  rfl
end Go.Proofs.Am
set_option maxRecDepth 100000
namespace Go.Proofs.Am
def isLetter (y : UInt8) : Bool := (decide ((y.toNat : Int) ≥ 97) && decide ((y.toNat : Int) ≤ 122)) || (decide ((y.toNat : Int) ≥ 65) && decide ((y.toNat : Int) ≤ 90)) || ((y.toNat : Int) == 95)
def okB (i : Nat) (y : UInt8) : Bool := isLetter y || (!((i : Int) == 0) && !decide ((y.toNat : Int) < 48) && !decide ((y.toNat : Int) > 57))
def bytesOk : Nat → List UInt8 → Bool
  | _, [] => true
  | i, c :: r => okB i c && bytesOk (i + 1) r
theorem bytesOk_append (a b : List UInt8) (i : Nat) : bytesOk i (a ++ b) = (bytesOk i a && bytesOk (i + a.length) b) := by
  induction a generalizing i with
  | nil => simp [bytesOk]
  | cons x r ih => simp [bytesOk, ih, Bool.and_assoc, Nat.add_assoc, Nat.add_comm 1]
def ident (s : List UInt8) : Bool := kws.all (fun k => !(s == k)) && bytesOk 0 s && decide ((s.length : Int) ≥ 1) && decide ((s.length : Int) ≤ 32)
theorem prog74 : Tryz.prog.funcs[74]? = some Tryz.f74 := by kernel_rfl
theorem holds74 (s : List UInt8) : Holds Tryz.prog zG 74 [.c (.str s)] [.c (.bool (ident s))] := by
  refine holds_of_body zT prog74 rfl rfl rfl (by simp [Tryz.f74]) ?_
  refine aw_ops zT fun K1 hK1 => ?_
  simp only [amset, amlib, zset, eq_self, ↓reduceIte, reduceCtorEq, Nat.reduceBEq, Nat.reduceEqDiff, Nat.reduceAdd, Nat.reduceMul, Nat.reduceLeDiff, Nat.reduceLT, Nat.reduceSub]
  refine hK1 _ ?_
  clear hK1
  refine aw_seq fun K2 hK2 => ?_
  refine aw_ops zT fun K3 hK3 => ?_
  simp only [amset, amlib, zset, eq_self, ↓reduceIte, reduceCtorEq, Nat.reduceBEq, Nat.reduceEqDiff, Nat.reduceAdd, Nat.reduceMul, Nat.reduceLeDiff, Nat.reduceLT, Nat.reduceSub]
  refine ⟨_, holds148, ?_⟩
  simp only [amset, later, amlib, zset, eq_self, ↓reduceIte, reduceCtorEq, Nat.reduceBEq, Nat.reduceEqDiff, Nat.reduceAdd, Nat.reduceMul, Nat.reduceLeDiff, Nat.reduceLT, Nat.reduceSub]
  intros
  refine hK3 _ ?_
  clear hK3
  refine aw_block ?_
  refine aw_range (α := (List UInt8)) (kws) (fun dn => dn.all (fun k => !(s == k)) = true) (fun dn => [(10, .cell (.c (.int .i64 dn.length)))]) (fun dn => []) [] [2, 4, 10, 11, 12, 13, 14, 15, 16, 17] [] rfl ?_ ?_ ?_ ?_
  · simp only [amset, amlib, zset, eq_self, ↓reduceIte, reduceCtorEq, Nat.reduceBEq, Nat.reduceEqDiff, Nat.reduceAdd, Nat.reduceMul, Nat.reduceLeDiff, Nat.reduceLT, Nat.reduceSub] <;> simp [eq_self]
  · simp only [amset, amlib, zset, eq_self, ↓reduceIte, reduceCtorEq, Nat.reduceBEq, Nat.reduceEqDiff, Nat.reduceAdd, Nat.reduceMul, Nat.reduceLeDiff, Nat.reduceLT, Nat.reduceSub] <;> simp [eq_self]
  · intro hI R
    refine aw_norm (by simp only [amset, amlib, zset, eq_self, ↓reduceIte, reduceCtorEq, Nat.reduceBEq, Nat.reduceEqDiff, Nat.reduceAdd, Nat.reduceMul, Nat.reduceLeDiff, Nat.reduceLT, Nat.reduceSub]; exact rfl) ?_
    refine aw_ops zT fun K4 hK4 => ?_
    simp only [amset, amlib, zset, eq_self, ↓reduceIte, reduceCtorEq, Nat.reduceBEq, Nat.reduceEqDiff, Nat.reduceAdd, Nat.reduceMul, Nat.reduceLeDiff, Nat.reduceLT, Nat.reduceSub]
    refine hK4 _ ?_
    clear hK4
    refine aw_seq fun K5 hK5 => ?_
    refine aw_cond (t := false) (by simp [evalO, S.get, amLook]) (fun h => nomatch h) (fun _ => ?_)
    refine aw_exit ?_
    simp only [thenQ, blkQ, if_true, reduceIte, Nat.reduceEqDiff, eq_self]
    refine hK2 _ ?_
    clear hK2
    refine aw_seq fun K6 hK6 => ?_
    refine aw_ops zT fun K7 hK7 => ?_
    simp only [amset, amlib, zset, eq_self, ↓reduceIte, reduceCtorEq, Nat.reduceBEq, Nat.reduceEqDiff, Nat.reduceAdd, Nat.reduceMul, Nat.reduceLeDiff, Nat.reduceLT, Nat.reduceSub]
    refine hK7 _ ?_
    clear hK7
    refine aw_block ?_
    refine aw_to ⟨[(0, .cell (.c (.str s))), (5, .cell (.c (.int .i64 0)))], []⟩ ?_ ?_ ?_
    · simp only [amset, amlib, zset, eq_self, ↓reduceIte, reduceCtorEq, Nat.reduceBEq, Nat.reduceEqDiff, Nat.reduceAdd, Nat.reduceMul, Nat.reduceLeDiff, Nat.reduceLT, Nat.reduceSub] <;> simp [eq_self]
    · simp only [amset, amlib, zset, eq_self, ↓reduceIte, reduceCtorEq, Nat.reduceBEq, Nat.reduceEqDiff, Nat.reduceAdd, Nat.reduceMul, Nat.reduceLeDiff, Nat.reduceLT, Nat.reduceSub] <;> simp [eq_self]
    refine aw_range (α := UInt8) (s) (fun dn1 => bytesOk 0 dn1 = true) (fun dn1 => [(5, .cell (.c (.int .i64 dn1.length)))]) (fun dn1 => []) [] [2, 5, 6, 7, 18, 19, 20, 21, 22, 23, 24, 25, 26, 27, 28, 29, 30, 31, 32, 33, 34, 35, 36, 37, 38, 39, 40, 41, 42, 43, 44, 45, 46, 47, 48, 49, 50, 51, 52, 53, 54, 55, 56, 57, 58] [] rfl ?_ ?_ ?_ ?_
    · simp only [amset, amlib, zset, eq_self, ↓reduceIte, reduceCtorEq, Nat.reduceBEq, Nat.reduceEqDiff, Nat.reduceAdd, Nat.reduceMul, Nat.reduceLeDiff, Nat.reduceLT, Nat.reduceSub] <;> simp [eq_self]
    · simp only [amset, amlib, zset, eq_self, ↓reduceIte, reduceCtorEq, Nat.reduceBEq, Nat.reduceEqDiff, Nat.reduceAdd, Nat.reduceMul, Nat.reduceLeDiff, Nat.reduceLT, Nat.reduceSub] <;> simp [eq_self]
    · intro hI1 R1
      refine aw_norm (by simp only [amset, amlib, zset, eq_self, ↓reduceIte, reduceCtorEq, Nat.reduceBEq, Nat.reduceEqDiff, Nat.reduceAdd, Nat.reduceMul, Nat.reduceLeDiff, Nat.reduceLT, Nat.reduceSub]; exact rfl) ?_
      refine aw_seq fun K8 hK8 => ?_
      refine aw_ops zT fun K9 hK9 => ?_
      simp only [amset, amlib, zset, eq_self, ↓reduceIte, reduceCtorEq, Nat.reduceBEq, Nat.reduceEqDiff, Nat.reduceAdd, Nat.reduceMul, Nat.reduceLeDiff, Nat.reduceLT, Nat.reduceSub]
      intros
      refine hK9 _ ?_
      clear hK9
      refine aw_cond (t := false) (by simp [evalO, S.get, amLook]) (fun h => nomatch h) (fun _ => ?_)
      refine aw_exit ?_
      simp only [thenQ, blkQ, if_true, reduceIte, Nat.reduceEqDiff, eq_self]
      refine hK6 _ ?_
      clear hK6
      refine aw_ops zT fun K10 hK10 => ?_
      cases f1 : decide ((s.length : Int) ≥ 1) with
      | true =>
        cases f2 : decide ((s.length : Int) ≤ 32) with
        | true =>
          simp only [amset, amlib, zset, f1, f2, eq_self, ↓reduceIte, reduceCtorEq, Nat.reduceBEq, Nat.reduceEqDiff, Nat.reduceAdd, Nat.reduceMul, Nat.reduceLeDiff, Nat.reduceLT, Nat.reduceSub]
          intros
          intros
          refine hK10 _ ?_
          clear hK10
          refine aw_ret ?_
          show resOf zG _ [.tmp 2] = some _
          simp only [amset, amlib, zset, eq_self, ↓reduceIte, reduceCtorEq, Nat.reduceBEq, Nat.reduceEqDiff, Nat.reduceAdd, Nat.reduceMul, Nat.reduceLeDiff, Nat.reduceLT, Nat.reduceSub]
          simp only [ident, hI, hI1, f1, f2]
          rfl
        | false =>
          simp only [amset, amlib, zset, f1, f2, eq_self, ↓reduceIte, reduceCtorEq, Nat.reduceBEq, Nat.reduceEqDiff, Nat.reduceAdd, Nat.reduceMul, Nat.reduceLeDiff, Nat.reduceLT, Nat.reduceSub]
          intros
          intros
          refine hK10 _ ?_
          clear hK10
          refine aw_ret ?_
          show resOf zG _ [.tmp 2] = some _
          simp only [amset, amlib, zset, eq_self, ↓reduceIte, reduceCtorEq, Nat.reduceBEq, Nat.reduceEqDiff, Nat.reduceAdd, Nat.reduceMul, Nat.reduceLeDiff, Nat.reduceLT, Nat.reduceSub]
          simp only [ident, hI, hI1, f1, f2]
          rfl
      | false =>
        simp only [amset, amlib, zset, f1, eq_self, ↓reduceIte, reduceCtorEq, Nat.reduceBEq, Nat.reduceEqDiff, Nat.reduceAdd, Nat.reduceMul, Nat.reduceLeDiff, Nat.reduceLT, Nat.reduceSub]
        intros
        intros
        refine hK10 _ ?_
        clear hK10
        refine aw_ret ?_
        show resOf zG _ [.tmp 2] = some _
        simp only [amset, amlib, zset, eq_self, ↓reduceIte, reduceCtorEq, Nat.reduceBEq, Nat.reduceEqDiff, Nat.reduceAdd, Nat.reduceMul, Nat.reduceLeDiff, Nat.reduceLT, Nat.reduceSub]
        simp only [ident, hI, hI1, f1]
        rfl
    · intro dn1 y1 td1 harg1 hI1 R1 hR1
      have hl1 : (s).length = dn1.length + (td1.length + 1) := by rw [harg1]; simp
      have hmem1 : y1 ∈ s := by rw [harg1]; simp
      refine aw_norm (by simp only [amset, amlib, zset, eq_self, ↓reduceIte, reduceCtorEq, Nat.reduceBEq, Nat.reduceEqDiff, Nat.reduceAdd, Nat.reduceMul, Nat.reduceLeDiff, Nat.reduceLT, Nat.reduceSub]; exact rfl) ?_
      have hget1 : s.getD dn1.length 0 = y1 := by rw [harg1]; simp
      refine aw_seq fun K11 hK11 => ?_
      refine aw_ops zT fun K12 hK12 => ?_
      simp only [amset, amlib, zset, eq_self, ↓reduceIte, reduceCtorEq, Nat.reduceBEq, Nat.reduceEqDiff, Nat.reduceAdd, Nat.reduceMul, Nat.reduceLeDiff, Nat.reduceLT, Nat.reduceSub]
      intros
      refine hK12 _ ?_
      clear hK12
      refine aw_cond (t := true) (by simp [evalO, S.get, amLook]; omega) (fun _ => ?_) (fun h => nomatch h)
      refine aw_skip ?_
      simp only [thenQ, blkQ, if_true, reduceIte, Nat.reduceEqDiff, eq_self]
      refine hK11 _ ?_
      clear hK11
      refine aw_seq fun K13 hK13 => ?_
      refine aw_block ?_
      refine aw_ops zT fun K14 hK14 => ?_
      simp only [amset, amlib, zset, hget1, eq_self, ↓reduceIte, reduceCtorEq, Nat.reduceBEq, Nat.reduceEqDiff, Nat.reduceAdd, Nat.reduceMul, Nat.reduceLeDiff, Nat.reduceLT, Nat.reduceSub]
      refine ⟨⟨by omega, by omega⟩, ?_⟩
      refine hK14 _ ?_
      clear hK14
      refine aw_ops zT fun K15 hK15 => ?_
      have keyK15 : ∀ E B, envIn E ([(0, .cell (.c (.str s))), (5, .cell (.c (.int .i64 dn1.length))), (6, .cell (.c (.int .u8 y1.toNat))), (7, .cell (.c (.bool (isLetter y1))))] : List (Nat × V)) → envIn B ([] : List (Nat × List Cell)) → K15 ⟨E, B⟩ := by
        intro E B he hb
        refine hK15 _ (aw_to ⟨[(0, .cell (.c (.str s))), (5, .cell (.c (.int .i64 dn1.length))), (6, .cell (.c (.int .u8 y1.toNat))), (7, .cell (.c (.bool (isLetter y1))))], []⟩ he hb ?_)
        refine aw_ops zT fun K16 hK16 => ?_
        cases l : isLetter y1 with
        | true =>
          simp only [amset, amlib, zset, l, eq_self, ↓reduceIte, reduceCtorEq, Nat.reduceBEq, Nat.reduceEqDiff, Nat.reduceAdd, Nat.reduceMul, Nat.reduceLeDiff, Nat.reduceLT, Nat.reduceSub]
          refine hK16 _ ?_
          clear hK16
          refine aw_cond (t := false) rfl (fun h => nomatch h) (fun _ => ?_)
          refine aw_skip ?_
          simp only [thenQ, blkQ, if_true, reduceIte, Nat.reduceEqDiff, eq_self]
          refine hK13 _ ?_
          clear hK13
          refine aw_region zT ?_
          simp only [amset, amlib, zset, eq_self, ↓reduceIte, reduceCtorEq, Nat.reduceBEq, Nat.reduceEqDiff, Nat.reduceAdd, Nat.reduceMul, Nat.reduceLeDiff, Nat.reduceLT, Nat.reduceSub]
          refine ⟨⟨by omega, by omega⟩, ?_⟩
          refine hR1 _ (by rw [bytesOk_append, hI1]; simp only [bytesOk, okB, Nat.zero_add]; simp only [l]; rfl) ?_
          refine Reach.to ?_ ?_
          · simp only [amset, amlib, zset, eq_self, ↓reduceIte, reduceCtorEq, Nat.reduceBEq, Nat.reduceEqDiff, Nat.reduceAdd, Nat.reduceMul, Nat.reduceLeDiff, Nat.reduceLT, Nat.reduceSub] <;> simp [eq_self]
          · simp only [amset, amlib, zset, eq_self, ↓reduceIte, reduceCtorEq, Nat.reduceBEq, Nat.reduceEqDiff, Nat.reduceAdd, Nat.reduceMul, Nat.reduceLeDiff, Nat.reduceLT, Nat.reduceSub] <;> simp [eq_self]
        | false =>
          cases e1 : ((dn1.length : Int) == 0) with
          | true =>
            simp only [amset, amlib, zset, l, e1, eq_self, ↓reduceIte, reduceCtorEq, Nat.reduceBEq, Nat.reduceEqDiff, Nat.reduceAdd, Nat.reduceMul, Nat.reduceLeDiff, Nat.reduceLT, Nat.reduceSub]
            refine hK16 _ ?_
            clear hK16
            refine aw_cond (t := true) rfl (fun _ => ?_) (fun h => nomatch h)
            refine aw_ops zT fun K17 hK17 => ?_
            simp only [amset, amlib, zset, eq_self, ↓reduceIte, reduceCtorEq, Nat.reduceBEq, Nat.reduceEqDiff, Nat.reduceAdd, Nat.reduceMul, Nat.reduceLeDiff, Nat.reduceLT, Nat.reduceSub]
            refine hK17 _ ?_
            clear hK17
            refine aw_ret ?_
            show resOf zG _ [.tmp 2] = some _
            simp only [amset, amlib, zset, eq_self, ↓reduceIte, reduceCtorEq, Nat.reduceBEq, Nat.reduceEqDiff, Nat.reduceAdd, Nat.reduceMul, Nat.reduceLeDiff, Nat.reduceLT, Nat.reduceSub]
            have hb : bytesOk 0 s = false := by
              rw [harg1, bytesOk_append]
              simp only [bytesOk, okB, Nat.zero_add, l, e1]
              simp
            simp [ident, hb]
          | false =>
            cases e2 : decide ((y1.toNat : Int) < 48) with
            | true =>
              simp only [amset, amlib, zset, l, e1, e2, eq_self, ↓reduceIte, reduceCtorEq, Nat.reduceBEq, Nat.reduceEqDiff, Nat.reduceAdd, Nat.reduceMul, Nat.reduceLeDiff, Nat.reduceLT, Nat.reduceSub]
              refine hK16 _ ?_
              clear hK16
              refine aw_cond (t := true) rfl (fun _ => ?_) (fun h => nomatch h)
              refine aw_ops zT fun K18 hK18 => ?_
              simp only [amset, amlib, zset, eq_self, ↓reduceIte, reduceCtorEq, Nat.reduceBEq, Nat.reduceEqDiff, Nat.reduceAdd, Nat.reduceMul, Nat.reduceLeDiff, Nat.reduceLT, Nat.reduceSub]
              refine hK18 _ ?_
              clear hK18
              refine aw_ret ?_
              show resOf zG _ [.tmp 2] = some _
              simp only [amset, amlib, zset, eq_self, ↓reduceIte, reduceCtorEq, Nat.reduceBEq, Nat.reduceEqDiff, Nat.reduceAdd, Nat.reduceMul, Nat.reduceLeDiff, Nat.reduceLT, Nat.reduceSub]
              have hb : bytesOk 0 s = false := by
                rw [harg1, bytesOk_append]
                simp only [bytesOk, okB, Nat.zero_add, l, e1, e2]
                simp
              simp [ident, hb]
            | false =>
              cases e3 : decide ((y1.toNat : Int) > 57) with
              | true =>
                simp only [amset, amlib, zset, l, e1, e2, e3, eq_self, ↓reduceIte, reduceCtorEq, Nat.reduceBEq, Nat.reduceEqDiff, Nat.reduceAdd, Nat.reduceMul, Nat.reduceLeDiff, Nat.reduceLT, Nat.reduceSub]
                refine hK16 _ ?_
                clear hK16
                refine aw_cond (t := true) rfl (fun _ => ?_) (fun h => nomatch h)
                refine aw_ops zT fun K19 hK19 => ?_
                simp only [amset, amlib, zset, eq_self, ↓reduceIte, reduceCtorEq, Nat.reduceBEq, Nat.reduceEqDiff, Nat.reduceAdd, Nat.reduceMul, Nat.reduceLeDiff, Nat.reduceLT, Nat.reduceSub]
                refine hK19 _ ?_
                clear hK19
                refine aw_ret ?_
                show resOf zG _ [.tmp 2] = some _
                simp only [amset, amlib, zset, eq_self, ↓reduceIte, reduceCtorEq, Nat.reduceBEq, Nat.reduceEqDiff, Nat.reduceAdd, Nat.reduceMul, Nat.reduceLeDiff, Nat.reduceLT, Nat.reduceSub]
                have hb : bytesOk 0 s = false := by
                  rw [harg1, bytesOk_append]
                  simp only [bytesOk, okB, Nat.zero_add, l, e1, e2, e3]
                  simp
                simp [ident, hb]
              | false =>
                simp only [amset, amlib, zset, l, e1, e2, e3, eq_self, ↓reduceIte, reduceCtorEq, Nat.reduceBEq, Nat.reduceEqDiff, Nat.reduceAdd, Nat.reduceMul, Nat.reduceLeDiff, Nat.reduceLT, Nat.reduceSub]
                refine hK16 _ ?_
                clear hK16
                refine aw_cond (t := false) rfl (fun h => nomatch h) (fun _ => ?_)
                refine aw_skip ?_
                simp only [thenQ, blkQ, if_true, reduceIte, Nat.reduceEqDiff, eq_self]
                refine hK13 _ ?_
                clear hK13
                refine aw_region zT ?_
                simp only [amset, amlib, zset, eq_self, ↓reduceIte, reduceCtorEq, Nat.reduceBEq, Nat.reduceEqDiff, Nat.reduceAdd, Nat.reduceMul, Nat.reduceLeDiff, Nat.reduceLT, Nat.reduceSub]
                refine ⟨⟨by omega, by omega⟩, ?_⟩
                refine hR1 _ (by rw [bytesOk_append, hI1]; simp only [bytesOk, okB, Nat.zero_add]; simp only [l, e1, e2, e3]; rfl) ?_
                refine Reach.to ?_ ?_
                · simp only [amset, amlib, zset, eq_self, ↓reduceIte, reduceCtorEq, Nat.reduceBEq, Nat.reduceEqDiff, Nat.reduceAdd, Nat.reduceMul, Nat.reduceLeDiff, Nat.reduceLT, Nat.reduceSub] <;> simp [eq_self]
                · simp only [amset, amlib, zset, eq_self, ↓reduceIte, reduceCtorEq, Nat.reduceBEq, Nat.reduceEqDiff, Nat.reduceAdd, Nat.reduceMul, Nat.reduceLeDiff, Nat.reduceLT, Nat.reduceSub] <;> simp [eq_self]
      cases a1 : decide ((y1.toNat : Int) ≥ 97) with
      | true =>
        cases a2 : decide ((y1.toNat : Int) ≤ 122) with
        | true =>
          simp only [amset, amlib, zset, a1, a2, eq_self, ↓reduceIte, reduceCtorEq, Nat.reduceBEq, Nat.reduceEqDiff, Nat.reduceAdd, Nat.reduceMul, Nat.reduceLeDiff, Nat.reduceLT, Nat.reduceSub]
          refine keyK15 _ _ ?_ ?_
          · simp only [amset, amlib, zset, eq_self, ↓reduceIte, reduceCtorEq, Nat.reduceBEq, Nat.reduceEqDiff, Nat.reduceAdd, Nat.reduceMul, Nat.reduceLeDiff, Nat.reduceLT, Nat.reduceSub] <;> simp [isLetter, a1, a2]
          · simp only [amset, amlib, zset, eq_self, ↓reduceIte, reduceCtorEq, Nat.reduceBEq, Nat.reduceEqDiff, Nat.reduceAdd, Nat.reduceMul, Nat.reduceLeDiff, Nat.reduceLT, Nat.reduceSub]
        | false =>
          cases b1 : decide ((y1.toNat : Int) ≥ 65) with
          | true =>
            cases b2 : decide ((y1.toNat : Int) ≤ 90) with
            | true =>
              simp only [amset, amlib, zset, a1, a2, b1, b2, eq_self, ↓reduceIte, reduceCtorEq, Nat.reduceBEq, Nat.reduceEqDiff, Nat.reduceAdd, Nat.reduceMul, Nat.reduceLeDiff, Nat.reduceLT, Nat.reduceSub]
              refine keyK15 _ _ ?_ ?_
              · simp only [amset, amlib, zset, eq_self, ↓reduceIte, reduceCtorEq, Nat.reduceBEq, Nat.reduceEqDiff, Nat.reduceAdd, Nat.reduceMul, Nat.reduceLeDiff, Nat.reduceLT, Nat.reduceSub] <;> simp [isLetter, a1, a2, b1, b2]
              · simp only [amset, amlib, zset, eq_self, ↓reduceIte, reduceCtorEq, Nat.reduceBEq, Nat.reduceEqDiff, Nat.reduceAdd, Nat.reduceMul, Nat.reduceLeDiff, Nat.reduceLT, Nat.reduceSub]
            | false =>
              cases d : ((y1.toNat : Int) == 95) with
              | true =>
                simp only [amset, amlib, zset, a1, a2, b1, b2, d, eq_self, ↓reduceIte, reduceCtorEq, Nat.reduceBEq, Nat.reduceEqDiff, Nat.reduceAdd, Nat.reduceMul, Nat.reduceLeDiff, Nat.reduceLT, Nat.reduceSub]
                refine keyK15 _ _ ?_ ?_
                · simp only [amset, amlib, zset, eq_self, ↓reduceIte, reduceCtorEq, Nat.reduceBEq, Nat.reduceEqDiff, Nat.reduceAdd, Nat.reduceMul, Nat.reduceLeDiff, Nat.reduceLT, Nat.reduceSub] <;> simp [isLetter, a1, a2, b1, b2, d]
                · simp only [amset, amlib, zset, eq_self, ↓reduceIte, reduceCtorEq, Nat.reduceBEq, Nat.reduceEqDiff, Nat.reduceAdd, Nat.reduceMul, Nat.reduceLeDiff, Nat.reduceLT, Nat.reduceSub]
              | false =>
                simp only [amset, amlib, zset, a1, a2, b1, b2, d, eq_self, ↓reduceIte, reduceCtorEq, Nat.reduceBEq, Nat.reduceEqDiff, Nat.reduceAdd, Nat.reduceMul, Nat.reduceLeDiff, Nat.reduceLT, Nat.reduceSub]
                refine keyK15 _ _ ?_ ?_
                · simp only [amset, amlib, zset, eq_self, ↓reduceIte, reduceCtorEq, Nat.reduceBEq, Nat.reduceEqDiff, Nat.reduceAdd, Nat.reduceMul, Nat.reduceLeDiff, Nat.reduceLT, Nat.reduceSub] <;> simp [isLetter, a1, a2, b1, b2, d]
                · simp only [amset, amlib, zset, eq_self, ↓reduceIte, reduceCtorEq, Nat.reduceBEq, Nat.reduceEqDiff, Nat.reduceAdd, Nat.reduceMul, Nat.reduceLeDiff, Nat.reduceLT, Nat.reduceSub]
          | false =>
            cases d : ((y1.toNat : Int) == 95) with
            | true =>
              simp only [amset, amlib, zset, a1, a2, b1, d, eq_self, ↓reduceIte, reduceCtorEq, Nat.reduceBEq, Nat.reduceEqDiff, Nat.reduceAdd, Nat.reduceMul, Nat.reduceLeDiff, Nat.reduceLT, Nat.reduceSub]
              refine keyK15 _ _ ?_ ?_
              · simp only [amset, amlib, zset, eq_self, ↓reduceIte, reduceCtorEq, Nat.reduceBEq, Nat.reduceEqDiff, Nat.reduceAdd, Nat.reduceMul, Nat.reduceLeDiff, Nat.reduceLT, Nat.reduceSub] <;> simp [isLetter, a1, a2, b1, d]
              · simp only [amset, amlib, zset, eq_self, ↓reduceIte, reduceCtorEq, Nat.reduceBEq, Nat.reduceEqDiff, Nat.reduceAdd, Nat.reduceMul, Nat.reduceLeDiff, Nat.reduceLT, Nat.reduceSub]
            | false =>
              simp only [amset, amlib, zset, a1, a2, b1, d, eq_self, ↓reduceIte, reduceCtorEq, Nat.reduceBEq, Nat.reduceEqDiff, Nat.reduceAdd, Nat.reduceMul, Nat.reduceLeDiff, Nat.reduceLT, Nat.reduceSub]
              refine keyK15 _ _ ?_ ?_
              · simp only [amset, amlib, zset, eq_self, ↓reduceIte, reduceCtorEq, Nat.reduceBEq, Nat.reduceEqDiff, Nat.reduceAdd, Nat.reduceMul, Nat.reduceLeDiff, Nat.reduceLT, Nat.reduceSub] <;> simp [isLetter, a1, a2, b1, d]
              · simp only [amset, amlib, zset, eq_self, ↓reduceIte, reduceCtorEq, Nat.reduceBEq, Nat.reduceEqDiff, Nat.reduceAdd, Nat.reduceMul, Nat.reduceLeDiff, Nat.reduceLT, Nat.reduceSub]
      | false =>
        cases b1 : decide ((y1.toNat : Int) ≥ 65) with
        | true =>
          cases b2 : decide ((y1.toNat : Int) ≤ 90) with
          | true =>
            simp only [amset, amlib, zset, a1, b1, b2, eq_self, ↓reduceIte, reduceCtorEq, Nat.reduceBEq, Nat.reduceEqDiff, Nat.reduceAdd, Nat.reduceMul, Nat.reduceLeDiff, Nat.reduceLT, Nat.reduceSub]
            refine keyK15 _ _ ?_ ?_
            · simp only [amset, amlib, zset, eq_self, ↓reduceIte, reduceCtorEq, Nat.reduceBEq, Nat.reduceEqDiff, Nat.reduceAdd, Nat.reduceMul, Nat.reduceLeDiff, Nat.reduceLT, Nat.reduceSub] <;> simp [isLetter, a1, b1, b2]
            · simp only [amset, amlib, zset, eq_self, ↓reduceIte, reduceCtorEq, Nat.reduceBEq, Nat.reduceEqDiff, Nat.reduceAdd, Nat.reduceMul, Nat.reduceLeDiff, Nat.reduceLT, Nat.reduceSub]
          | false =>
            cases d : ((y1.toNat : Int) == 95) with
            | true =>
              simp only [amset, amlib, zset, a1, b1, b2, d, eq_self, ↓reduceIte, reduceCtorEq, Nat.reduceBEq, Nat.reduceEqDiff, Nat.reduceAdd, Nat.reduceMul, Nat.reduceLeDiff, Nat.reduceLT, Nat.reduceSub]
              refine keyK15 _ _ ?_ ?_
              · simp only [amset, amlib, zset, eq_self, ↓reduceIte, reduceCtorEq, Nat.reduceBEq, Nat.reduceEqDiff, Nat.reduceAdd, Nat.reduceMul, Nat.reduceLeDiff, Nat.reduceLT, Nat.reduceSub] <;> simp [isLetter, a1, b1, b2, d]
              · simp only [amset, amlib, zset, eq_self, ↓reduceIte, reduceCtorEq, Nat.reduceBEq, Nat.reduceEqDiff, Nat.reduceAdd, Nat.reduceMul, Nat.reduceLeDiff, Nat.reduceLT, Nat.reduceSub]
            | false =>
              simp only [amset, amlib, zset, a1, b1, b2, d, eq_self, ↓reduceIte, reduceCtorEq, Nat.reduceBEq, Nat.reduceEqDiff, Nat.reduceAdd, Nat.reduceMul, Nat.reduceLeDiff, Nat.reduceLT, Nat.reduceSub]
              refine keyK15 _ _ ?_ ?_
              · simp only [amset, amlib, zset, eq_self, ↓reduceIte, reduceCtorEq, Nat.reduceBEq, Nat.reduceEqDiff, Nat.reduceAdd, Nat.reduceMul, Nat.reduceLeDiff, Nat.reduceLT, Nat.reduceSub] <;> simp [isLetter, a1, b1, b2, d]
              · simp only [amset, amlib, zset, eq_self, ↓reduceIte, reduceCtorEq, Nat.reduceBEq, Nat.reduceEqDiff, Nat.reduceAdd, Nat.reduceMul, Nat.reduceLeDiff, Nat.reduceLT, Nat.reduceSub]
        | false =>
          cases d : ((y1.toNat : Int) == 95) with
          | true =>
            simp only [amset, amlib, zset, a1, b1, d, eq_self, ↓reduceIte, reduceCtorEq, Nat.reduceBEq, Nat.reduceEqDiff, Nat.reduceAdd, Nat.reduceMul, Nat.reduceLeDiff, Nat.reduceLT, Nat.reduceSub]
            refine keyK15 _ _ ?_ ?_
            · simp only [amset, amlib, zset, eq_self, ↓reduceIte, reduceCtorEq, Nat.reduceBEq, Nat.reduceEqDiff, Nat.reduceAdd, Nat.reduceMul, Nat.reduceLeDiff, Nat.reduceLT, Nat.reduceSub] <;> simp [isLetter, a1, b1, d]
            · simp only [amset, amlib, zset, eq_self, ↓reduceIte, reduceCtorEq, Nat.reduceBEq, Nat.reduceEqDiff, Nat.reduceAdd, Nat.reduceMul, Nat.reduceLeDiff, Nat.reduceLT, Nat.reduceSub]
          | false =>
            simp only [amset, amlib, zset, a1, b1, d, eq_self, ↓reduceIte, reduceCtorEq, Nat.reduceBEq, Nat.reduceEqDiff, Nat.reduceAdd, Nat.reduceMul, Nat.reduceLeDiff, Nat.reduceLT, Nat.reduceSub]
            refine keyK15 _ _ ?_ ?_
            · simp only [amset, amlib, zset, eq_self, ↓reduceIte, reduceCtorEq, Nat.reduceBEq, Nat.reduceEqDiff, Nat.reduceAdd, Nat.reduceMul, Nat.reduceLeDiff, Nat.reduceLT, Nat.reduceSub] <;> simp [isLetter, a1, b1, d]
            · simp only [amset, amlib, zset, eq_self, ↓reduceIte, reduceCtorEq, Nat.reduceBEq, Nat.reduceEqDiff, Nat.reduceAdd, Nat.reduceMul, Nat.reduceLeDiff, Nat.reduceLT, Nat.reduceSub]
  · intro dn y td harg hI R hR
    have hl : (kws).length = dn.length + (td.length + 1) := by rw [harg]; simp
    have hmem : y ∈ kws := by rw [harg]; simp
    refine aw_norm (by simp only [amset, amlib, zset, eq_self, ↓reduceIte, reduceCtorEq, Nat.reduceBEq, Nat.reduceEqDiff, Nat.reduceAdd, Nat.reduceMul, Nat.reduceLeDiff, Nat.reduceLT, Nat.reduceSub]; exact rfl) ?_
    have hget : (encStrs (kws)).getD dn.length [] = encStr y := by rw [harg]; exact encStrs_mid dn td y
    refine aw_ops zT fun K20 hK20 => ?_
    simp only [amset, amlib, zset, eq_self, ↓reduceIte, reduceCtorEq, Nat.reduceBEq, Nat.reduceEqDiff, Nat.reduceAdd, Nat.reduceMul, Nat.reduceLeDiff, Nat.reduceLT, Nat.reduceSub]
    refine hK20 _ ?_
    clear hK20
    refine aw_seq fun K21 hK21 => ?_
    refine aw_cond (t := true) (by simp [evalO, S.get, amLook]; omega) (fun _ => ?_) (fun h => nomatch h)
    refine aw_skip ?_
    simp only [thenQ, blkQ, if_true, reduceIte, Nat.reduceEqDiff, eq_self]
    refine hK21 _ ?_
    clear hK21
    refine aw_seq fun K22 hK22 => ?_
    refine aw_block ?_
    refine aw_ops zT fun K23 hK23 => ?_
    simp only [amset, amlib, zset, hget, eq_self, ↓reduceIte, reduceCtorEq, Nat.reduceBEq, Nat.reduceEqDiff, Nat.reduceAdd, Nat.reduceMul, Nat.reduceLeDiff, Nat.reduceLT, Nat.reduceSub]
    refine ⟨⟨by omega, by omega⟩, ?_⟩
    refine hK23 _ ?_
    clear hK23
    refine aw_ops zT fun K24 hK24 => ?_
    simp only [amset, amlib, zset, eq_self, ↓reduceIte, reduceCtorEq, Nat.reduceBEq, Nat.reduceEqDiff, Nat.reduceAdd, Nat.reduceMul, Nat.reduceLeDiff, Nat.reduceLT, Nat.reduceSub]
    refine hK24 _ ?_
    clear hK24
    refine aw_cond rfl (fun h0 => ?_) (fun h0 => ?_)
    · skip
      refine aw_ops zT fun K25 hK25 => ?_
      simp only [amset, amlib, zset, eq_self, ↓reduceIte, reduceCtorEq, Nat.reduceBEq, Nat.reduceEqDiff, Nat.reduceAdd, Nat.reduceMul, Nat.reduceLeDiff, Nat.reduceLT, Nat.reduceSub]
      refine hK25 _ ?_
      clear hK25
      refine aw_ret ?_
      show resOf zG _ [.tmp 2] = some _
      simp only [amset, amlib, zset, eq_self, ↓reduceIte, reduceCtorEq, Nat.reduceBEq, Nat.reduceEqDiff, Nat.reduceAdd, Nat.reduceMul, Nat.reduceLeDiff, Nat.reduceLT, Nat.reduceSub]
      have hk : kws.all (fun k => !(s == k)) = false := by
        rw [harg, List.all_append]
        simp only [List.all_cons, h0, Bool.not_true, Bool.false_and, Bool.and_false]
      simp only [ident, hk]
      rfl
    · skip
      refine aw_skip ?_
      simp only [thenQ, blkQ, if_true, reduceIte, Nat.reduceEqDiff, eq_self]
      refine hK22 _ ?_
      clear hK22
      refine aw_region zT ?_
      simp only [amset, amlib, zset, eq_self, ↓reduceIte, reduceCtorEq, Nat.reduceBEq, Nat.reduceEqDiff, Nat.reduceAdd, Nat.reduceMul, Nat.reduceLeDiff, Nat.reduceLT, Nat.reduceSub]
      refine ⟨⟨by omega, by omega⟩, ?_⟩
      refine hR _ (by rw [List.all_append, hI]; simpa using h0) ?_
      refine Reach.to ?_ ?_
      · simp only [amset, amlib, zset, eq_self, ↓reduceIte, reduceCtorEq, Nat.reduceBEq, Nat.reduceEqDiff, Nat.reduceAdd, Nat.reduceMul, Nat.reduceLeDiff, Nat.reduceLT, Nat.reduceSub] <;> simp [eq_self]
      · simp only [amset, amlib, zset, eq_self, ↓reduceIte, reduceCtorEq, Nat.reduceBEq, Nat.reduceEqDiff, Nat.reduceAdd, Nat.reduceMul, Nat.reduceLeDiff, Nat.reduceLT, Nat.reduceSub] <;> simp [eq_self]
end Go.Proofs.Am
set_option maxRecDepth 100000
set_option maxHeartbeats 4000000
namespace Go.Proofs
def Tryz.laysM171_ren : Go.Shelf.Ren := ⟨fun | 171 => 86 | 243 => 159 | 246 => 199 | 283 => 226 | 284 => 227 | 285 => 228 | 286 => 229 | 129 => 240 | 317 => 239 | 318 => 241 | 319 => 242 | 320 => 243 | 337 => 246 | 338 => 247 | n => n, fun | 3 => 3 | 9 => 9 | 2 => 2 | 4 => 4 | 171 => 245 | 0 => 0 | 53 => 246 | 37 => 115 | 5 => 5 | 173 => 249 | 212 => 262 | 51 => 263 | 20 => 20 | 213 => 264 | 46 => 265 | 232 => 284 | 233 => 285 | n => n, fun | 17 => 4 | 18 => 6 | 19 => 7 | n => n⟩
theorem Tryz.laysM171 : Go.Proofs.LaysM.n171 Tryz.prog Tryz.laysM171_ren := {
  mixed := by kernel_rfl
  f129 := Tryz.func240.trans (congrArg some (by kernel_rfl))
  f171 := Tryz.func86.trans (congrArg some (by kernel_rfl))
  f243 := Tryz.func159.trans (congrArg some (by kernel_rfl))
  f246 := Tryz.func199.trans (congrArg some (by kernel_rfl))
  f283 := Tryz.func226.trans (congrArg some (by kernel_rfl))
  f284 := Tryz.func227.trans (congrArg some (by kernel_rfl))
  f285 := Tryz.func228.trans (congrArg some (by kernel_rfl))
  f286 := Tryz.func229.trans (congrArg some (by kernel_rfl))
  f317 := Tryz.func239.trans (congrArg some (by kernel_rfl))
  f318 := Tryz.func241.trans (congrArg some (by kernel_rfl))
  f319 := Tryz.func242.trans (congrArg some (by kernel_rfl))
  f320 := Tryz.func243.trans (congrArg some (by kernel_rfl))
  f337 := Tryz.func246.trans (congrArg some (by kernel_rfl))
  f338 := Tryz.func247.trans (congrArg some (by kernel_rfl))
  t0 := Tryz.underlying0
  a0 := Tryz.isAgg0
  z0 := Tryz.sizeOf0
  v0 := Tryz.zeroValue0
  t2 := Tryz.underlying2
  a2 := Tryz.isAgg2
  z2 := Tryz.sizeOf2
  v2 := Tryz.zeroValue2
  t3 := Tryz.underlying3
  a3 := Tryz.isAgg3
  z3 := Tryz.sizeOf3
  v3 := Tryz.zeroValue3
  t4 := Tryz.underlying4
  a4 := Tryz.isAgg4
  z4 := Tryz.sizeOf4
  v4 := Tryz.zeroValue4
  t5 := Tryz.underlying5
  a5 := Tryz.isAgg5
  z5 := Tryz.sizeOf5
  v5 := Tryz.zeroValue5
  t9 := Tryz.underlying9
  a9 := Tryz.isAgg9
  z9 := Tryz.sizeOf9
  v9 := Tryz.zeroValue9
  t20 := Tryz.underlying20
  a20 := Tryz.isAgg20
  z20 := Tryz.sizeOf20
  v20 := Tryz.zeroValue20
  t37 := Tryz.underlying115
  a37 := Tryz.isAgg115
  z37 := Tryz.sizeOf115
  v37 := Tryz.zeroValue115
  t46 := Tryz.underlying265
  a46 := Tryz.isAgg265
  z46 := Tryz.sizeOf265
  v46 := Tryz.zeroValue265
  t51 := Tryz.underlying263
  a51 := Tryz.isAgg263
  z51 := Tryz.sizeOf263
  v51 := Tryz.zeroValue263
  t53 := Tryz.underlying246
  a53 := Tryz.isAgg246
  z53 := Tryz.sizeOf246
  v53 := Tryz.zeroValue246
  t171 := Tryz.underlying245
  a171 := Tryz.isAgg245
  z171 := Tryz.sizeOf245
  v171 := Tryz.zeroValue245
  t173 := Tryz.underlying249
  a173 := Tryz.isAgg249
  z173 := Tryz.sizeOf249
  v173 := Tryz.zeroValue249
  t212 := Tryz.underlying262
  a212 := Tryz.isAgg262
  z212 := Tryz.sizeOf262
  v212 := Tryz.zeroValue262
  t213 := Tryz.underlying264
  a213 := Tryz.isAgg264
  z213 := Tryz.sizeOf264
  t232 := Tryz.underlying284
  a232 := Tryz.isAgg284
  z232 := Tryz.sizeOf284
  v232 := Tryz.zeroValue284
  t233 := Tryz.underlying285
  a233 := Tryz.isAgg285
  z233 := Tryz.sizeOf285
  v233 := Tryz.zeroValue285
  g17 := by kernel_rfl
  g18 := by kernel_rfl
  g19 := by kernel_rfl
  i0 := by kernel_rfl
  i2 := by kernel_rfl
  i3 := by kernel_rfl
  i4 := by kernel_rfl
  i5 := by kernel_rfl
  i9 := by kernel_rfl
  i20 := by kernel_rfl
  i37 := by kernel_rfl
  i46 := by kernel_rfl
  i51 := by kernel_rfl
  i53 := by kernel_rfl
  i171 := by kernel_rfl
  i173 := by kernel_rfl
  i212 := by kernel_rfl
  i232 := by kernel_rfl
  i233 := by kernel_rfl
  m17 := by kernel_rfl
  m18 := by kernel_rfl
  m19 := by kernel_rfl }
open Go.RowKit Go.Sort Go.Lib in
theorem Tryz.strconv_Itoa (n : Int) (h0 : -9223372036854775808 ≤ n) (h1 : n ≤ 9223372036854775807) (w : World) (htab : Lib.TabIs Tryz.prog w "internal/strconv.uint64pow10" .u64 Lib.pow10Tab) :
    Calls Tryz.prog 86 #[.int .i64 n] w fun e w' => e = .returned (.string ⟨(Lib.itoa n).toArray⟩) ∧ ∃ k os, w' = grow (w.drewN k) os := Any.strconv_Itoa Tryz.laysM171 n h0 h1 w htab
def Tryz.lays157_ren : Go.Shelf.Ren := ⟨fun | 157 => 206 | 229 => 232 | 199 => 233 | 261 => 244 | 311 => 248 | 312 => 249 | n => n, fun | 9 => 9 | 31 => 24 | 3 => 3 | 5 => 5 | 4 => 4 | 119 => 251 | 0 => 0 | 40 => 253 | 152 => 267 | 21 => 21 | 154 => 269 | 51 => 263 | 141 => 271 | 196 => 277 | 193 => 274 | 198 => 279 | 49 => 256 | 194 => 275 | 201 => 282 | 226 => 286 | 46 => 265 | 227 => 287 | n => n, fun | 0 => 3 | 6 => 5 | n => n⟩
theorem Tryz.lays157 : Go.Proofs.Lays.n157 Tryz.prog Tryz.lays157_ren := {
  mixed := by kernel_rfl
  f157 := Tryz.func206.trans (congrArg some (by kernel_rfl))
  f199 := Tryz.func233.trans (congrArg some (by kernel_rfl))
  f229 := Tryz.func232.trans (congrArg some (by kernel_rfl))
  f261 := Tryz.func244.trans (congrArg some (by kernel_rfl))
  f311 := Tryz.func248.trans (congrArg some (by kernel_rfl))
  f312 := Tryz.func249.trans (congrArg some (by kernel_rfl))
  t0 := Tryz.underlying0
  a0 := Tryz.isAgg0
  z0 := Tryz.sizeOf0
  v0 := Tryz.zeroValue0
  t3 := Tryz.underlying3
  a3 := Tryz.isAgg3
  z3 := Tryz.sizeOf3
  v3 := Tryz.zeroValue3
  t4 := Tryz.underlying4
  a4 := Tryz.isAgg4
  z4 := Tryz.sizeOf4
  v4 := Tryz.zeroValue4
  t5 := Tryz.underlying5
  a5 := Tryz.isAgg5
  z5 := Tryz.sizeOf5
  v5 := Tryz.zeroValue5
  t9 := Tryz.underlying9
  a9 := Tryz.isAgg9
  z9 := Tryz.sizeOf9
  v9 := Tryz.zeroValue9
  t21 := Tryz.underlying21
  a21 := Tryz.isAgg21
  z21 := Tryz.sizeOf21
  v21 := Tryz.zeroValue21
  t31 := Tryz.underlying24
  a31 := Tryz.isAgg24
  z31 := Tryz.sizeOf24
  v31 := Tryz.zeroValue24
  t40 := Tryz.underlying253
  a40 := Tryz.isAgg253
  z40 := Tryz.sizeOf253
  v40 := Tryz.zeroValue253
  t46 := Tryz.underlying265
  a46 := Tryz.isAgg265
  z46 := Tryz.sizeOf265
  v46 := Tryz.zeroValue265
  t49 := Tryz.underlying256
  a49 := Tryz.isAgg256
  z49 := Tryz.sizeOf256
  v49 := Tryz.zeroValue256
  t51 := Tryz.underlying263
  a51 := Tryz.isAgg263
  z51 := Tryz.sizeOf263
  v51 := Tryz.zeroValue263
  t119 := Tryz.underlying251
  a119 := Tryz.isAgg251
  z119 := Tryz.sizeOf251
  t141 := Tryz.underlying271
  a141 := Tryz.isAgg271
  z141 := Tryz.sizeOf271
  v141 := Tryz.zeroValue271
  t152 := Tryz.underlying267
  a152 := Tryz.isAgg267
  z152 := Tryz.sizeOf267
  v152 := Tryz.zeroValue267
  t154 := Tryz.underlying269
  a154 := Tryz.isAgg269
  z154 := Tryz.sizeOf269
  v154 := Tryz.zeroValue269
  t193 := Tryz.underlying274
  a193 := Tryz.isAgg274
  z193 := Tryz.sizeOf274
  v193 := Tryz.zeroValue274
  t194 := Tryz.underlying275
  a194 := Tryz.isAgg275
  z194 := Tryz.sizeOf275
  v194 := Tryz.zeroValue275
  t196 := Tryz.underlying277
  a196 := Tryz.isAgg277
  z196 := Tryz.sizeOf277
  v196 := Tryz.zeroValue277
  t198 := Tryz.underlying279
  a198 := Tryz.isAgg279
  z198 := Tryz.sizeOf279
  v198 := Tryz.zeroValue279
  t201 := Tryz.underlying282
  a201 := Tryz.isAgg282
  z201 := Tryz.sizeOf282
  v201 := Tryz.zeroValue282
  t226 := Tryz.underlying286
  a226 := Tryz.isAgg286
  z226 := Tryz.sizeOf286
  v226 := Tryz.zeroValue286
  t227 := Tryz.underlying287
  a227 := Tryz.isAgg287
  z227 := Tryz.sizeOf287
  v227 := Tryz.zeroValue287
  g0 := by kernel_rfl
  g6 := by kernel_rfl }
open Go.RowKit Go.Lib in
theorem Tryz.strings_Fields (s : ByteArray) (w : World) (hs : s.size < 4294967281) (hascii : ∀ (j : Nat) b, s.data.toList[j]? = some b → b.toNat < 128) (htab : Lib.TabIs Tryz.prog w "strings.asciiSpace" .u8 Lib.asciiSpaceTab) :
    Calls Tryz.prog 206 #[.string s] w fun e w' =>
      e = .returned (.slice (some ⟨w.heap.size, 0, none⟩) (Lib.fields s.data.toList).length (Lib.fields s.data.toList).length) ∧ w' = w.alloc (.cells ((Lib.fields s.data.toList).map fun l => Value.string ⟨l.toArray⟩).toArray 9) := Any.strings_Fields Tryz.lays157 (by kernel_rfl) (by kernel_rfl) s w hs hascii htab
end Go.Proofs
namespace Go.Proofs.Am
open Go.RowKit
def kwText : List UInt8 := [99, 104, 97, 110, 110, 101, 108, 32, 99, 104, 101, 99, 107, 112, 111, 105, 110, 116, 32, 99, 111, 110, 115, 116, 32, 100, 101, 97, 100, 108, 105, 110, 101, 32, 101, 108, 115, 101, 32, 101, 109, 105, 116, 32, 101, 118, 101, 114, 121, 32, 102, 114, 101, 115, 104, 32, 105, 102, 32, 108, 101, 116, 32, 111, 110, 32, 111, 117, 116, 112, 117, 116, 32, 114, 101, 97, 100, 32, 114, 101, 112, 101, 97, 116, 32, 114, 101, 116, 117, 114, 110, 32, 115, 101, 110, 100, 32, 115, 101, 110, 115, 111, 114, 32, 116, 97, 115, 107, 32, 116, 111, 103, 101, 116, 104, 101, 114, 32, 118, 97, 114, 32, 119, 104, 105, 108, 101, 32, 119, 105, 116, 104, 105, 110]
theorem kw_fields : Lib.fields kwText = kws := by kernel_rfl
theorem kw_ascii : kwText.all (fun b => decide (b.toNat < 128)) = true := by kernel_rfl
theorem ints_of {w : World} {F : Nat → Prop} {k : IntKind} : ∀ {zs : List Int} {vs : List Value}, RepL w F (zs.map (C.int k)) vs → vs = zs.map (Value.int k) := by
  intro zs
  induction zs with
  | nil => intro vs h; cases h; rfl
  | cons z r ih =>
    intro vs h
    cases h with
    | cons h1 h2 => rw [ih h2, List.map_cons]; congr 1
theorem tab_of {w : World} (h : GlobOk zG w) {g : Nat} {name : String} {k : IntKind} {zs : List Int} (hg : Tryz.prog.globalNamed name = some g) (hG : zG.glob g = some (zs.map (C.int k))) : Lib.TabIs Tryz.prog w name k zs := by
  obtain ⟨h1, h2, vs, ty, fz, h3, hl⟩ := h g _ hG
  unfold Lib.TabIs World.var?
  rw [hg]
  simp only [Option.bind_some, h3]
  rw [← ints_of hl]
theorem space_tab : zG.glob 3 = some (Lib.asciiSpaceTab.map (C.int .u8)) := by kernel_rfl
theorem pow_tab : zG.glob 4 = some (Lib.pow10Tab.map (C.int .u64)) := by kernel_rfl
/-- A new block of strings. -/
theorem strs_rep {w : World} {F : Nat → Prop} {b : Nat} {ss : List (List UInt8)} {vs : Array Value} {ty : TypeId} (hh : w.heap[b]? = some (.cells vs ty (0, 0))) (hv : vs.toList = ss.map fun l => Value.string ⟨l.toArray⟩) (hm : ∀ s ∈ ss, s.length ≤ maxLen) : RepRows w F 1 ⟨b, 0, none⟩ 0 (encStrs ss) := by
  refine RepRows.of (encStrs_rows ss) (RepCells.of (vs := vs.toList) ?_ fun j u hu => ?_)
  · rw [hv]
    clear hv
    induction ss with
    | nil => exact .nil
    | cons s r ih =>
      rw [encStrs_cons]
      exact .cons ⟨rfl, hm s (by simp)⟩ (ih (fun s hs => hm s (by simp [hs])))
  · rw [Nat.zero_add, aplain, cell_at hh]
    simpa using hu
theorem kw_len : kws.all (fun s => decide (s.length ≤ 100)) = true := by kernel_rfl
theorem holds206 : Holds Tryz.prog zG 206 [.c (.str kwText)] [.c (.sl 1 (encStrs kws))] := by
  refine ⟨⟨Tryz.f206, Tryz.func206, rfl, rfl⟩, fun ok w vs hng hglob hA => ?_⟩
  cases hA with
  | cons h r =>
    cases r
    obtain ⟨rfl, _⟩ : _ = Value.string ⟨kwText.toArray⟩ ∧ _ := h
    refine Calls.mono (Tryz.strings_Fields ⟨kwText.toArray⟩ w (by decide +kernel) (fun j b hb => ?_) (tab_of hglob (by kernel_rfl) space_tab)) fun e w' he => ?_
    · have := List.all_eq_true.1 kw_ascii b (List.mem_of_getElem? hb)
      simpa using this
    · obtain ⟨rfl, rfl⟩ := he
      have hkw : Lib.fields (⟨kwText.toArray⟩ : ByteArray).data.toList = kws := kw_fields
      rw [hkw]
      refine ⟨[_], rfl, .cons ⟨some ⟨w.heap.size, 0, none⟩, kws.length, kws.length, rfl, (encStrs_length _).symm, ⟨Nat.le_refl _, by decide +kernel⟩, .inr ⟨_, rfl, .inr (Nat.le_refl _), by simp only [World.alloc, Array.size_push]; omega, strs_rep (heap_alloc_new w _) (by simp) ?_⟩⟩ .nil, (Below.refl _ w).alloc (Nat.le_refl _) _⟩
      intro s hs
      have := List.all_eq_true.1 kw_len s hs
      simp at this
      simp only [maxLen]
      omega
theorem holds86 (n : Int) (h0 : -9223372036854775808 ≤ n) (h1 : n ≤ 9223372036854775807) : Holds Tryz.prog zG 86 [.c (.int .i64 n)] [.c (.str (Lib.itoa n))] := by
  refine ⟨⟨Tryz.f86, Tryz.func86, rfl, rfl⟩, fun ok w vs hng hglob hA => ?_⟩
  cases hA with
  | cons h r =>
    cases r
    obtain rfl : _ = Value.int .i64 n := h
    refine Calls.mono (Tryz.strconv_Itoa n h0 h1 w (tab_of hglob (by kernel_rfl) pow_tab)) fun e w' he => ?_
    obtain ⟨rfl, k, os, rfl⟩ := he
    refine ⟨[_], rfl, .cons ⟨rfl, by have := Lib.itoa_length_le n h0 h1; simp only [maxLen]; omega⟩ .nil, ?_⟩
    refine ⟨rfl, rfl, rfl, by simp [Sort.grow, World.drewN], fun b hb => ?_⟩
    simp only [Sort.grow, World.drewN]
    rw [Array.getElem?_append_left hb]
end Go.Proofs.Am
set_option maxRecDepth 100000
set_option maxHeartbeats 4000000
namespace Go.Proofs.Am
def ixF {α : Type} (p : α → Bool) : Nat → List α → Int
  | _, [] => -1
  | i, x :: r => if p x then i else ixF p (i + 1) r
theorem ixF_none {α : Type} {p : α → Bool} {l : List α} (h : l.any p = false) (i : Nat) : ixF p i l = -1 := by
  induction l generalizing i with
  | nil => rfl
  | cons x r ih => simp at h; simp [ixF, h.1, ih (by simpa using h.2)]
theorem ixF_mid {α : Type} {p : α → Bool} {a b : List α} {y : α} (h : a.any p = false) (hy : p y = true) (i : Nat) : ixF p i (a ++ y :: b) = ((i + a.length : Nat) : Int) := by
  induction a generalizing i with
  | nil => simp [ixF, hy]
  | cons x r ih => simp at h; simp [ixF, h.1, ih (by simpa using h.2)]; omega
theorem ixF_ge {α : Type} (p : α → Bool) (l : List α) (i : Nat) : decide (ixF p i l ≥ 0) = l.any p := by
  induction l generalizing i with
  | nil => rfl
  | cons x r ih =>
    simp only [ixF, List.any_cons]
    split
    · rename_i h; simp [h]
    · rename_i h; simp [h, ih]
theorem prog156 : Tryz.prog.funcs[156]? = some Tryz.f156 := by kernel_rfl
theorem holds156 (F : Nat) (p : Ex → Bool) (l : List Ex) (hF : ∀ y ∈ l, Holds Tryz.prog zG F [.agg [.int .i64 y.kind, .str y.name, .int .i16 y.value, .int .i64 y.op, .sl 6 (encEs y.args), .int .i64 y.pos]] [.c (.bool (p y))]) : Holds Tryz.prog zG 156 [.c (.sl 6 (encEs l)), .c (.fn F)] [.c (.int .i64 (ixF p 0 l))] := by
  refine holds_of_body zT prog156 rfl rfl rfl (by simp [Tryz.f156]) ?_
  refine aw_ops zT fun K1 hK1 => ?_
  simp only [amset, amlib, zset, eq_self, ↓reduceIte, reduceCtorEq, Nat.reduceBEq, Nat.reduceEqDiff, Nat.reduceAdd, Nat.reduceMul, Nat.reduceLeDiff, Nat.reduceLT, Nat.reduceSub]
  refine hK1 _ ?_
  clear hK1
  refine aw_seq fun K2 hK2 => ?_
  refine aw_ops zT fun K3 hK3 => ?_
  simp only [amset, amlib, zset, eq_self, ↓reduceIte, reduceCtorEq, Nat.reduceBEq, Nat.reduceEqDiff, Nat.reduceAdd, Nat.reduceMul, Nat.reduceLeDiff, Nat.reduceLT, Nat.reduceSub]
  intros
  refine hK3 _ ?_
  clear hK3
  refine aw_block ?_
  refine aw_range (α := Ex) (l) (fun dn => dn.any p = false) (fun dn => [(8, .cell (.c (.int .i64 dn.length)))]) (fun dn => []) [] [4, 5, 8, 9, 10, 11, 12, 13, 14, 15, 16, 17, 18] [] rfl ?_ ?_ ?_ ?_
  · simp only [amset, amlib, zset, eq_self, ↓reduceIte, reduceCtorEq, Nat.reduceBEq, Nat.reduceEqDiff, Nat.reduceAdd, Nat.reduceMul, Nat.reduceLeDiff, Nat.reduceLT, Nat.reduceSub] <;> simp [eq_self]
  · simp only [amset, amlib, zset, eq_self, ↓reduceIte, reduceCtorEq, Nat.reduceBEq, Nat.reduceEqDiff, Nat.reduceAdd, Nat.reduceMul, Nat.reduceLeDiff, Nat.reduceLT, Nat.reduceSub] <;> simp [eq_self]
  · intro hI R
    refine aw_norm (by simp only [amset, amlib, zset, eq_self, ↓reduceIte, reduceCtorEq, Nat.reduceBEq, Nat.reduceEqDiff, Nat.reduceAdd, Nat.reduceMul, Nat.reduceLeDiff, Nat.reduceLT, Nat.reduceSub]; exact rfl) ?_
    refine aw_ops zT fun K4 hK4 => ?_
    simp only [amset, amlib, zset, eq_self, ↓reduceIte, reduceCtorEq, Nat.reduceBEq, Nat.reduceEqDiff, Nat.reduceAdd, Nat.reduceMul, Nat.reduceLeDiff, Nat.reduceLT, Nat.reduceSub]
    refine hK4 _ ?_
    clear hK4
    refine aw_seq fun K5 hK5 => ?_
    refine aw_cond (t := false) (by simp [evalO, S.get, amLook]) (fun h => nomatch h) (fun _ => ?_)
    refine aw_exit ?_
    simp only [thenQ, blkQ, if_true, reduceIte, Nat.reduceEqDiff, eq_self]
    refine hK2 _ ?_
    clear hK2
    refine aw_ops zT fun K6 hK6 => ?_
    simp only [amset, amlib, zset, eq_self, ↓reduceIte, reduceCtorEq, Nat.reduceBEq, Nat.reduceEqDiff, Nat.reduceAdd, Nat.reduceMul, Nat.reduceLeDiff, Nat.reduceLT, Nat.reduceSub]
    refine hK6 _ ?_
    clear hK6
    refine aw_ret ?_
    show resOf zG _ [.tmp 4] = some _
    simp only [amset, amlib, zset, eq_self, ↓reduceIte, reduceCtorEq, Nat.reduceBEq, Nat.reduceEqDiff, Nat.reduceAdd, Nat.reduceMul, Nat.reduceLeDiff, Nat.reduceLT, Nat.reduceSub]
    rw [ixF_none hI]
  · intro dn y td harg hI R hR
    have hl : (l).length = dn.length + (td.length + 1) := by rw [harg]; simp
    have hmem : y ∈ l := by rw [harg]; simp
    refine aw_norm (by simp only [amset, amlib, zset, eq_self, ↓reduceIte, reduceCtorEq, Nat.reduceBEq, Nat.reduceEqDiff, Nat.reduceAdd, Nat.reduceMul, Nat.reduceLeDiff, Nat.reduceLT, Nat.reduceSub]; exact rfl) ?_
    have hget : (encEs (l)).getD dn.length [] = encE y := by rw [harg]; exact encEs_mid dn td y
    refine aw_ops zT fun K7 hK7 => ?_
    simp only [amset, amlib, zset, eq_self, ↓reduceIte, reduceCtorEq, Nat.reduceBEq, Nat.reduceEqDiff, Nat.reduceAdd, Nat.reduceMul, Nat.reduceLeDiff, Nat.reduceLT, Nat.reduceSub]
    refine hK7 _ ?_
    clear hK7
    refine aw_seq fun K8 hK8 => ?_
    refine aw_cond (t := true) (by simp [evalO, S.get, amLook]; omega) (fun _ => ?_) (fun h => nomatch h)
    refine aw_skip ?_
    simp only [thenQ, blkQ, if_true, reduceIte, Nat.reduceEqDiff, eq_self]
    refine hK8 _ ?_
    clear hK8
    refine aw_seq fun K9 hK9 => ?_
    refine aw_block ?_
    refine aw_ops zT fun K10 hK10 => ?_
    simp only [amset, amlib, zset, eq_self, ↓reduceIte, reduceCtorEq, Nat.reduceBEq, Nat.reduceEqDiff, Nat.reduceAdd, Nat.reduceMul, Nat.reduceLeDiff, Nat.reduceLT, Nat.reduceSub]
    refine hK10 _ ?_
    clear hK10
    refine aw_ops zT fun K11 hK11 => ?_
    simp only [amset, amlib, zset, hget, eq_self, ↓reduceIte, reduceCtorEq, Nat.reduceBEq, Nat.reduceEqDiff, Nat.reduceAdd, Nat.reduceMul, Nat.reduceLeDiff, Nat.reduceLT, Nat.reduceSub]
    refine ⟨⟨by omega, by omega⟩, ?_⟩
    refine ⟨_, hF y hmem, ?_⟩
    simp only [later]
    simp only [amset, amlib, zset, eq_self, ↓reduceIte, reduceCtorEq, Nat.reduceBEq, Nat.reduceEqDiff, Nat.reduceAdd, Nat.reduceMul, Nat.reduceLeDiff, Nat.reduceLT, Nat.reduceSub]
    refine hK11 _ ?_
    clear hK11
    refine aw_cond rfl (fun h0 => ?_) (fun h0 => ?_)
    · skip
      refine aw_ops zT fun K12 hK12 => ?_
      simp only [amset, amlib, zset, eq_self, ↓reduceIte, reduceCtorEq, Nat.reduceBEq, Nat.reduceEqDiff, Nat.reduceAdd, Nat.reduceMul, Nat.reduceLeDiff, Nat.reduceLT, Nat.reduceSub]
      refine hK12 _ ?_
      clear hK12
      refine aw_ret ?_
      show resOf zG _ [.tmp 4] = some _
      simp only [amset, amlib, zset, eq_self, ↓reduceIte, reduceCtorEq, Nat.reduceBEq, Nat.reduceEqDiff, Nat.reduceAdd, Nat.reduceMul, Nat.reduceLeDiff, Nat.reduceLT, Nat.reduceSub]
      rw [harg, ixF_mid hI (by simpa using h0), Nat.zero_add]
    · skip
      refine aw_skip ?_
      simp only [thenQ, blkQ, if_true, reduceIte, Nat.reduceEqDiff, eq_self]
      refine hK9 _ ?_
      clear hK9
      refine aw_region zT ?_
      simp only [amset, amlib, zset, eq_self, ↓reduceIte, reduceCtorEq, Nat.reduceBEq, Nat.reduceEqDiff, Nat.reduceAdd, Nat.reduceMul, Nat.reduceLeDiff, Nat.reduceLT, Nat.reduceSub]
      refine ⟨⟨by omega, by omega⟩, ?_⟩
      refine hR _ (by rw [List.any_append, hI]; simpa using h0) ?_
      refine Reach.to ?_ ?_
      · simp only [amset, amlib, zset, eq_self, ↓reduceIte, reduceCtorEq, Nat.reduceBEq, Nat.reduceEqDiff, Nat.reduceAdd, Nat.reduceMul, Nat.reduceLeDiff, Nat.reduceLT, Nat.reduceSub] <;> simp [eq_self]
      · simp only [amset, amlib, zset, eq_self, ↓reduceIte, reduceCtorEq, Nat.reduceBEq, Nat.reduceEqDiff, Nat.reduceAdd, Nat.reduceMul, Nat.reduceLeDiff, Nat.reduceLT, Nat.reduceSub] <;> simp [eq_self]
theorem prog79 : Tryz.prog.funcs[79]? = some Tryz.f79 := by kernel_rfl
theorem holds79 (F : Nat) (p : Ex → Bool) (l : List Ex) (hF : ∀ y ∈ l, Holds Tryz.prog zG F [.agg [.int .i64 y.kind, .str y.name, .int .i16 y.value, .int .i64 y.op, .sl 6 (encEs y.args), .int .i64 y.pos]] [.c (.bool (p y))]) : Holds Tryz.prog zG 79 [.c (.sl 6 (encEs l)), .c (.fn F)] [.c (.bool (l.any p))] := by
  refine holds_of_body zT prog79 rfl rfl rfl (by simp [Tryz.f79]) ?_
  refine aw_ops zT fun K1 hK1 => ?_
  simp only [amset, amlib, zset, eq_self, ↓reduceIte, reduceCtorEq, Nat.reduceBEq, Nat.reduceEqDiff, Nat.reduceAdd, Nat.reduceMul, Nat.reduceLeDiff, Nat.reduceLT, Nat.reduceSub]
  refine hK1 _ ?_
  clear hK1
  refine aw_ops zT fun K2 hK2 => ?_
  simp only [amset, amlib, zset, eq_self, ↓reduceIte, reduceCtorEq, Nat.reduceBEq, Nat.reduceEqDiff, Nat.reduceAdd, Nat.reduceMul, Nat.reduceLeDiff, Nat.reduceLT, Nat.reduceSub]
  refine ⟨_, holds156 F p l hF, ?_⟩
  simp only [later]
  simp only [amset, amlib, zset, eq_self, ↓reduceIte, reduceCtorEq, Nat.reduceBEq, Nat.reduceEqDiff, Nat.reduceAdd, Nat.reduceMul, Nat.reduceLeDiff, Nat.reduceLT, Nat.reduceSub]
  refine hK2 _ ?_
  clear hK2
  refine aw_ret ?_
  show resOf zG _ [.tmp 4] = some _
  simp only [amset, amlib, zset, eq_self, ↓reduceIte, reduceCtorEq, Nat.reduceBEq, Nat.reduceEqDiff, Nat.reduceAdd, Nat.reduceMul, Nat.reduceLeDiff, Nat.reduceLT, Nat.reduceSub]
  rw [ixF_ge]
theorem prog234 : Tryz.prog.funcs[234]? = some Tryz.f234 := by kernel_rfl
theorem holds234 (F : Nat) (p : St → Bool) (l : List St) (hF : ∀ y ∈ l, Holds Tryz.prog zG F [.agg [.int .i64 y.kind, .str y.name, .int .i64 y.n, .sl 6 (encEs y.args), .sl 7 (encSs y.body), .sl 7 (encSs y.els), .int .i64 y.pos]] [.c (.bool (p y))]) : Holds Tryz.prog zG 234 [.c (.sl 7 (encSs l)), .c (.fn F)] [.c (.int .i64 (ixF p 0 l))] := by
  refine holds_of_body zT prog234 rfl rfl rfl (by simp [Tryz.f234]) ?_
  refine aw_ops zT fun K1 hK1 => ?_
  simp only [amset, amlib, zset, eq_self, ↓reduceIte, reduceCtorEq, Nat.reduceBEq, Nat.reduceEqDiff, Nat.reduceAdd, Nat.reduceMul, Nat.reduceLeDiff, Nat.reduceLT, Nat.reduceSub]
  refine hK1 _ ?_
  clear hK1
  refine aw_seq fun K2 hK2 => ?_
  refine aw_ops zT fun K3 hK3 => ?_
  simp only [amset, amlib, zset, eq_self, ↓reduceIte, reduceCtorEq, Nat.reduceBEq, Nat.reduceEqDiff, Nat.reduceAdd, Nat.reduceMul, Nat.reduceLeDiff, Nat.reduceLT, Nat.reduceSub]
  intros
  refine hK3 _ ?_
  clear hK3
  refine aw_block ?_
  refine aw_range (α := St) (l) (fun dn => dn.any p = false) (fun dn => [(8, .cell (.c (.int .i64 dn.length)))]) (fun dn => []) [] [4, 5, 8, 9, 10, 11, 12, 13, 14, 15, 16, 17, 18] [] rfl ?_ ?_ ?_ ?_
  · simp only [amset, amlib, zset, eq_self, ↓reduceIte, reduceCtorEq, Nat.reduceBEq, Nat.reduceEqDiff, Nat.reduceAdd, Nat.reduceMul, Nat.reduceLeDiff, Nat.reduceLT, Nat.reduceSub] <;> simp [eq_self]
  · simp only [amset, amlib, zset, eq_self, ↓reduceIte, reduceCtorEq, Nat.reduceBEq, Nat.reduceEqDiff, Nat.reduceAdd, Nat.reduceMul, Nat.reduceLeDiff, Nat.reduceLT, Nat.reduceSub] <;> simp [eq_self]
  · intro hI R
    refine aw_norm (by simp only [amset, amlib, zset, eq_self, ↓reduceIte, reduceCtorEq, Nat.reduceBEq, Nat.reduceEqDiff, Nat.reduceAdd, Nat.reduceMul, Nat.reduceLeDiff, Nat.reduceLT, Nat.reduceSub]; exact rfl) ?_
    refine aw_ops zT fun K4 hK4 => ?_
    simp only [amset, amlib, zset, eq_self, ↓reduceIte, reduceCtorEq, Nat.reduceBEq, Nat.reduceEqDiff, Nat.reduceAdd, Nat.reduceMul, Nat.reduceLeDiff, Nat.reduceLT, Nat.reduceSub]
    refine hK4 _ ?_
    clear hK4
    refine aw_seq fun K5 hK5 => ?_
    refine aw_cond (t := false) (by simp [evalO, S.get, amLook]) (fun h => nomatch h) (fun _ => ?_)
    refine aw_exit ?_
    simp only [thenQ, blkQ, if_true, reduceIte, Nat.reduceEqDiff, eq_self]
    refine hK2 _ ?_
    clear hK2
    refine aw_ops zT fun K6 hK6 => ?_
    simp only [amset, amlib, zset, eq_self, ↓reduceIte, reduceCtorEq, Nat.reduceBEq, Nat.reduceEqDiff, Nat.reduceAdd, Nat.reduceMul, Nat.reduceLeDiff, Nat.reduceLT, Nat.reduceSub]
    refine hK6 _ ?_
    clear hK6
    refine aw_ret ?_
    show resOf zG _ [.tmp 4] = some _
    simp only [amset, amlib, zset, eq_self, ↓reduceIte, reduceCtorEq, Nat.reduceBEq, Nat.reduceEqDiff, Nat.reduceAdd, Nat.reduceMul, Nat.reduceLeDiff, Nat.reduceLT, Nat.reduceSub]
    rw [ixF_none hI]
  · intro dn y td harg hI R hR
    have hl : (l).length = dn.length + (td.length + 1) := by rw [harg]; simp
    have hmem : y ∈ l := by rw [harg]; simp
    refine aw_norm (by simp only [amset, amlib, zset, eq_self, ↓reduceIte, reduceCtorEq, Nat.reduceBEq, Nat.reduceEqDiff, Nat.reduceAdd, Nat.reduceMul, Nat.reduceLeDiff, Nat.reduceLT, Nat.reduceSub]; exact rfl) ?_
    have hget : (encSs (l)).getD dn.length [] = encS y := by rw [harg]; exact encSs_mid dn td y
    refine aw_ops zT fun K7 hK7 => ?_
    simp only [amset, amlib, zset, eq_self, ↓reduceIte, reduceCtorEq, Nat.reduceBEq, Nat.reduceEqDiff, Nat.reduceAdd, Nat.reduceMul, Nat.reduceLeDiff, Nat.reduceLT, Nat.reduceSub]
    refine hK7 _ ?_
    clear hK7
    refine aw_seq fun K8 hK8 => ?_
    refine aw_cond (t := true) (by simp [evalO, S.get, amLook]; omega) (fun _ => ?_) (fun h => nomatch h)
    refine aw_skip ?_
    simp only [thenQ, blkQ, if_true, reduceIte, Nat.reduceEqDiff, eq_self]
    refine hK8 _ ?_
    clear hK8
    refine aw_seq fun K9 hK9 => ?_
    refine aw_block ?_
    refine aw_ops zT fun K10 hK10 => ?_
    simp only [amset, amlib, zset, eq_self, ↓reduceIte, reduceCtorEq, Nat.reduceBEq, Nat.reduceEqDiff, Nat.reduceAdd, Nat.reduceMul, Nat.reduceLeDiff, Nat.reduceLT, Nat.reduceSub]
    refine hK10 _ ?_
    clear hK10
    refine aw_ops zT fun K11 hK11 => ?_
    simp only [amset, amlib, zset, hget, eq_self, ↓reduceIte, reduceCtorEq, Nat.reduceBEq, Nat.reduceEqDiff, Nat.reduceAdd, Nat.reduceMul, Nat.reduceLeDiff, Nat.reduceLT, Nat.reduceSub]
    refine ⟨⟨by omega, by omega⟩, ?_⟩
    refine ⟨_, hF y hmem, ?_⟩
    simp only [later]
    simp only [amset, amlib, zset, eq_self, ↓reduceIte, reduceCtorEq, Nat.reduceBEq, Nat.reduceEqDiff, Nat.reduceAdd, Nat.reduceMul, Nat.reduceLeDiff, Nat.reduceLT, Nat.reduceSub]
    refine hK11 _ ?_
    clear hK11
    refine aw_cond rfl (fun h0 => ?_) (fun h0 => ?_)
    · skip
      refine aw_ops zT fun K12 hK12 => ?_
      simp only [amset, amlib, zset, eq_self, ↓reduceIte, reduceCtorEq, Nat.reduceBEq, Nat.reduceEqDiff, Nat.reduceAdd, Nat.reduceMul, Nat.reduceLeDiff, Nat.reduceLT, Nat.reduceSub]
      refine hK12 _ ?_
      clear hK12
      refine aw_ret ?_
      show resOf zG _ [.tmp 4] = some _
      simp only [amset, amlib, zset, eq_self, ↓reduceIte, reduceCtorEq, Nat.reduceBEq, Nat.reduceEqDiff, Nat.reduceAdd, Nat.reduceMul, Nat.reduceLeDiff, Nat.reduceLT, Nat.reduceSub]
      rw [harg, ixF_mid hI (by simpa using h0), Nat.zero_add]
    · skip
      refine aw_skip ?_
      simp only [thenQ, blkQ, if_true, reduceIte, Nat.reduceEqDiff, eq_self]
      refine hK9 _ ?_
      clear hK9
      refine aw_region zT ?_
      simp only [amset, amlib, zset, eq_self, ↓reduceIte, reduceCtorEq, Nat.reduceBEq, Nat.reduceEqDiff, Nat.reduceAdd, Nat.reduceMul, Nat.reduceLeDiff, Nat.reduceLT, Nat.reduceSub]
      refine ⟨⟨by omega, by omega⟩, ?_⟩
      refine hR _ (by rw [List.any_append, hI]; simpa using h0) ?_
      refine Reach.to ?_ ?_
      · simp only [amset, amlib, zset, eq_self, ↓reduceIte, reduceCtorEq, Nat.reduceBEq, Nat.reduceEqDiff, Nat.reduceAdd, Nat.reduceMul, Nat.reduceLeDiff, Nat.reduceLT, Nat.reduceSub] <;> simp [eq_self]
      · simp only [amset, amlib, zset, eq_self, ↓reduceIte, reduceCtorEq, Nat.reduceBEq, Nat.reduceEqDiff, Nat.reduceAdd, Nat.reduceMul, Nat.reduceLeDiff, Nat.reduceLT, Nat.reduceSub] <;> simp [eq_self]
theorem prog207 : Tryz.prog.funcs[207]? = some Tryz.f207 := by kernel_rfl
theorem holds207 (F : Nat) (p : St → Bool) (l : List St) (hF : ∀ y ∈ l, Holds Tryz.prog zG F [.agg [.int .i64 y.kind, .str y.name, .int .i64 y.n, .sl 6 (encEs y.args), .sl 7 (encSs y.body), .sl 7 (encSs y.els), .int .i64 y.pos]] [.c (.bool (p y))]) : Holds Tryz.prog zG 207 [.c (.sl 7 (encSs l)), .c (.fn F)] [.c (.bool (l.any p))] := by
  refine holds_of_body zT prog207 rfl rfl rfl (by simp [Tryz.f207]) ?_
  refine aw_ops zT fun K1 hK1 => ?_
  simp only [amset, amlib, zset, eq_self, ↓reduceIte, reduceCtorEq, Nat.reduceBEq, Nat.reduceEqDiff, Nat.reduceAdd, Nat.reduceMul, Nat.reduceLeDiff, Nat.reduceLT, Nat.reduceSub]
  refine hK1 _ ?_
  clear hK1
  refine aw_ops zT fun K2 hK2 => ?_
  simp only [amset, amlib, zset, eq_self, ↓reduceIte, reduceCtorEq, Nat.reduceBEq, Nat.reduceEqDiff, Nat.reduceAdd, Nat.reduceMul, Nat.reduceLeDiff, Nat.reduceLT, Nat.reduceSub]
  refine ⟨_, holds234 F p l hF, ?_⟩
  simp only [later]
  simp only [amset, amlib, zset, eq_self, ↓reduceIte, reduceCtorEq, Nat.reduceBEq, Nat.reduceEqDiff, Nat.reduceAdd, Nat.reduceMul, Nat.reduceLeDiff, Nat.reduceLT, Nat.reduceSub]
  refine hK2 _ ?_
  clear hK2
  refine aw_ret ?_
  show resOf zG _ [.tmp 4] = some _
  simp only [amset, amlib, zset, eq_self, ↓reduceIte, reduceCtorEq, Nat.reduceBEq, Nat.reduceEqDiff, Nat.reduceAdd, Nat.reduceMul, Nat.reduceLeDiff, Nat.reduceLT, Nat.reduceSub]
  rw [ixF_ge]
theorem prog173 : Tryz.prog.funcs[173]? = some Tryz.f173 := by kernel_rfl
theorem holds173 (F : Nat) (p : Tk → Bool) (l : List Tk) (hF : ∀ y ∈ l, Holds Tryz.prog zG F [.agg [.str y.name, .int .i64 y.period, .int .i64 y.deadline, .str y.channel, .str y.param, .int .i64 y.within, .sl 7 (encSs y.body), .int .i64 y.pos]] [.c (.bool (p y))]) : Holds Tryz.prog zG 173 [.c (.sl 8 (encTs l)), .c (.fn F)] [.c (.int .i64 (ixF p 0 l))] := by
  refine holds_of_body zT prog173 rfl rfl rfl (by simp [Tryz.f173]) ?_
  refine aw_ops zT fun K1 hK1 => ?_
  simp only [amset, amlib, zset, eq_self, ↓reduceIte, reduceCtorEq, Nat.reduceBEq, Nat.reduceEqDiff, Nat.reduceAdd, Nat.reduceMul, Nat.reduceLeDiff, Nat.reduceLT, Nat.reduceSub]
  refine hK1 _ ?_
  clear hK1
  refine aw_seq fun K2 hK2 => ?_
  refine aw_ops zT fun K3 hK3 => ?_
  simp only [amset, amlib, zset, eq_self, ↓reduceIte, reduceCtorEq, Nat.reduceBEq, Nat.reduceEqDiff, Nat.reduceAdd, Nat.reduceMul, Nat.reduceLeDiff, Nat.reduceLT, Nat.reduceSub]
  intros
  refine hK3 _ ?_
  clear hK3
  refine aw_block ?_
  refine aw_range (α := Tk) (l) (fun dn => dn.any p = false) (fun dn => [(8, .cell (.c (.int .i64 dn.length)))]) (fun dn => []) [] [4, 5, 8, 9, 10, 11, 12, 13, 14, 15, 16, 17, 18] [] rfl ?_ ?_ ?_ ?_
  · simp only [amset, amlib, zset, eq_self, ↓reduceIte, reduceCtorEq, Nat.reduceBEq, Nat.reduceEqDiff, Nat.reduceAdd, Nat.reduceMul, Nat.reduceLeDiff, Nat.reduceLT, Nat.reduceSub] <;> simp [eq_self]
  · simp only [amset, amlib, zset, eq_self, ↓reduceIte, reduceCtorEq, Nat.reduceBEq, Nat.reduceEqDiff, Nat.reduceAdd, Nat.reduceMul, Nat.reduceLeDiff, Nat.reduceLT, Nat.reduceSub] <;> simp [eq_self]
  · intro hI R
    refine aw_norm (by simp only [amset, amlib, zset, eq_self, ↓reduceIte, reduceCtorEq, Nat.reduceBEq, Nat.reduceEqDiff, Nat.reduceAdd, Nat.reduceMul, Nat.reduceLeDiff, Nat.reduceLT, Nat.reduceSub]; exact rfl) ?_
    refine aw_ops zT fun K4 hK4 => ?_
    simp only [amset, amlib, zset, eq_self, ↓reduceIte, reduceCtorEq, Nat.reduceBEq, Nat.reduceEqDiff, Nat.reduceAdd, Nat.reduceMul, Nat.reduceLeDiff, Nat.reduceLT, Nat.reduceSub]
    refine hK4 _ ?_
    clear hK4
    refine aw_seq fun K5 hK5 => ?_
    refine aw_cond (t := false) (by simp [evalO, S.get, amLook]) (fun h => nomatch h) (fun _ => ?_)
    refine aw_exit ?_
    simp only [thenQ, blkQ, if_true, reduceIte, Nat.reduceEqDiff, eq_self]
    refine hK2 _ ?_
    clear hK2
    refine aw_ops zT fun K6 hK6 => ?_
    simp only [amset, amlib, zset, eq_self, ↓reduceIte, reduceCtorEq, Nat.reduceBEq, Nat.reduceEqDiff, Nat.reduceAdd, Nat.reduceMul, Nat.reduceLeDiff, Nat.reduceLT, Nat.reduceSub]
    refine hK6 _ ?_
    clear hK6
    refine aw_ret ?_
    show resOf zG _ [.tmp 4] = some _
    simp only [amset, amlib, zset, eq_self, ↓reduceIte, reduceCtorEq, Nat.reduceBEq, Nat.reduceEqDiff, Nat.reduceAdd, Nat.reduceMul, Nat.reduceLeDiff, Nat.reduceLT, Nat.reduceSub]
    rw [ixF_none hI]
  · intro dn y td harg hI R hR
    have hl : (l).length = dn.length + (td.length + 1) := by rw [harg]; simp
    have hmem : y ∈ l := by rw [harg]; simp
    refine aw_norm (by simp only [amset, amlib, zset, eq_self, ↓reduceIte, reduceCtorEq, Nat.reduceBEq, Nat.reduceEqDiff, Nat.reduceAdd, Nat.reduceMul, Nat.reduceLeDiff, Nat.reduceLT, Nat.reduceSub]; exact rfl) ?_
    have hget : (encTs (l)).getD dn.length [] = encT y := by rw [harg]; exact encTs_mid dn td y
    refine aw_ops zT fun K7 hK7 => ?_
    simp only [amset, amlib, zset, eq_self, ↓reduceIte, reduceCtorEq, Nat.reduceBEq, Nat.reduceEqDiff, Nat.reduceAdd, Nat.reduceMul, Nat.reduceLeDiff, Nat.reduceLT, Nat.reduceSub]
    refine hK7 _ ?_
    clear hK7
    refine aw_seq fun K8 hK8 => ?_
    refine aw_cond (t := true) (by simp [evalO, S.get, amLook]; omega) (fun _ => ?_) (fun h => nomatch h)
    refine aw_skip ?_
    simp only [thenQ, blkQ, if_true, reduceIte, Nat.reduceEqDiff, eq_self]
    refine hK8 _ ?_
    clear hK8
    refine aw_seq fun K9 hK9 => ?_
    refine aw_block ?_
    refine aw_ops zT fun K10 hK10 => ?_
    simp only [amset, amlib, zset, eq_self, ↓reduceIte, reduceCtorEq, Nat.reduceBEq, Nat.reduceEqDiff, Nat.reduceAdd, Nat.reduceMul, Nat.reduceLeDiff, Nat.reduceLT, Nat.reduceSub]
    refine hK10 _ ?_
    clear hK10
    refine aw_ops zT fun K11 hK11 => ?_
    simp only [amset, amlib, zset, hget, eq_self, ↓reduceIte, reduceCtorEq, Nat.reduceBEq, Nat.reduceEqDiff, Nat.reduceAdd, Nat.reduceMul, Nat.reduceLeDiff, Nat.reduceLT, Nat.reduceSub]
    refine ⟨⟨by omega, by omega⟩, ?_⟩
    refine ⟨_, hF y hmem, ?_⟩
    simp only [later]
    simp only [amset, amlib, zset, eq_self, ↓reduceIte, reduceCtorEq, Nat.reduceBEq, Nat.reduceEqDiff, Nat.reduceAdd, Nat.reduceMul, Nat.reduceLeDiff, Nat.reduceLT, Nat.reduceSub]
    refine hK11 _ ?_
    clear hK11
    refine aw_cond rfl (fun h0 => ?_) (fun h0 => ?_)
    · skip
      refine aw_ops zT fun K12 hK12 => ?_
      simp only [amset, amlib, zset, eq_self, ↓reduceIte, reduceCtorEq, Nat.reduceBEq, Nat.reduceEqDiff, Nat.reduceAdd, Nat.reduceMul, Nat.reduceLeDiff, Nat.reduceLT, Nat.reduceSub]
      refine hK12 _ ?_
      clear hK12
      refine aw_ret ?_
      show resOf zG _ [.tmp 4] = some _
      simp only [amset, amlib, zset, eq_self, ↓reduceIte, reduceCtorEq, Nat.reduceBEq, Nat.reduceEqDiff, Nat.reduceAdd, Nat.reduceMul, Nat.reduceLeDiff, Nat.reduceLT, Nat.reduceSub]
      rw [harg, ixF_mid hI (by simpa using h0), Nat.zero_add]
    · skip
      refine aw_skip ?_
      simp only [thenQ, blkQ, if_true, reduceIte, Nat.reduceEqDiff, eq_self]
      refine hK9 _ ?_
      clear hK9
      refine aw_region zT ?_
      simp only [amset, amlib, zset, eq_self, ↓reduceIte, reduceCtorEq, Nat.reduceBEq, Nat.reduceEqDiff, Nat.reduceAdd, Nat.reduceMul, Nat.reduceLeDiff, Nat.reduceLT, Nat.reduceSub]
      refine ⟨⟨by omega, by omega⟩, ?_⟩
      refine hR _ (by rw [List.any_append, hI]; simpa using h0) ?_
      refine Reach.to ?_ ?_
      · simp only [amset, amlib, zset, eq_self, ↓reduceIte, reduceCtorEq, Nat.reduceBEq, Nat.reduceEqDiff, Nat.reduceAdd, Nat.reduceMul, Nat.reduceLeDiff, Nat.reduceLT, Nat.reduceSub] <;> simp [eq_self]
      · simp only [amset, amlib, zset, eq_self, ↓reduceIte, reduceCtorEq, Nat.reduceBEq, Nat.reduceEqDiff, Nat.reduceAdd, Nat.reduceMul, Nat.reduceLeDiff, Nat.reduceLT, Nat.reduceSub] <;> simp [eq_self]
theorem prog100 : Tryz.prog.funcs[100]? = some Tryz.f100 := by kernel_rfl
theorem holds100 (F : Nat) (p : Tk → Bool) (l : List Tk) (hF : ∀ y ∈ l, Holds Tryz.prog zG F [.agg [.str y.name, .int .i64 y.period, .int .i64 y.deadline, .str y.channel, .str y.param, .int .i64 y.within, .sl 7 (encSs y.body), .int .i64 y.pos]] [.c (.bool (p y))]) : Holds Tryz.prog zG 100 [.c (.sl 8 (encTs l)), .c (.fn F)] [.c (.bool (l.any p))] := by
  refine holds_of_body zT prog100 rfl rfl rfl (by simp [Tryz.f100]) ?_
  refine aw_ops zT fun K1 hK1 => ?_
  simp only [amset, amlib, zset, eq_self, ↓reduceIte, reduceCtorEq, Nat.reduceBEq, Nat.reduceEqDiff, Nat.reduceAdd, Nat.reduceMul, Nat.reduceLeDiff, Nat.reduceLT, Nat.reduceSub]
  refine hK1 _ ?_
  clear hK1
  refine aw_ops zT fun K2 hK2 => ?_
  simp only [amset, amlib, zset, eq_self, ↓reduceIte, reduceCtorEq, Nat.reduceBEq, Nat.reduceEqDiff, Nat.reduceAdd, Nat.reduceMul, Nat.reduceLeDiff, Nat.reduceLT, Nat.reduceSub]
  refine ⟨_, holds173 F p l hF, ?_⟩
  simp only [later]
  simp only [amset, amlib, zset, eq_self, ↓reduceIte, reduceCtorEq, Nat.reduceBEq, Nat.reduceEqDiff, Nat.reduceAdd, Nat.reduceMul, Nat.reduceLeDiff, Nat.reduceLT, Nat.reduceSub]
  refine hK2 _ ?_
  clear hK2
  refine aw_ret ?_
  show resOf zG _ [.tmp 4] = some _
  simp only [amset, amlib, zset, eq_self, ↓reduceIte, reduceCtorEq, Nat.reduceBEq, Nat.reduceEqDiff, Nat.reduceAdd, Nat.reduceMul, Nat.reduceLeDiff, Nat.reduceLT, Nat.reduceSub]
  rw [ixF_ge]
theorem prog205 : Tryz.prog.funcs[205]? = some Tryz.f205 := by kernel_rfl
theorem holds205 (q : List UInt8) (l : List (List UInt8)) : Holds Tryz.prog zG 205 [.c (.sl 1 (encStrs l)), .c (.str q)] [.c (.int .i64 (ixF (fun k => q == k) 0 l))] := by
  refine holds_of_body zT prog205 rfl rfl rfl (by simp [Tryz.f205]) ?_
  refine aw_ops zT fun K1 hK1 => ?_
  simp only [amset, amlib, zset, eq_self, ↓reduceIte, reduceCtorEq, Nat.reduceBEq, Nat.reduceEqDiff, Nat.reduceAdd, Nat.reduceMul, Nat.reduceLeDiff, Nat.reduceLT, Nat.reduceSub]
  refine hK1 _ ?_
  clear hK1
  refine aw_seq fun K2 hK2 => ?_
  refine aw_ops zT fun K3 hK3 => ?_
  simp only [amset, amlib, zset, eq_self, ↓reduceIte, reduceCtorEq, Nat.reduceBEq, Nat.reduceEqDiff, Nat.reduceAdd, Nat.reduceMul, Nat.reduceLeDiff, Nat.reduceLT, Nat.reduceSub]
  intros
  refine hK3 _ ?_
  clear hK3
  refine aw_block ?_
  refine aw_range (α := (List UInt8)) (l) (fun dn => dn.any (fun k => q == k) = false) (fun dn => [(8, .cell (.c (.int .i64 dn.length)))]) (fun dn => []) [] [4, 5, 8, 9, 10, 11, 12, 13, 14, 15, 16, 17, 18] [] rfl ?_ ?_ ?_ ?_
  · simp only [amset, amlib, zset, eq_self, ↓reduceIte, reduceCtorEq, Nat.reduceBEq, Nat.reduceEqDiff, Nat.reduceAdd, Nat.reduceMul, Nat.reduceLeDiff, Nat.reduceLT, Nat.reduceSub] <;> simp [eq_self]
  · simp only [amset, amlib, zset, eq_self, ↓reduceIte, reduceCtorEq, Nat.reduceBEq, Nat.reduceEqDiff, Nat.reduceAdd, Nat.reduceMul, Nat.reduceLeDiff, Nat.reduceLT, Nat.reduceSub] <;> simp [eq_self]
  · intro hI R
    refine aw_norm (by simp only [amset, amlib, zset, eq_self, ↓reduceIte, reduceCtorEq, Nat.reduceBEq, Nat.reduceEqDiff, Nat.reduceAdd, Nat.reduceMul, Nat.reduceLeDiff, Nat.reduceLT, Nat.reduceSub]; exact rfl) ?_
    refine aw_ops zT fun K4 hK4 => ?_
    simp only [amset, amlib, zset, eq_self, ↓reduceIte, reduceCtorEq, Nat.reduceBEq, Nat.reduceEqDiff, Nat.reduceAdd, Nat.reduceMul, Nat.reduceLeDiff, Nat.reduceLT, Nat.reduceSub]
    refine hK4 _ ?_
    clear hK4
    refine aw_seq fun K5 hK5 => ?_
    refine aw_cond (t := false) (by simp [evalO, S.get, amLook]) (fun h => nomatch h) (fun _ => ?_)
    refine aw_exit ?_
    simp only [thenQ, blkQ, if_true, reduceIte, Nat.reduceEqDiff, eq_self]
    refine hK2 _ ?_
    clear hK2
    refine aw_ops zT fun K6 hK6 => ?_
    simp only [amset, amlib, zset, eq_self, ↓reduceIte, reduceCtorEq, Nat.reduceBEq, Nat.reduceEqDiff, Nat.reduceAdd, Nat.reduceMul, Nat.reduceLeDiff, Nat.reduceLT, Nat.reduceSub]
    refine hK6 _ ?_
    clear hK6
    refine aw_ret ?_
    show resOf zG _ [.tmp 4] = some _
    simp only [amset, amlib, zset, eq_self, ↓reduceIte, reduceCtorEq, Nat.reduceBEq, Nat.reduceEqDiff, Nat.reduceAdd, Nat.reduceMul, Nat.reduceLeDiff, Nat.reduceLT, Nat.reduceSub]
    rw [ixF_none hI]
  · intro dn y td harg hI R hR
    have hl : (l).length = dn.length + (td.length + 1) := by rw [harg]; simp
    have hmem : y ∈ l := by rw [harg]; simp
    refine aw_norm (by simp only [amset, amlib, zset, eq_self, ↓reduceIte, reduceCtorEq, Nat.reduceBEq, Nat.reduceEqDiff, Nat.reduceAdd, Nat.reduceMul, Nat.reduceLeDiff, Nat.reduceLT, Nat.reduceSub]; exact rfl) ?_
    have hget : (encStrs (l)).getD dn.length [] = encStr y := by rw [harg]; exact encStrs_mid dn td y
    refine aw_ops zT fun K7 hK7 => ?_
    simp only [amset, amlib, zset, eq_self, ↓reduceIte, reduceCtorEq, Nat.reduceBEq, Nat.reduceEqDiff, Nat.reduceAdd, Nat.reduceMul, Nat.reduceLeDiff, Nat.reduceLT, Nat.reduceSub]
    refine hK7 _ ?_
    clear hK7
    refine aw_seq fun K8 hK8 => ?_
    refine aw_cond (t := true) (by simp [evalO, S.get, amLook]; omega) (fun _ => ?_) (fun h => nomatch h)
    refine aw_skip ?_
    simp only [thenQ, blkQ, if_true, reduceIte, Nat.reduceEqDiff, eq_self]
    refine hK8 _ ?_
    clear hK8
    refine aw_seq fun K9 hK9 => ?_
    refine aw_block ?_
    refine aw_ops zT fun K10 hK10 => ?_
    simp only [amset, amlib, zset, eq_self, ↓reduceIte, reduceCtorEq, Nat.reduceBEq, Nat.reduceEqDiff, Nat.reduceAdd, Nat.reduceMul, Nat.reduceLeDiff, Nat.reduceLT, Nat.reduceSub]
    refine hK10 _ ?_
    clear hK10
    refine aw_ops zT fun K11 hK11 => ?_
    simp only [amset, amlib, zset, hget, eq_self, ↓reduceIte, reduceCtorEq, Nat.reduceBEq, Nat.reduceEqDiff, Nat.reduceAdd, Nat.reduceMul, Nat.reduceLeDiff, Nat.reduceLT, Nat.reduceSub]
    refine ⟨⟨by omega, by omega⟩, ?_⟩
    refine hK11 _ ?_
    clear hK11
    refine aw_cond rfl (fun h0 => ?_) (fun h0 => ?_)
    · skip
      refine aw_ops zT fun K12 hK12 => ?_
      simp only [amset, amlib, zset, eq_self, ↓reduceIte, reduceCtorEq, Nat.reduceBEq, Nat.reduceEqDiff, Nat.reduceAdd, Nat.reduceMul, Nat.reduceLeDiff, Nat.reduceLT, Nat.reduceSub]
      refine hK12 _ ?_
      clear hK12
      refine aw_ret ?_
      show resOf zG _ [.tmp 4] = some _
      simp only [amset, amlib, zset, eq_self, ↓reduceIte, reduceCtorEq, Nat.reduceBEq, Nat.reduceEqDiff, Nat.reduceAdd, Nat.reduceMul, Nat.reduceLeDiff, Nat.reduceLT, Nat.reduceSub]
      rw [harg, ixF_mid hI h0, Nat.zero_add]
    · skip
      refine aw_skip ?_
      simp only [thenQ, blkQ, if_true, reduceIte, Nat.reduceEqDiff, eq_self]
      refine hK9 _ ?_
      clear hK9
      refine aw_region zT ?_
      simp only [amset, amlib, zset, eq_self, ↓reduceIte, reduceCtorEq, Nat.reduceBEq, Nat.reduceEqDiff, Nat.reduceAdd, Nat.reduceMul, Nat.reduceLeDiff, Nat.reduceLT, Nat.reduceSub]
      refine ⟨⟨by omega, by omega⟩, ?_⟩
      refine hR _ (by rw [List.any_append, hI]; simpa using h0) ?_
      refine Reach.to ?_ ?_
      · simp only [amset, amlib, zset, eq_self, ↓reduceIte, reduceCtorEq, Nat.reduceBEq, Nat.reduceEqDiff, Nat.reduceAdd, Nat.reduceMul, Nat.reduceLeDiff, Nat.reduceLT, Nat.reduceSub] <;> simp [eq_self]
      · simp only [amset, amlib, zset, eq_self, ↓reduceIte, reduceCtorEq, Nat.reduceBEq, Nat.reduceEqDiff, Nat.reduceAdd, Nat.reduceMul, Nat.reduceLeDiff, Nat.reduceLT, Nat.reduceSub] <;> simp [eq_self]
theorem prog170 : Tryz.prog.funcs[170]? = some Tryz.f170 := by kernel_rfl
theorem holds170 (q : List UInt8) (l : List (List UInt8)) : Holds Tryz.prog zG 170 [.c (.sl 1 (encStrs l)), .c (.str q)] [.c (.bool (l.any fun k => q == k))] := by
  refine holds_of_body zT prog170 rfl rfl rfl (by simp [Tryz.f170]) ?_
  refine aw_ops zT fun K1 hK1 => ?_
  simp only [amset, amlib, zset, eq_self, ↓reduceIte, reduceCtorEq, Nat.reduceBEq, Nat.reduceEqDiff, Nat.reduceAdd, Nat.reduceMul, Nat.reduceLeDiff, Nat.reduceLT, Nat.reduceSub]
  refine hK1 _ ?_
  clear hK1
  refine aw_ops zT fun K2 hK2 => ?_
  simp only [amset, amlib, zset, eq_self, ↓reduceIte, reduceCtorEq, Nat.reduceBEq, Nat.reduceEqDiff, Nat.reduceAdd, Nat.reduceMul, Nat.reduceLeDiff, Nat.reduceLT, Nat.reduceSub]
  refine ⟨_, holds205 q l, ?_⟩
  simp only [later]
  simp only [amset, amlib, zset, eq_self, ↓reduceIte, reduceCtorEq, Nat.reduceBEq, Nat.reduceEqDiff, Nat.reduceAdd, Nat.reduceMul, Nat.reduceLeDiff, Nat.reduceLT, Nat.reduceSub]
  refine hK2 _ ?_
  clear hK2
  refine aw_ret ?_
  show resOf zG _ [.tmp 4] = some _
  simp only [amset, amlib, zset, eq_self, ↓reduceIte, reduceCtorEq, Nat.reduceBEq, Nat.reduceEqDiff, Nat.reduceAdd, Nat.reduceMul, Nat.reduceLeDiff, Nat.reduceLT, Nat.reduceSub]
  rw [ixF_ge]
end Go.Proofs.Am
set_option maxRecDepth 100000
set_option maxHeartbeats 4000000
namespace Go.Proofs.Am
theorem len_ge (s : List UInt8) : decide ((s.length : Int) ≥ 1) = !(s == []) := by
  cases s with
  | nil => rfl
  | cons x r => simp; omega
theorem ident_eq (s : List UInt8) : ident s = (bytesOk 0 s && !(s == []) && decide ((s.length : Int) ≤ 32) && !(kws.any fun k => s == k)) := by
  have h : ∀ l : List (List UInt8), (!(l.any fun k => s == k)) = l.all (fun k => !(s == k)) := by
    intro l
    induction l with
    | nil => rfl
    | cons x r ih => rw [List.any_cons, List.all_cons, Bool.not_or, ih]
  rw [h, ident, len_ge]
  cases kws.all (fun k => !(s == k)) <;> cases bytesOk 0 s <;> cases (s == []) <;> cases decide ((s.length : Int) ≤ 32) <;> rfl
theorem prog171 : Tryz.prog.funcs[171]? = some Tryz.f171 := by kernel_rfl
theorem holds171  : Holds Tryz.prog zG 171 [] [.c (.sl 1 (encStrs kws))] := by
  refine holds_of_body zT prog171 rfl rfl rfl (by simp [Tryz.f171]) ?_
  refine aw_ops zT fun K1 hK1 => ?_
  simp only [amset, amlib, zset, eq_self, ↓reduceIte, reduceCtorEq, Nat.reduceBEq, Nat.reduceEqDiff, Nat.reduceAdd, Nat.reduceMul, Nat.reduceLeDiff, Nat.reduceLT, Nat.reduceSub]
  refine hK1 _ ?_
  clear hK1
  refine aw_ops zT fun K2 hK2 => ?_
  simp only [amset, amlib, zset, eq_self, ↓reduceIte, reduceCtorEq, Nat.reduceBEq, Nat.reduceEqDiff, Nat.reduceAdd, Nat.reduceMul, Nat.reduceLeDiff, Nat.reduceLT, Nat.reduceSub]
  refine ⟨_, holds206, ?_⟩
  simp only [later]
  simp only [amset, amlib, zset, eq_self, ↓reduceIte, reduceCtorEq, Nat.reduceBEq, Nat.reduceEqDiff, Nat.reduceAdd, Nat.reduceMul, Nat.reduceLeDiff, Nat.reduceLT, Nat.reduceSub]
  refine hK2 _ ?_
  clear hK2
  refine aw_ret ?_
  show resOf zG _ [.tmp 0] = some _
  simp only [amset, amlib, zset, eq_self, ↓reduceIte, reduceCtorEq, Nat.reduceBEq, Nat.reduceEqDiff, Nat.reduceAdd, Nat.reduceMul, Nat.reduceLeDiff, Nat.reduceLT, Nat.reduceSub]
theorem prog96 : Tryz.prog.funcs[96]? = some Tryz.f96 := by kernel_rfl
theorem holds96 (s : List UInt8) : Holds Tryz.prog zG 96 [.c (.str s)] [.c (.bool (ident s))] := by
  refine holds_of_body zT prog96 rfl rfl rfl (by simp [Tryz.f96]) ?_
  refine aw_ops zT fun K1 hK1 => ?_
  simp only [amset, amlib, zset, eq_self, ↓reduceIte, reduceCtorEq, Nat.reduceBEq, Nat.reduceEqDiff, Nat.reduceAdd, Nat.reduceMul, Nat.reduceLeDiff, Nat.reduceLT, Nat.reduceSub]
  refine hK1 _ ?_
  clear hK1
  refine aw_seq fun K2 hK2 => ?_
  refine aw_ops zT fun K3 hK3 => ?_
  simp only [amset, amlib, zset, eq_self, ↓reduceIte, reduceCtorEq, Nat.reduceBEq, Nat.reduceEqDiff, Nat.reduceAdd, Nat.reduceMul, Nat.reduceLeDiff, Nat.reduceLT, Nat.reduceSub]
  intros
  refine hK3 _ ?_
  clear hK3
  refine aw_block ?_
  refine aw_to ⟨[(0, .cell (.c (.str s))), (7, .cell (.c (.int .i64 s.length))), (8, .cell (.c (.int .i64 0)))], []⟩ ?_ ?_ ?_
  · simp only [amset, amlib, zset, eq_self, ↓reduceIte, reduceCtorEq, Nat.reduceBEq, Nat.reduceEqDiff, Nat.reduceAdd, Nat.reduceMul, Nat.reduceLeDiff, Nat.reduceLT, Nat.reduceSub] <;> simp [eq_self]
  · simp only [amset, amlib, zset, eq_self, ↓reduceIte, reduceCtorEq, Nat.reduceBEq, Nat.reduceEqDiff, Nat.reduceAdd, Nat.reduceMul, Nat.reduceLeDiff, Nat.reduceLT, Nat.reduceSub] <;> simp [eq_self]
  refine aw_range (α := UInt8) (s) (fun dn => bytesOk 0 dn = true) (fun dn => [(8, .cell (.c (.int .i64 dn.length)))]) (fun dn => []) [] [2, 3, 4, 5, 8, 9, 10, 11, 12, 13, 14, 15, 16, 17, 18, 19, 20, 21, 22, 23, 24, 25, 26, 27, 28, 29, 30, 31, 32, 33, 34, 35, 36, 37, 38, 39, 40, 41, 42, 43, 44, 45, 46] [] rfl ?_ ?_ ?_ ?_
  · simp only [amset, amlib, zset, eq_self, ↓reduceIte, reduceCtorEq, Nat.reduceBEq, Nat.reduceEqDiff, Nat.reduceAdd, Nat.reduceMul, Nat.reduceLeDiff, Nat.reduceLT, Nat.reduceSub] <;> simp [eq_self]
  · simp only [amset, amlib, zset, eq_self, ↓reduceIte, reduceCtorEq, Nat.reduceBEq, Nat.reduceEqDiff, Nat.reduceAdd, Nat.reduceMul, Nat.reduceLeDiff, Nat.reduceLT, Nat.reduceSub] <;> simp [eq_self]
  · intro hI R
    refine aw_norm (by simp only [amset, amlib, zset, eq_self, ↓reduceIte, reduceCtorEq, Nat.reduceBEq, Nat.reduceEqDiff, Nat.reduceAdd, Nat.reduceMul, Nat.reduceLeDiff, Nat.reduceLT, Nat.reduceSub]; exact rfl) ?_
    refine aw_ops zT fun K4 hK4 => ?_
    simp only [amset, amlib, zset, eq_self, ↓reduceIte, reduceCtorEq, Nat.reduceBEq, Nat.reduceEqDiff, Nat.reduceAdd, Nat.reduceMul, Nat.reduceLeDiff, Nat.reduceLT, Nat.reduceSub]
    refine hK4 _ ?_
    clear hK4
    refine aw_seq fun K5 hK5 => ?_
    refine aw_cond (t := false) (by simp [evalO, S.get, amLook]) (fun h => nomatch h) (fun _ => ?_)
    refine aw_exit ?_
    simp only [thenQ, blkQ, if_true, reduceIte, Nat.reduceEqDiff, eq_self]
    refine hK2 _ ?_
    clear hK2
    refine aw_ops zT fun K6 hK6 => ?_
    cases f1 : (!(s == [])) with
    | true =>
      cases f2 : decide ((s.length : Int) ≤ 32) with
      | true =>
        simp only [amset, amlib, zset, f1, f2, eq_self, ↓reduceIte, reduceCtorEq, Nat.reduceBEq, Nat.reduceEqDiff, Nat.reduceAdd, Nat.reduceMul, Nat.reduceLeDiff, Nat.reduceLT, Nat.reduceSub]
        intros
        refine ⟨_, holds171, ?_⟩
        simp only [later]
        simp only [amset, amlib, zset, f1, f2, eq_self, ↓reduceIte, reduceCtorEq, Nat.reduceBEq, Nat.reduceEqDiff, Nat.reduceAdd, Nat.reduceMul, Nat.reduceLeDiff, Nat.reduceLT, Nat.reduceSub]
        refine ⟨_, holds170 s kws, ?_⟩
        simp only [later]
        simp only [amset, amlib, zset, f1, f2, eq_self, ↓reduceIte, reduceCtorEq, Nat.reduceBEq, Nat.reduceEqDiff, Nat.reduceAdd, Nat.reduceMul, Nat.reduceLeDiff, Nat.reduceLT, Nat.reduceSub]
        refine hK6 _ ?_
        clear hK6
        refine aw_ret ?_
        show resOf zG _ [.tmp 2] = some _
        simp only [amset, amlib, zset, eq_self, ↓reduceIte, reduceCtorEq, Nat.reduceBEq, Nat.reduceEqDiff, Nat.reduceAdd, Nat.reduceMul, Nat.reduceLeDiff, Nat.reduceLT, Nat.reduceSub]
        simp only [ident_eq, hI, f1, f2, Bool.true_or, Bool.or_true, Bool.false_or, Bool.or_false, Bool.true_and, Bool.and_true, Bool.false_and, Bool.and_false, Bool.not_true, Bool.not_false, if_true, if_false, ↓reduceIte, Bool.false_eq_true]
      | false =>
        simp only [amset, amlib, zset, f1, f2, eq_self, ↓reduceIte, reduceCtorEq, Nat.reduceBEq, Nat.reduceEqDiff, Nat.reduceAdd, Nat.reduceMul, Nat.reduceLeDiff, Nat.reduceLT, Nat.reduceSub]
        intros
        refine hK6 _ ?_
        clear hK6
        refine aw_ret ?_
        show resOf zG _ [.tmp 2] = some _
        simp only [amset, amlib, zset, eq_self, ↓reduceIte, reduceCtorEq, Nat.reduceBEq, Nat.reduceEqDiff, Nat.reduceAdd, Nat.reduceMul, Nat.reduceLeDiff, Nat.reduceLT, Nat.reduceSub]
        simp only [ident_eq, hI, f1, f2, Bool.true_or, Bool.or_true, Bool.false_or, Bool.or_false, Bool.true_and, Bool.and_true, Bool.false_and, Bool.and_false, Bool.not_true, Bool.not_false, if_true, if_false, ↓reduceIte, Bool.false_eq_true]
    | false =>
      simp only [amset, amlib, zset, f1, eq_self, ↓reduceIte, reduceCtorEq, Nat.reduceBEq, Nat.reduceEqDiff, Nat.reduceAdd, Nat.reduceMul, Nat.reduceLeDiff, Nat.reduceLT, Nat.reduceSub]
      refine hK6 _ ?_
      clear hK6
      refine aw_ret ?_
      show resOf zG _ [.tmp 2] = some _
      simp only [amset, amlib, zset, eq_self, ↓reduceIte, reduceCtorEq, Nat.reduceBEq, Nat.reduceEqDiff, Nat.reduceAdd, Nat.reduceMul, Nat.reduceLeDiff, Nat.reduceLT, Nat.reduceSub]
      simp only [ident_eq, hI, f1, Bool.true_or, Bool.or_true, Bool.false_or, Bool.or_false, Bool.true_and, Bool.and_true, Bool.false_and, Bool.and_false, Bool.not_true, Bool.not_false, if_true, if_false, ↓reduceIte, Bool.false_eq_true]
  · intro dn y td harg hI R hR
    have hl : (s).length = dn.length + (td.length + 1) := by rw [harg]; simp
    have hmem : y ∈ s := by rw [harg]; simp
    refine aw_norm (by simp only [amset, amlib, zset, eq_self, ↓reduceIte, reduceCtorEq, Nat.reduceBEq, Nat.reduceEqDiff, Nat.reduceAdd, Nat.reduceMul, Nat.reduceLeDiff, Nat.reduceLT, Nat.reduceSub]; exact rfl) ?_
    have hget : s.getD dn.length 0 = y := by rw [harg]; simp
    refine aw_ops zT fun K7 hK7 => ?_
    simp only [amset, amlib, zset, eq_self, ↓reduceIte, reduceCtorEq, Nat.reduceBEq, Nat.reduceEqDiff, Nat.reduceAdd, Nat.reduceMul, Nat.reduceLeDiff, Nat.reduceLT, Nat.reduceSub]
    refine hK7 _ ?_
    clear hK7
    refine aw_seq fun K8 hK8 => ?_
    refine aw_cond (t := true) (by simp [evalO, S.get, amLook]; omega) (fun _ => ?_) (fun h => nomatch h)
    refine aw_skip ?_
    simp only [thenQ, blkQ, if_true, reduceIte, Nat.reduceEqDiff, eq_self]
    refine hK8 _ ?_
    clear hK8
    refine aw_seq fun K9 hK9 => ?_
    refine aw_block ?_
    refine aw_ops zT fun K10 hK10 => ?_
    simp only [amset, amlib, zset, eq_self, ↓reduceIte, reduceCtorEq, Nat.reduceBEq, Nat.reduceEqDiff, Nat.reduceAdd, Nat.reduceMul, Nat.reduceLeDiff, Nat.reduceLT, Nat.reduceSub]
    refine hK10 _ ?_
    clear hK10
    refine aw_ops zT fun K11 hK11 => ?_
    simp only [amset, amlib, zset, hget, eq_self, ↓reduceIte, reduceCtorEq, Nat.reduceBEq, Nat.reduceEqDiff, Nat.reduceAdd, Nat.reduceMul, Nat.reduceLeDiff, Nat.reduceLT, Nat.reduceSub]
    refine ⟨⟨by omega, by omega⟩, ?_⟩
    refine hK11 _ ?_
    clear hK11
    refine aw_ops zT fun K12 hK12 => ?_
    have keyK12 : ∀ E B, envIn E ([(0, .cell (.c (.str s))), (7, .cell (.c (.int .i64 s.length))), (8, .cell (.c (.int .i64 dn.length))), (3, .cell (.c (.int .i64 dn.length))), (4, .cell (.c (.int .u8 y.toNat))), (5, .cell (.c (.bool (isLetter y))))] : List (Nat × V)) → envIn B ([] : List (Nat × List Cell)) → K12 ⟨E, B⟩ := by
      intro E B he hb
      refine hK12 _ (aw_to ⟨[(0, .cell (.c (.str s))), (7, .cell (.c (.int .i64 s.length))), (8, .cell (.c (.int .i64 dn.length))), (3, .cell (.c (.int .i64 dn.length))), (4, .cell (.c (.int .u8 y.toNat))), (5, .cell (.c (.bool (isLetter y))))], []⟩ he hb ?_)
      refine aw_ops zT fun K13 hK13 => ?_
      cases l : isLetter y with
      | true =>
        simp only [amset, amlib, zset, l, eq_self, ↓reduceIte, reduceCtorEq, Nat.reduceBEq, Nat.reduceEqDiff, Nat.reduceAdd, Nat.reduceMul, Nat.reduceLeDiff, Nat.reduceLT, Nat.reduceSub]
        refine hK13 _ ?_
        clear hK13
        refine aw_cond (t := false) rfl (fun h => nomatch h) (fun _ => ?_)
        refine aw_skip ?_
        simp only [thenQ, blkQ, if_true, reduceIte, Nat.reduceEqDiff, eq_self]
        refine hK9 _ ?_
        clear hK9
        refine aw_region zT ?_
        simp only [amset, amlib, zset, eq_self, ↓reduceIte, reduceCtorEq, Nat.reduceBEq, Nat.reduceEqDiff, Nat.reduceAdd, Nat.reduceMul, Nat.reduceLeDiff, Nat.reduceLT, Nat.reduceSub]
        refine ⟨⟨by omega, by omega⟩, ?_⟩
        refine hR _ (by rw [bytesOk_append, hI]; simp only [bytesOk, okB, Nat.zero_add]; simp only [l]; rfl) ?_
        refine Reach.to ?_ ?_
        · simp only [amset, amlib, zset, eq_self, ↓reduceIte, reduceCtorEq, Nat.reduceBEq, Nat.reduceEqDiff, Nat.reduceAdd, Nat.reduceMul, Nat.reduceLeDiff, Nat.reduceLT, Nat.reduceSub] <;> simp [eq_self]
        · simp only [amset, amlib, zset, eq_self, ↓reduceIte, reduceCtorEq, Nat.reduceBEq, Nat.reduceEqDiff, Nat.reduceAdd, Nat.reduceMul, Nat.reduceLeDiff, Nat.reduceLT, Nat.reduceSub] <;> simp [eq_self]
      | false =>
        cases e1 : ((dn.length : Int) == 0) with
        | true =>
          simp only [amset, amlib, zset, l, e1, eq_self, ↓reduceIte, reduceCtorEq, Nat.reduceBEq, Nat.reduceEqDiff, Nat.reduceAdd, Nat.reduceMul, Nat.reduceLeDiff, Nat.reduceLT, Nat.reduceSub]
          refine hK13 _ ?_
          clear hK13
          refine aw_cond (t := true) rfl (fun _ => ?_) (fun h => nomatch h)
          refine aw_ops zT fun K14 hK14 => ?_
          simp only [amset, amlib, zset, eq_self, ↓reduceIte, reduceCtorEq, Nat.reduceBEq, Nat.reduceEqDiff, Nat.reduceAdd, Nat.reduceMul, Nat.reduceLeDiff, Nat.reduceLT, Nat.reduceSub]
          refine hK14 _ ?_
          clear hK14
          refine aw_ret ?_
          show resOf zG _ [.tmp 2] = some _
          simp only [amset, amlib, zset, eq_self, ↓reduceIte, reduceCtorEq, Nat.reduceBEq, Nat.reduceEqDiff, Nat.reduceAdd, Nat.reduceMul, Nat.reduceLeDiff, Nat.reduceLT, Nat.reduceSub]
          have hb : bytesOk 0 s = false := by
            rw [harg, bytesOk_append]
            simp only [bytesOk, okB, Nat.zero_add, l, e1]
            simp
          simp [ident, hb]
        | false =>
          cases e2 : decide ((y.toNat : Int) < 48) with
          | true =>
            simp only [amset, amlib, zset, l, e1, e2, eq_self, ↓reduceIte, reduceCtorEq, Nat.reduceBEq, Nat.reduceEqDiff, Nat.reduceAdd, Nat.reduceMul, Nat.reduceLeDiff, Nat.reduceLT, Nat.reduceSub]
            refine hK13 _ ?_
            clear hK13
            refine aw_cond (t := true) rfl (fun _ => ?_) (fun h => nomatch h)
            refine aw_ops zT fun K15 hK15 => ?_
            simp only [amset, amlib, zset, eq_self, ↓reduceIte, reduceCtorEq, Nat.reduceBEq, Nat.reduceEqDiff, Nat.reduceAdd, Nat.reduceMul, Nat.reduceLeDiff, Nat.reduceLT, Nat.reduceSub]
            refine hK15 _ ?_
            clear hK15
            refine aw_ret ?_
            show resOf zG _ [.tmp 2] = some _
            simp only [amset, amlib, zset, eq_self, ↓reduceIte, reduceCtorEq, Nat.reduceBEq, Nat.reduceEqDiff, Nat.reduceAdd, Nat.reduceMul, Nat.reduceLeDiff, Nat.reduceLT, Nat.reduceSub]
            have hb : bytesOk 0 s = false := by
              rw [harg, bytesOk_append]
              simp only [bytesOk, okB, Nat.zero_add, l, e1, e2]
              simp
            simp [ident, hb]
          | false =>
            cases e3 : decide ((y.toNat : Int) > 57) with
            | true =>
              simp only [amset, amlib, zset, l, e1, e2, e3, eq_self, ↓reduceIte, reduceCtorEq, Nat.reduceBEq, Nat.reduceEqDiff, Nat.reduceAdd, Nat.reduceMul, Nat.reduceLeDiff, Nat.reduceLT, Nat.reduceSub]
              refine hK13 _ ?_
              clear hK13
              refine aw_cond (t := true) rfl (fun _ => ?_) (fun h => nomatch h)
              refine aw_ops zT fun K16 hK16 => ?_
              simp only [amset, amlib, zset, eq_self, ↓reduceIte, reduceCtorEq, Nat.reduceBEq, Nat.reduceEqDiff, Nat.reduceAdd, Nat.reduceMul, Nat.reduceLeDiff, Nat.reduceLT, Nat.reduceSub]
              refine hK16 _ ?_
              clear hK16
              refine aw_ret ?_
              show resOf zG _ [.tmp 2] = some _
              simp only [amset, amlib, zset, eq_self, ↓reduceIte, reduceCtorEq, Nat.reduceBEq, Nat.reduceEqDiff, Nat.reduceAdd, Nat.reduceMul, Nat.reduceLeDiff, Nat.reduceLT, Nat.reduceSub]
              have hb : bytesOk 0 s = false := by
                rw [harg, bytesOk_append]
                simp only [bytesOk, okB, Nat.zero_add, l, e1, e2, e3]
                simp
              simp [ident, hb]
            | false =>
              simp only [amset, amlib, zset, l, e1, e2, e3, eq_self, ↓reduceIte, reduceCtorEq, Nat.reduceBEq, Nat.reduceEqDiff, Nat.reduceAdd, Nat.reduceMul, Nat.reduceLeDiff, Nat.reduceLT, Nat.reduceSub]
              refine hK13 _ ?_
              clear hK13
              refine aw_cond (t := false) rfl (fun h => nomatch h) (fun _ => ?_)
              refine aw_skip ?_
              simp only [thenQ, blkQ, if_true, reduceIte, Nat.reduceEqDiff, eq_self]
              refine hK9 _ ?_
              clear hK9
              refine aw_region zT ?_
              simp only [amset, amlib, zset, eq_self, ↓reduceIte, reduceCtorEq, Nat.reduceBEq, Nat.reduceEqDiff, Nat.reduceAdd, Nat.reduceMul, Nat.reduceLeDiff, Nat.reduceLT, Nat.reduceSub]
              refine ⟨⟨by omega, by omega⟩, ?_⟩
              refine hR _ (by rw [bytesOk_append, hI]; simp only [bytesOk, okB, Nat.zero_add]; simp only [l, e1, e2, e3]; rfl) ?_
              refine Reach.to ?_ ?_
              · simp only [amset, amlib, zset, eq_self, ↓reduceIte, reduceCtorEq, Nat.reduceBEq, Nat.reduceEqDiff, Nat.reduceAdd, Nat.reduceMul, Nat.reduceLeDiff, Nat.reduceLT, Nat.reduceSub] <;> simp [eq_self]
              · simp only [amset, amlib, zset, eq_self, ↓reduceIte, reduceCtorEq, Nat.reduceBEq, Nat.reduceEqDiff, Nat.reduceAdd, Nat.reduceMul, Nat.reduceLeDiff, Nat.reduceLT, Nat.reduceSub] <;> simp [eq_self]
    cases a1 : decide ((y.toNat : Int) ≥ 97) with
    | true =>
      cases a2 : decide ((y.toNat : Int) ≤ 122) with
      | true =>
        simp only [amset, amlib, zset, a1, a2, eq_self, ↓reduceIte, reduceCtorEq, Nat.reduceBEq, Nat.reduceEqDiff, Nat.reduceAdd, Nat.reduceMul, Nat.reduceLeDiff, Nat.reduceLT, Nat.reduceSub]
        refine keyK12 _ _ ?_ ?_
        · simp only [amset, amlib, zset, eq_self, ↓reduceIte, reduceCtorEq, Nat.reduceBEq, Nat.reduceEqDiff, Nat.reduceAdd, Nat.reduceMul, Nat.reduceLeDiff, Nat.reduceLT, Nat.reduceSub] <;> simp [isLetter, a1, a2]
        · simp only [amset, amlib, zset, eq_self, ↓reduceIte, reduceCtorEq, Nat.reduceBEq, Nat.reduceEqDiff, Nat.reduceAdd, Nat.reduceMul, Nat.reduceLeDiff, Nat.reduceLT, Nat.reduceSub]
      | false =>
        cases b1 : decide ((y.toNat : Int) ≥ 65) with
        | true =>
          cases b2 : decide ((y.toNat : Int) ≤ 90) with
          | true =>
            simp only [amset, amlib, zset, a1, a2, b1, b2, eq_self, ↓reduceIte, reduceCtorEq, Nat.reduceBEq, Nat.reduceEqDiff, Nat.reduceAdd, Nat.reduceMul, Nat.reduceLeDiff, Nat.reduceLT, Nat.reduceSub]
            refine keyK12 _ _ ?_ ?_
            · simp only [amset, amlib, zset, eq_self, ↓reduceIte, reduceCtorEq, Nat.reduceBEq, Nat.reduceEqDiff, Nat.reduceAdd, Nat.reduceMul, Nat.reduceLeDiff, Nat.reduceLT, Nat.reduceSub] <;> simp [isLetter, a1, a2, b1, b2]
            · simp only [amset, amlib, zset, eq_self, ↓reduceIte, reduceCtorEq, Nat.reduceBEq, Nat.reduceEqDiff, Nat.reduceAdd, Nat.reduceMul, Nat.reduceLeDiff, Nat.reduceLT, Nat.reduceSub]
          | false =>
            cases d : ((y.toNat : Int) == 95) with
            | true =>
              simp only [amset, amlib, zset, a1, a2, b1, b2, d, eq_self, ↓reduceIte, reduceCtorEq, Nat.reduceBEq, Nat.reduceEqDiff, Nat.reduceAdd, Nat.reduceMul, Nat.reduceLeDiff, Nat.reduceLT, Nat.reduceSub]
              refine keyK12 _ _ ?_ ?_
              · simp only [amset, amlib, zset, eq_self, ↓reduceIte, reduceCtorEq, Nat.reduceBEq, Nat.reduceEqDiff, Nat.reduceAdd, Nat.reduceMul, Nat.reduceLeDiff, Nat.reduceLT, Nat.reduceSub] <;> simp [isLetter, a1, a2, b1, b2, d]
              · simp only [amset, amlib, zset, eq_self, ↓reduceIte, reduceCtorEq, Nat.reduceBEq, Nat.reduceEqDiff, Nat.reduceAdd, Nat.reduceMul, Nat.reduceLeDiff, Nat.reduceLT, Nat.reduceSub]
            | false =>
              simp only [amset, amlib, zset, a1, a2, b1, b2, d, eq_self, ↓reduceIte, reduceCtorEq, Nat.reduceBEq, Nat.reduceEqDiff, Nat.reduceAdd, Nat.reduceMul, Nat.reduceLeDiff, Nat.reduceLT, Nat.reduceSub]
              refine keyK12 _ _ ?_ ?_
              · simp only [amset, amlib, zset, eq_self, ↓reduceIte, reduceCtorEq, Nat.reduceBEq, Nat.reduceEqDiff, Nat.reduceAdd, Nat.reduceMul, Nat.reduceLeDiff, Nat.reduceLT, Nat.reduceSub] <;> simp [isLetter, a1, a2, b1, b2, d]
              · simp only [amset, amlib, zset, eq_self, ↓reduceIte, reduceCtorEq, Nat.reduceBEq, Nat.reduceEqDiff, Nat.reduceAdd, Nat.reduceMul, Nat.reduceLeDiff, Nat.reduceLT, Nat.reduceSub]
        | false =>
          cases d : ((y.toNat : Int) == 95) with
          | true =>
            simp only [amset, amlib, zset, a1, a2, b1, d, eq_self, ↓reduceIte, reduceCtorEq, Nat.reduceBEq, Nat.reduceEqDiff, Nat.reduceAdd, Nat.reduceMul, Nat.reduceLeDiff, Nat.reduceLT, Nat.reduceSub]
            refine keyK12 _ _ ?_ ?_
            · simp only [amset, amlib, zset, eq_self, ↓reduceIte, reduceCtorEq, Nat.reduceBEq, Nat.reduceEqDiff, Nat.reduceAdd, Nat.reduceMul, Nat.reduceLeDiff, Nat.reduceLT, Nat.reduceSub] <;> simp [isLetter, a1, a2, b1, d]
            · simp only [amset, amlib, zset, eq_self, ↓reduceIte, reduceCtorEq, Nat.reduceBEq, Nat.reduceEqDiff, Nat.reduceAdd, Nat.reduceMul, Nat.reduceLeDiff, Nat.reduceLT, Nat.reduceSub]
          | false =>
            simp only [amset, amlib, zset, a1, a2, b1, d, eq_self, ↓reduceIte, reduceCtorEq, Nat.reduceBEq, Nat.reduceEqDiff, Nat.reduceAdd, Nat.reduceMul, Nat.reduceLeDiff, Nat.reduceLT, Nat.reduceSub]
            refine keyK12 _ _ ?_ ?_
            · simp only [amset, amlib, zset, eq_self, ↓reduceIte, reduceCtorEq, Nat.reduceBEq, Nat.reduceEqDiff, Nat.reduceAdd, Nat.reduceMul, Nat.reduceLeDiff, Nat.reduceLT, Nat.reduceSub] <;> simp [isLetter, a1, a2, b1, d]
            · simp only [amset, amlib, zset, eq_self, ↓reduceIte, reduceCtorEq, Nat.reduceBEq, Nat.reduceEqDiff, Nat.reduceAdd, Nat.reduceMul, Nat.reduceLeDiff, Nat.reduceLT, Nat.reduceSub]
    | false =>
      cases b1 : decide ((y.toNat : Int) ≥ 65) with
      | true =>
        cases b2 : decide ((y.toNat : Int) ≤ 90) with
        | true =>
          simp only [amset, amlib, zset, a1, b1, b2, eq_self, ↓reduceIte, reduceCtorEq, Nat.reduceBEq, Nat.reduceEqDiff, Nat.reduceAdd, Nat.reduceMul, Nat.reduceLeDiff, Nat.reduceLT, Nat.reduceSub]
          refine keyK12 _ _ ?_ ?_
          · simp only [amset, amlib, zset, eq_self, ↓reduceIte, reduceCtorEq, Nat.reduceBEq, Nat.reduceEqDiff, Nat.reduceAdd, Nat.reduceMul, Nat.reduceLeDiff, Nat.reduceLT, Nat.reduceSub] <;> simp [isLetter, a1, b1, b2]
          · simp only [amset, amlib, zset, eq_self, ↓reduceIte, reduceCtorEq, Nat.reduceBEq, Nat.reduceEqDiff, Nat.reduceAdd, Nat.reduceMul, Nat.reduceLeDiff, Nat.reduceLT, Nat.reduceSub]
        | false =>
          cases d : ((y.toNat : Int) == 95) with
          | true =>
            simp only [amset, amlib, zset, a1, b1, b2, d, eq_self, ↓reduceIte, reduceCtorEq, Nat.reduceBEq, Nat.reduceEqDiff, Nat.reduceAdd, Nat.reduceMul, Nat.reduceLeDiff, Nat.reduceLT, Nat.reduceSub]
            refine keyK12 _ _ ?_ ?_
            · simp only [amset, amlib, zset, eq_self, ↓reduceIte, reduceCtorEq, Nat.reduceBEq, Nat.reduceEqDiff, Nat.reduceAdd, Nat.reduceMul, Nat.reduceLeDiff, Nat.reduceLT, Nat.reduceSub] <;> simp [isLetter, a1, b1, b2, d]
            · simp only [amset, amlib, zset, eq_self, ↓reduceIte, reduceCtorEq, Nat.reduceBEq, Nat.reduceEqDiff, Nat.reduceAdd, Nat.reduceMul, Nat.reduceLeDiff, Nat.reduceLT, Nat.reduceSub]
          | false =>
            simp only [amset, amlib, zset, a1, b1, b2, d, eq_self, ↓reduceIte, reduceCtorEq, Nat.reduceBEq, Nat.reduceEqDiff, Nat.reduceAdd, Nat.reduceMul, Nat.reduceLeDiff, Nat.reduceLT, Nat.reduceSub]
            refine keyK12 _ _ ?_ ?_
            · simp only [amset, amlib, zset, eq_self, ↓reduceIte, reduceCtorEq, Nat.reduceBEq, Nat.reduceEqDiff, Nat.reduceAdd, Nat.reduceMul, Nat.reduceLeDiff, Nat.reduceLT, Nat.reduceSub] <;> simp [isLetter, a1, b1, b2, d]
            · simp only [amset, amlib, zset, eq_self, ↓reduceIte, reduceCtorEq, Nat.reduceBEq, Nat.reduceEqDiff, Nat.reduceAdd, Nat.reduceMul, Nat.reduceLeDiff, Nat.reduceLT, Nat.reduceSub]
      | false =>
        cases d : ((y.toNat : Int) == 95) with
        | true =>
          simp only [amset, amlib, zset, a1, b1, d, eq_self, ↓reduceIte, reduceCtorEq, Nat.reduceBEq, Nat.reduceEqDiff, Nat.reduceAdd, Nat.reduceMul, Nat.reduceLeDiff, Nat.reduceLT, Nat.reduceSub]
          refine keyK12 _ _ ?_ ?_
          · simp only [amset, amlib, zset, eq_self, ↓reduceIte, reduceCtorEq, Nat.reduceBEq, Nat.reduceEqDiff, Nat.reduceAdd, Nat.reduceMul, Nat.reduceLeDiff, Nat.reduceLT, Nat.reduceSub] <;> simp [isLetter, a1, b1, d]
          · simp only [amset, amlib, zset, eq_self, ↓reduceIte, reduceCtorEq, Nat.reduceBEq, Nat.reduceEqDiff, Nat.reduceAdd, Nat.reduceMul, Nat.reduceLeDiff, Nat.reduceLT, Nat.reduceSub]
        | false =>
          simp only [amset, amlib, zset, a1, b1, d, eq_self, ↓reduceIte, reduceCtorEq, Nat.reduceBEq, Nat.reduceEqDiff, Nat.reduceAdd, Nat.reduceMul, Nat.reduceLeDiff, Nat.reduceLT, Nat.reduceSub]
          refine keyK12 _ _ ?_ ?_
          · simp only [amset, amlib, zset, eq_self, ↓reduceIte, reduceCtorEq, Nat.reduceBEq, Nat.reduceEqDiff, Nat.reduceAdd, Nat.reduceMul, Nat.reduceLeDiff, Nat.reduceLT, Nat.reduceSub] <;> simp [isLetter, a1, b1, d]
          · simp only [amset, amlib, zset, eq_self, ↓reduceIte, reduceCtorEq, Nat.reduceBEq, Nat.reduceEqDiff, Nat.reduceAdd, Nat.reduceMul, Nat.reduceLeDiff, Nat.reduceLT, Nat.reduceSub]
end Go.Proofs.Am
set_option maxRecDepth 100000
set_option maxHeartbeats 4000000
namespace Go.Proofs.Am
def numA (n : Int) : Bool := decide (n ≥ 0) && decide (n ≤ 32767)
def signedA (n : Int) : Bool := decide (n ≥ -32767)
def tr (b : Bool) : Int := cond b 1 0
def w16 (n : Int) : Int := IntKind.i16.wrap n
def divW (a b : Int) : Int := if b == 0 then 0 else w16 (a.tdiv b)
def modW (a b : Int) : Int := if b == 0 then 0 else a.tmod b
theorem w16_eq (n : Int) : w16 n = (n + 32768) % 65536 - 32768 := by simp [w16, IntKind.wrap, IntKind.bits, IntKind.signed]; split <;> omega
theorem i64_same {n : Int} (h : -9223372036854775808 ≤ n ∧ n ≤ 9223372036854775807) : IntKind.i64.wrap n = n := by simp [IntKind.wrap, IntKind.bits, IntKind.signed]; split <;> omega
theorem prog98 : Tryz.prog.funcs[98]? = some Tryz.f98 := by kernel_rfl
theorem holds98 (n : Int) : Holds Tryz.prog zG 98 [.c (.int .i64 n)] [.c (.bool (numA n))] := by
  refine holds_of_body zT prog98 rfl rfl rfl (by simp [Tryz.f98]) ?_
  refine aw_ops zT fun K1 hK1 => ?_
  simp only [amset, amlib, zset, eq_self, ↓reduceIte, reduceCtorEq, Nat.reduceBEq, Nat.reduceEqDiff, Nat.reduceAdd, Nat.reduceMul, Nat.reduceLeDiff, Nat.reduceLT, Nat.reduceSub]
  refine hK1 _ ?_
  clear hK1
  refine aw_ops zT fun K2 hK2 => ?_
  cases e0 : decide (n ≥ 0) with
  | true =>
    simp only [amset, amlib, zset, e0, eq_self, ↓reduceIte, reduceCtorEq, Nat.reduceBEq, Nat.reduceEqDiff, Nat.reduceAdd, Nat.reduceMul, Nat.reduceLeDiff, Nat.reduceLT, Nat.reduceSub]
    refine hK2 _ ?_
    clear hK2
    refine aw_ret ?_
    show resOf zG _ [.tmp 2] = some _
    simp only [amset, amlib, zset, eq_self, ↓reduceIte, reduceCtorEq, Nat.reduceBEq, Nat.reduceEqDiff, Nat.reduceAdd, Nat.reduceMul, Nat.reduceLeDiff, Nat.reduceLT, Nat.reduceSub]
    simp only [numA, e0, Bool.true_or, Bool.or_true, Bool.false_or, Bool.or_false, Bool.true_and, Bool.and_true, Bool.false_and, Bool.and_false, Bool.not_true, Bool.not_false, if_true, if_false, ↓reduceIte, Bool.false_eq_true]
  | false =>
    simp only [amset, amlib, zset, e0, eq_self, ↓reduceIte, reduceCtorEq, Nat.reduceBEq, Nat.reduceEqDiff, Nat.reduceAdd, Nat.reduceMul, Nat.reduceLeDiff, Nat.reduceLT, Nat.reduceSub]
    refine hK2 _ ?_
    clear hK2
    refine aw_ret ?_
    show resOf zG _ [.tmp 2] = some _
    simp only [amset, amlib, zset, eq_self, ↓reduceIte, reduceCtorEq, Nat.reduceBEq, Nat.reduceEqDiff, Nat.reduceAdd, Nat.reduceMul, Nat.reduceLeDiff, Nat.reduceLT, Nat.reduceSub]
    simp only [numA, e0, Bool.true_or, Bool.or_true, Bool.false_or, Bool.or_false, Bool.true_and, Bool.and_true, Bool.false_and, Bool.and_false, Bool.not_true, Bool.not_false, if_true, if_false, ↓reduceIte, Bool.false_eq_true]
theorem prog97 : Tryz.prog.funcs[97]? = some Tryz.f97 := by kernel_rfl
theorem holds97 (n : Int) : Holds Tryz.prog zG 97 [.c (.int .i16 n)] [.c (.bool (signedA n))] := by
  refine holds_of_body zT prog97 rfl rfl rfl (by simp [Tryz.f97]) ?_
  refine aw_ops zT fun K1 hK1 => ?_
  simp only [amset, amlib, zset, eq_self, ↓reduceIte, reduceCtorEq, Nat.reduceBEq, Nat.reduceEqDiff, Nat.reduceAdd, Nat.reduceMul, Nat.reduceLeDiff, Nat.reduceLT, Nat.reduceSub]
  refine hK1 _ ?_
  clear hK1
  refine aw_ops zT fun K2 hK2 => ?_
  simp only [amset, amlib, zset, eq_self, ↓reduceIte, reduceCtorEq, Nat.reduceBEq, Nat.reduceEqDiff, Nat.reduceAdd, Nat.reduceMul, Nat.reduceLeDiff, Nat.reduceLT, Nat.reduceSub]
  refine hK2 _ ?_
  clear hK2
  refine aw_ret ?_
  show resOf zG _ [.tmp 2] = some _
  simp only [amset, amlib, zset, eq_self, ↓reduceIte, reduceCtorEq, Nat.reduceBEq, Nat.reduceEqDiff, Nat.reduceAdd, Nat.reduceMul, Nat.reduceLeDiff, Nat.reduceLT, Nat.reduceSub]
  simp only [signedA]
theorem prog195 : Tryz.prog.funcs[195]? = some Tryz.f195 := by kernel_rfl
theorem holds195 (b : Bool) : Holds Tryz.prog zG 195 [.c (.bool b)] [.c (.int .i16 (tr b))] := by
  refine holds_of_body zT prog195 rfl rfl rfl (by simp [Tryz.f195]) ?_
  refine aw_ops zT fun K1 hK1 => ?_
  simp only [amset, amlib, zset, eq_self, ↓reduceIte, reduceCtorEq, Nat.reduceBEq, Nat.reduceEqDiff, Nat.reduceAdd, Nat.reduceMul, Nat.reduceLeDiff, Nat.reduceLT, Nat.reduceSub]
  refine hK1 _ ?_
  clear hK1
  refine aw_seq fun K2 hK2 => ?_
  refine aw_ops zT fun K3 hK3 => ?_
  simp only [amset, amlib, zset, eq_self, ↓reduceIte, reduceCtorEq, Nat.reduceBEq, Nat.reduceEqDiff, Nat.reduceAdd, Nat.reduceMul, Nat.reduceLeDiff, Nat.reduceLT, Nat.reduceSub]
  refine hK3 _ ?_
  clear hK3
  refine aw_cond rfl (fun h0 => ?_) (fun h0 => ?_)
  · skip
    refine aw_ops zT fun K4 hK4 => ?_
    simp only [amset, amlib, zset, eq_self, ↓reduceIte, reduceCtorEq, Nat.reduceBEq, Nat.reduceEqDiff, Nat.reduceAdd, Nat.reduceMul, Nat.reduceLeDiff, Nat.reduceLT, Nat.reduceSub]
    refine hK4 _ ?_
    clear hK4
    refine aw_ret ?_
    show resOf zG _ [.tmp 2] = some _
    simp only [amset, amlib, zset, eq_self, ↓reduceIte, reduceCtorEq, Nat.reduceBEq, Nat.reduceEqDiff, Nat.reduceAdd, Nat.reduceMul, Nat.reduceLeDiff, Nat.reduceLT, Nat.reduceSub]
    simp [tr, h0]
  · skip
    refine aw_skip ?_
    simp only [thenQ, blkQ, if_true, reduceIte, Nat.reduceEqDiff, eq_self]
    refine hK2 _ ?_
    clear hK2
    refine aw_ops zT fun K5 hK5 => ?_
    simp only [amset, amlib, zset, eq_self, ↓reduceIte, reduceCtorEq, Nat.reduceBEq, Nat.reduceEqDiff, Nat.reduceAdd, Nat.reduceMul, Nat.reduceLeDiff, Nat.reduceLT, Nat.reduceSub]
    refine hK5 _ ?_
    clear hK5
    refine aw_ret ?_
    show resOf zG _ [.tmp 2] = some _
    simp only [amset, amlib, zset, eq_self, ↓reduceIte, reduceCtorEq, Nat.reduceBEq, Nat.reduceEqDiff, Nat.reduceAdd, Nat.reduceMul, Nat.reduceLeDiff, Nat.reduceLT, Nat.reduceSub]
    simp [tr, h0]
theorem prog196 : Tryz.prog.funcs[196]? = some Tryz.f196 := by kernel_rfl
theorem holds196 (b : Bool) : Holds Tryz.prog zG 196 [.c (.bool b)] [.c (.int .i16 (tr b))] := by
  refine holds_of_body zT prog196 rfl rfl rfl (by simp [Tryz.f196]) ?_
  refine aw_ops zT fun K1 hK1 => ?_
  simp only [amset, amlib, zset, eq_self, ↓reduceIte, reduceCtorEq, Nat.reduceBEq, Nat.reduceEqDiff, Nat.reduceAdd, Nat.reduceMul, Nat.reduceLeDiff, Nat.reduceLT, Nat.reduceSub]
  refine hK1 _ ?_
  clear hK1
  refine aw_seq fun K2 hK2 => ?_
  refine aw_ops zT fun K3 hK3 => ?_
  simp only [amset, amlib, zset, eq_self, ↓reduceIte, reduceCtorEq, Nat.reduceBEq, Nat.reduceEqDiff, Nat.reduceAdd, Nat.reduceMul, Nat.reduceLeDiff, Nat.reduceLT, Nat.reduceSub]
  refine hK3 _ ?_
  clear hK3
  refine aw_cond rfl (fun h0 => ?_) (fun h0 => ?_)
  · skip
    refine aw_ops zT fun K4 hK4 => ?_
    simp only [amset, amlib, zset, eq_self, ↓reduceIte, reduceCtorEq, Nat.reduceBEq, Nat.reduceEqDiff, Nat.reduceAdd, Nat.reduceMul, Nat.reduceLeDiff, Nat.reduceLT, Nat.reduceSub]
    refine hK4 _ ?_
    clear hK4
    refine aw_ret ?_
    show resOf zG _ [.tmp 2] = some _
    simp only [amset, amlib, zset, eq_self, ↓reduceIte, reduceCtorEq, Nat.reduceBEq, Nat.reduceEqDiff, Nat.reduceAdd, Nat.reduceMul, Nat.reduceLeDiff, Nat.reduceLT, Nat.reduceSub]
    simp [tr, h0]
  · skip
    refine aw_skip ?_
    simp only [thenQ, blkQ, if_true, reduceIte, Nat.reduceEqDiff, eq_self]
    refine hK2 _ ?_
    clear hK2
    refine aw_ops zT fun K5 hK5 => ?_
    simp only [amset, amlib, zset, eq_self, ↓reduceIte, reduceCtorEq, Nat.reduceBEq, Nat.reduceEqDiff, Nat.reduceAdd, Nat.reduceMul, Nat.reduceLeDiff, Nat.reduceLT, Nat.reduceSub]
    refine hK5 _ ?_
    clear hK5
    refine aw_ret ?_
    show resOf zG _ [.tmp 2] = some _
    simp only [amset, amlib, zset, eq_self, ↓reduceIte, reduceCtorEq, Nat.reduceBEq, Nat.reduceEqDiff, Nat.reduceAdd, Nat.reduceMul, Nat.reduceLeDiff, Nat.reduceLT, Nat.reduceSub]
    simp [tr, h0]
theorem prog153 : Tryz.prog.funcs[153]? = some Tryz.f153 := by kernel_rfl
theorem holds153 (b : Bool) : Holds Tryz.prog zG 153 [.c (.bool b)] [.c (.int .i16 (tr b))] := by
  refine holds_of_body zT prog153 rfl rfl rfl (by simp [Tryz.f153]) ?_
  refine aw_ops zT fun K1 hK1 => ?_
  simp only [amset, amlib, zset, eq_self, ↓reduceIte, reduceCtorEq, Nat.reduceBEq, Nat.reduceEqDiff, Nat.reduceAdd, Nat.reduceMul, Nat.reduceLeDiff, Nat.reduceLT, Nat.reduceSub]
  refine hK1 _ ?_
  clear hK1
  refine aw_seq fun K2 hK2 => ?_
  refine aw_ops zT fun K3 hK3 => ?_
  simp only [amset, amlib, zset, eq_self, ↓reduceIte, reduceCtorEq, Nat.reduceBEq, Nat.reduceEqDiff, Nat.reduceAdd, Nat.reduceMul, Nat.reduceLeDiff, Nat.reduceLT, Nat.reduceSub]
  refine hK3 _ ?_
  clear hK3
  refine aw_cond rfl (fun h0 => ?_) (fun h0 => ?_)
  · skip
    refine aw_ops zT fun K4 hK4 => ?_
    simp only [amset, amlib, zset, eq_self, ↓reduceIte, reduceCtorEq, Nat.reduceBEq, Nat.reduceEqDiff, Nat.reduceAdd, Nat.reduceMul, Nat.reduceLeDiff, Nat.reduceLT, Nat.reduceSub]
    refine hK4 _ ?_
    clear hK4
    refine aw_ret ?_
    show resOf zG _ [.tmp 2] = some _
    simp only [amset, amlib, zset, eq_self, ↓reduceIte, reduceCtorEq, Nat.reduceBEq, Nat.reduceEqDiff, Nat.reduceAdd, Nat.reduceMul, Nat.reduceLeDiff, Nat.reduceLT, Nat.reduceSub]
    simp [tr, h0]
  · skip
    refine aw_skip ?_
    simp only [thenQ, blkQ, if_true, reduceIte, Nat.reduceEqDiff, eq_self]
    refine hK2 _ ?_
    clear hK2
    refine aw_ops zT fun K5 hK5 => ?_
    simp only [amset, amlib, zset, eq_self, ↓reduceIte, reduceCtorEq, Nat.reduceBEq, Nat.reduceEqDiff, Nat.reduceAdd, Nat.reduceMul, Nat.reduceLeDiff, Nat.reduceLT, Nat.reduceSub]
    refine hK5 _ ?_
    clear hK5
    refine aw_ret ?_
    show resOf zG _ [.tmp 2] = some _
    simp only [amset, amlib, zset, eq_self, ↓reduceIte, reduceCtorEq, Nat.reduceBEq, Nat.reduceEqDiff, Nat.reduceAdd, Nat.reduceMul, Nat.reduceLeDiff, Nat.reduceLT, Nat.reduceSub]
    simp [tr, h0]
theorem prog152 : Tryz.prog.funcs[152]? = some Tryz.f152 := by kernel_rfl
theorem holds152 (b : Bool) : Holds Tryz.prog zG 152 [.c (.bool b)] [.c (.int .i64 (tr b))] := by
  refine holds_of_body zT prog152 rfl rfl rfl (by simp [Tryz.f152]) ?_
  refine aw_ops zT fun K1 hK1 => ?_
  simp only [amset, amlib, zset, eq_self, ↓reduceIte, reduceCtorEq, Nat.reduceBEq, Nat.reduceEqDiff, Nat.reduceAdd, Nat.reduceMul, Nat.reduceLeDiff, Nat.reduceLT, Nat.reduceSub]
  refine hK1 _ ?_
  clear hK1
  refine aw_seq fun K2 hK2 => ?_
  refine aw_ops zT fun K3 hK3 => ?_
  simp only [amset, amlib, zset, eq_self, ↓reduceIte, reduceCtorEq, Nat.reduceBEq, Nat.reduceEqDiff, Nat.reduceAdd, Nat.reduceMul, Nat.reduceLeDiff, Nat.reduceLT, Nat.reduceSub]
  refine hK3 _ ?_
  clear hK3
  refine aw_cond rfl (fun h0 => ?_) (fun h0 => ?_)
  · skip
    refine aw_ops zT fun K4 hK4 => ?_
    simp only [amset, amlib, zset, eq_self, ↓reduceIte, reduceCtorEq, Nat.reduceBEq, Nat.reduceEqDiff, Nat.reduceAdd, Nat.reduceMul, Nat.reduceLeDiff, Nat.reduceLT, Nat.reduceSub]
    refine hK4 _ ?_
    clear hK4
    refine aw_ret ?_
    show resOf zG _ [.tmp 2] = some _
    simp only [amset, amlib, zset, eq_self, ↓reduceIte, reduceCtorEq, Nat.reduceBEq, Nat.reduceEqDiff, Nat.reduceAdd, Nat.reduceMul, Nat.reduceLeDiff, Nat.reduceLT, Nat.reduceSub]
    simp [tr, h0]
  · skip
    refine aw_skip ?_
    simp only [thenQ, blkQ, if_true, reduceIte, Nat.reduceEqDiff, eq_self]
    refine hK2 _ ?_
    clear hK2
    refine aw_ops zT fun K5 hK5 => ?_
    simp only [amset, amlib, zset, eq_self, ↓reduceIte, reduceCtorEq, Nat.reduceBEq, Nat.reduceEqDiff, Nat.reduceAdd, Nat.reduceMul, Nat.reduceLeDiff, Nat.reduceLT, Nat.reduceSub]
    refine hK5 _ ?_
    clear hK5
    refine aw_ret ?_
    show resOf zG _ [.tmp 2] = some _
    simp only [amset, amlib, zset, eq_self, ↓reduceIte, reduceCtorEq, Nat.reduceBEq, Nat.reduceEqDiff, Nat.reduceAdd, Nat.reduceMul, Nat.reduceLeDiff, Nat.reduceLT, Nat.reduceSub]
    simp [tr, h0]
theorem prog216 : Tryz.prog.funcs[216]? = some Tryz.f216 := by kernel_rfl
theorem holds216 (a b : Int) : Holds Tryz.prog zG 216 [.c (.int .i16 a), .c (.int .i16 b)] [.c (.int .i16 (w16 (a + b)))] := by
  refine holds_of_body zT prog216 rfl rfl rfl (by simp [Tryz.f216]) ?_
  refine aw_ops zT fun K1 hK1 => ?_
  simp only [amset, amlib, zset, eq_self, ↓reduceIte, reduceCtorEq, Nat.reduceBEq, Nat.reduceEqDiff, Nat.reduceAdd, Nat.reduceMul, Nat.reduceLeDiff, Nat.reduceLT, Nat.reduceSub]
  refine hK1 _ ?_
  clear hK1
  refine aw_ops zT fun K2 hK2 => ?_
  simp only [amset, amlib, zset, eq_self, ↓reduceIte, reduceCtorEq, Nat.reduceBEq, Nat.reduceEqDiff, Nat.reduceAdd, Nat.reduceMul, Nat.reduceLeDiff, Nat.reduceLT, Nat.reduceSub]
  refine hK2 _ ?_
  clear hK2
  refine aw_ret ?_
  show resOf zG _ [.tmp 4] = some _
  simp only [amset, amlib, zset, eq_self, ↓reduceIte, reduceCtorEq, Nat.reduceBEq, Nat.reduceEqDiff, Nat.reduceAdd, Nat.reduceMul, Nat.reduceLeDiff, Nat.reduceLT, Nat.reduceSub]
  simp only [w16]
theorem prog217 : Tryz.prog.funcs[217]? = some Tryz.f217 := by kernel_rfl
theorem holds217 (a b : Int) : Holds Tryz.prog zG 217 [.c (.int .i16 a), .c (.int .i16 b)] [.c (.int .i16 (w16 (a - b)))] := by
  refine holds_of_body zT prog217 rfl rfl rfl (by simp [Tryz.f217]) ?_
  refine aw_ops zT fun K1 hK1 => ?_
  simp only [amset, amlib, zset, eq_self, ↓reduceIte, reduceCtorEq, Nat.reduceBEq, Nat.reduceEqDiff, Nat.reduceAdd, Nat.reduceMul, Nat.reduceLeDiff, Nat.reduceLT, Nat.reduceSub]
  refine hK1 _ ?_
  clear hK1
  refine aw_ops zT fun K2 hK2 => ?_
  simp only [amset, amlib, zset, eq_self, ↓reduceIte, reduceCtorEq, Nat.reduceBEq, Nat.reduceEqDiff, Nat.reduceAdd, Nat.reduceMul, Nat.reduceLeDiff, Nat.reduceLT, Nat.reduceSub]
  refine hK2 _ ?_
  clear hK2
  refine aw_ret ?_
  show resOf zG _ [.tmp 4] = some _
  simp only [amset, amlib, zset, eq_self, ↓reduceIte, reduceCtorEq, Nat.reduceBEq, Nat.reduceEqDiff, Nat.reduceAdd, Nat.reduceMul, Nat.reduceLeDiff, Nat.reduceLT, Nat.reduceSub]
  simp only [w16]
theorem prog218 : Tryz.prog.funcs[218]? = some Tryz.f218 := by kernel_rfl
theorem holds218 (a b : Int) : Holds Tryz.prog zG 218 [.c (.int .i16 a), .c (.int .i16 b)] [.c (.int .i16 (w16 (a * b)))] := by
  refine holds_of_body zT prog218 rfl rfl rfl (by simp [Tryz.f218]) ?_
  refine aw_ops zT fun K1 hK1 => ?_
  simp only [amset, amlib, zset, eq_self, ↓reduceIte, reduceCtorEq, Nat.reduceBEq, Nat.reduceEqDiff, Nat.reduceAdd, Nat.reduceMul, Nat.reduceLeDiff, Nat.reduceLT, Nat.reduceSub]
  refine hK1 _ ?_
  clear hK1
  refine aw_ops zT fun K2 hK2 => ?_
  simp only [amset, amlib, zset, eq_self, ↓reduceIte, reduceCtorEq, Nat.reduceBEq, Nat.reduceEqDiff, Nat.reduceAdd, Nat.reduceMul, Nat.reduceLeDiff, Nat.reduceLT, Nat.reduceSub]
  refine hK2 _ ?_
  clear hK2
  refine aw_ret ?_
  show resOf zG _ [.tmp 4] = some _
  simp only [amset, amlib, zset, eq_self, ↓reduceIte, reduceCtorEq, Nat.reduceBEq, Nat.reduceEqDiff, Nat.reduceAdd, Nat.reduceMul, Nat.reduceLeDiff, Nat.reduceLT, Nat.reduceSub]
  simp only [w16]
theorem prog219 : Tryz.prog.funcs[219]? = some Tryz.f219 := by kernel_rfl
theorem holds219 (a b : Int) : Holds Tryz.prog zG 219 [.c (.int .i16 a), .c (.int .i16 b)] [.c (.int .i16 (divW a b))] := by
  refine holds_of_body zT prog219 rfl rfl rfl (by simp [Tryz.f219]) ?_
  refine aw_ops zT fun K1 hK1 => ?_
  simp only [amset, amlib, zset, eq_self, ↓reduceIte, reduceCtorEq, Nat.reduceBEq, Nat.reduceEqDiff, Nat.reduceAdd, Nat.reduceMul, Nat.reduceLeDiff, Nat.reduceLT, Nat.reduceSub]
  refine hK1 _ ?_
  clear hK1
  refine aw_seq fun K2 hK2 => ?_
  refine aw_ops zT fun K3 hK3 => ?_
  simp only [amset, amlib, zset, eq_self, ↓reduceIte, reduceCtorEq, Nat.reduceBEq, Nat.reduceEqDiff, Nat.reduceAdd, Nat.reduceMul, Nat.reduceLeDiff, Nat.reduceLT, Nat.reduceSub]
  refine hK3 _ ?_
  clear hK3
  refine aw_cond rfl (fun h0 => ?_) (fun h0 => ?_)
  · skip
    refine aw_ops zT fun K4 hK4 => ?_
    simp only [amset, amlib, zset, eq_self, ↓reduceIte, reduceCtorEq, Nat.reduceBEq, Nat.reduceEqDiff, Nat.reduceAdd, Nat.reduceMul, Nat.reduceLeDiff, Nat.reduceLT, Nat.reduceSub]
    refine hK4 _ ?_
    clear hK4
    refine aw_ret ?_
    show resOf zG _ [.tmp 4] = some _
    simp only [amset, amlib, zset, eq_self, ↓reduceIte, reduceCtorEq, Nat.reduceBEq, Nat.reduceEqDiff, Nat.reduceAdd, Nat.reduceMul, Nat.reduceLeDiff, Nat.reduceLT, Nat.reduceSub]
    simp only [divW, h0, w16, ↓reduceIte, Bool.false_eq_true]
  · skip
    refine aw_skip ?_
    simp only [thenQ, blkQ, if_true, reduceIte, Nat.reduceEqDiff, eq_self]
    refine hK2 _ ?_
    clear hK2
    refine aw_ops zT fun K5 hK5 => ?_
    simp only [amset, amlib, zset, eq_self, ↓reduceIte, reduceCtorEq, Nat.reduceBEq, Nat.reduceEqDiff, Nat.reduceAdd, Nat.reduceMul, Nat.reduceLeDiff, Nat.reduceLT, Nat.reduceSub]
    refine ⟨by simpa using h0, ?_⟩
    refine hK5 _ ?_
    clear hK5
    refine aw_ret ?_
    show resOf zG _ [.tmp 4] = some _
    simp only [amset, amlib, zset, eq_self, ↓reduceIte, reduceCtorEq, Nat.reduceBEq, Nat.reduceEqDiff, Nat.reduceAdd, Nat.reduceMul, Nat.reduceLeDiff, Nat.reduceLT, Nat.reduceSub]
    simp only [divW, h0, w16, ↓reduceIte, Bool.false_eq_true]
theorem prog220 : Tryz.prog.funcs[220]? = some Tryz.f220 := by kernel_rfl
theorem holds220 (a b : Int) : Holds Tryz.prog zG 220 [.c (.int .i16 a), .c (.int .i16 b)] [.c (.int .i16 (modW a b))] := by
  refine holds_of_body zT prog220 rfl rfl rfl (by simp [Tryz.f220]) ?_
  refine aw_ops zT fun K1 hK1 => ?_
  simp only [amset, amlib, zset, eq_self, ↓reduceIte, reduceCtorEq, Nat.reduceBEq, Nat.reduceEqDiff, Nat.reduceAdd, Nat.reduceMul, Nat.reduceLeDiff, Nat.reduceLT, Nat.reduceSub]
  refine hK1 _ ?_
  clear hK1
  refine aw_seq fun K2 hK2 => ?_
  refine aw_ops zT fun K3 hK3 => ?_
  simp only [amset, amlib, zset, eq_self, ↓reduceIte, reduceCtorEq, Nat.reduceBEq, Nat.reduceEqDiff, Nat.reduceAdd, Nat.reduceMul, Nat.reduceLeDiff, Nat.reduceLT, Nat.reduceSub]
  refine hK3 _ ?_
  clear hK3
  refine aw_cond rfl (fun h0 => ?_) (fun h0 => ?_)
  · skip
    refine aw_ops zT fun K4 hK4 => ?_
    simp only [amset, amlib, zset, eq_self, ↓reduceIte, reduceCtorEq, Nat.reduceBEq, Nat.reduceEqDiff, Nat.reduceAdd, Nat.reduceMul, Nat.reduceLeDiff, Nat.reduceLT, Nat.reduceSub]
    refine hK4 _ ?_
    clear hK4
    refine aw_ret ?_
    show resOf zG _ [.tmp 4] = some _
    simp only [amset, amlib, zset, eq_self, ↓reduceIte, reduceCtorEq, Nat.reduceBEq, Nat.reduceEqDiff, Nat.reduceAdd, Nat.reduceMul, Nat.reduceLeDiff, Nat.reduceLT, Nat.reduceSub]
    simp only [modW, h0, w16, ↓reduceIte, Bool.false_eq_true]
  · skip
    refine aw_skip ?_
    simp only [thenQ, blkQ, if_true, reduceIte, Nat.reduceEqDiff, eq_self]
    refine hK2 _ ?_
    clear hK2
    refine aw_ops zT fun K5 hK5 => ?_
    simp only [amset, amlib, zset, eq_self, ↓reduceIte, reduceCtorEq, Nat.reduceBEq, Nat.reduceEqDiff, Nat.reduceAdd, Nat.reduceMul, Nat.reduceLeDiff, Nat.reduceLT, Nat.reduceSub]
    refine ⟨by simpa using h0, ?_⟩
    refine hK5 _ ?_
    clear hK5
    refine aw_ret ?_
    show resOf zG _ [.tmp 4] = some _
    simp only [amset, amlib, zset, eq_self, ↓reduceIte, reduceCtorEq, Nat.reduceBEq, Nat.reduceEqDiff, Nat.reduceAdd, Nat.reduceMul, Nat.reduceLeDiff, Nat.reduceLT, Nat.reduceSub]
    simp only [modW, h0, w16, ↓reduceIte, Bool.false_eq_true]
theorem prog154 : Tryz.prog.funcs[154]? = some Tryz.f154 := by kernel_rfl
theorem holds154 (a b : Int) : Holds Tryz.prog zG 154 [.c (.int .i64 a), .c (.int .i64 b)] [.c (.int .i64 (if b == 0 then 0 else IntKind.i64.wrap (a.tdiv b)))] := by
  refine holds_of_body zT prog154 rfl rfl rfl (by simp [Tryz.f154]) ?_
  refine aw_ops zT fun K1 hK1 => ?_
  simp only [amset, amlib, zset, eq_self, ↓reduceIte, reduceCtorEq, Nat.reduceBEq, Nat.reduceEqDiff, Nat.reduceAdd, Nat.reduceMul, Nat.reduceLeDiff, Nat.reduceLT, Nat.reduceSub]
  refine hK1 _ ?_
  clear hK1
  refine aw_seq fun K2 hK2 => ?_
  refine aw_ops zT fun K3 hK3 => ?_
  simp only [amset, amlib, zset, eq_self, ↓reduceIte, reduceCtorEq, Nat.reduceBEq, Nat.reduceEqDiff, Nat.reduceAdd, Nat.reduceMul, Nat.reduceLeDiff, Nat.reduceLT, Nat.reduceSub]
  refine hK3 _ ?_
  clear hK3
  refine aw_cond rfl (fun h0 => ?_) (fun h0 => ?_)
  · skip
    refine aw_ops zT fun K4 hK4 => ?_
    simp only [amset, amlib, zset, eq_self, ↓reduceIte, reduceCtorEq, Nat.reduceBEq, Nat.reduceEqDiff, Nat.reduceAdd, Nat.reduceMul, Nat.reduceLeDiff, Nat.reduceLT, Nat.reduceSub]
    refine hK4 _ ?_
    clear hK4
    refine aw_ret ?_
    show resOf zG _ [.tmp 4] = some _
    simp only [amset, amlib, zset, eq_self, ↓reduceIte, reduceCtorEq, Nat.reduceBEq, Nat.reduceEqDiff, Nat.reduceAdd, Nat.reduceMul, Nat.reduceLeDiff, Nat.reduceLT, Nat.reduceSub]
    simp only [h0, ↓reduceIte, Bool.false_eq_true]
  · skip
    refine aw_skip ?_
    simp only [thenQ, blkQ, if_true, reduceIte, Nat.reduceEqDiff, eq_self]
    refine hK2 _ ?_
    clear hK2
    refine aw_ops zT fun K5 hK5 => ?_
    simp only [amset, amlib, zset, eq_self, ↓reduceIte, reduceCtorEq, Nat.reduceBEq, Nat.reduceEqDiff, Nat.reduceAdd, Nat.reduceMul, Nat.reduceLeDiff, Nat.reduceLT, Nat.reduceSub]
    refine ⟨by simpa using h0, ?_⟩
    refine hK5 _ ?_
    clear hK5
    refine aw_ret ?_
    show resOf zG _ [.tmp 4] = some _
    simp only [amset, amlib, zset, eq_self, ↓reduceIte, reduceCtorEq, Nat.reduceBEq, Nat.reduceEqDiff, Nat.reduceAdd, Nat.reduceMul, Nat.reduceLeDiff, Nat.reduceLT, Nat.reduceSub]
    simp only [h0, ↓reduceIte, Bool.false_eq_true]
end Go.Proofs.Am
set_option maxRecDepth 100000
set_option maxHeartbeats 4000000
namespace Go.Proofs.Am
theorem w16_small {n : Int} (h : -32768 ≤ n ∧ n ≤ 32767) : w16 n = n := by rw [w16_eq]; omega
theorem w16_tr (b : Bool) : w16 (tr b) = tr b := by cases b <;> rfl
theorem w16_cong {a b : Int} (h : a % 65536 = b % 65536) : w16 a = w16 b := by rw [w16_eq, w16_eq]; omega
def i16r (n : Int) : Prop := -32768 ≤ n ∧ n ≤ 32767
theorem w16_range (n : Int) : i16r (w16 n) := by rw [w16_eq]; unfold i16r; omega
theorem tr_range (b : Bool) : i16r (tr b) := by cases b <;> simp [tr, i16r]
/-- tmod, as omega reads it -/
theorem tmod_cases (a b : Int) (hb : 0 < b) : a.tmod b = if 0 ≤ a then a % b else -((-a) % b) := by
  split
  · rename_i h; exact Int.tmod_eq_emod_of_nonneg h
  · rename_i h
    have : a = -(-a) := by omega
    rw [this, Int.neg_tmod, Int.neg_neg, Int.tmod_eq_emod_of_nonneg (by omega)]
theorem prog151 : Tryz.prog.funcs[151]? = some Tryz.f151 := by kernel_rfl
theorem holds151 (n : Int) : Holds Tryz.prog zG 151 [.c (.int .i64 n)] [.c (.int .i16 (w16 n))] := by
  refine holds_of_body zT prog151 rfl rfl rfl (by simp [Tryz.f151]) ?_
  refine aw_ops zT fun K1 hK1 => ?_
  simp only [amset, amlib, zset, eq_self, ↓reduceIte, reduceCtorEq, Nat.reduceBEq, Nat.reduceEqDiff, Nat.reduceAdd, Nat.reduceMul, Nat.reduceLeDiff, Nat.reduceLT, Nat.reduceSub]
  refine hK1 _ ?_
  clear hK1
  refine aw_ops zT fun K2 hK2 => ?_
  simp only [amset, amlib, zset, eq_self, ↓reduceIte, reduceCtorEq, Nat.reduceBEq, Nat.reduceEqDiff, Nat.reduceAdd, Nat.reduceMul, Nat.reduceLeDiff, Nat.reduceLT, Nat.reduceSub]
  refine ⟨by omega, ?_⟩
  refine hK2 _ ?_
  clear hK2
  refine aw_seq fun K3 hK3 => ?_
  refine aw_ops zT fun K4 hK4 => ?_
  simp only [amset, amlib, zset, eq_self, ↓reduceIte, reduceCtorEq, Nat.reduceBEq, Nat.reduceEqDiff, Nat.reduceAdd, Nat.reduceMul, Nat.reduceLeDiff, Nat.reduceLT, Nat.reduceSub]
  refine hK4 _ ?_
  clear hK4
  refine aw_cond rfl (fun h0 => ?_) (fun h0 => ?_)
  · skip
    refine aw_region zT ?_
    simp only [amset, amlib, zset, eq_self, ↓reduceIte, reduceCtorEq, Nat.reduceBEq, Nat.reduceEqDiff, Nat.reduceAdd, Nat.reduceMul, Nat.reduceLeDiff, Nat.reduceLT, Nat.reduceSub]
    have ht := tmod_cases n 65536 (by omega)
    refine ⟨⟨by split at ht <;> omega, by split at ht <;> omega⟩, ?_⟩
    refine hK3 _ ?_
    clear hK3
    refine aw_seq fun K5 hK5 => ?_
    refine aw_ops zT fun K6 hK6 => ?_
    simp only [amset, amlib, zset, eq_self, ↓reduceIte, reduceCtorEq, Nat.reduceBEq, Nat.reduceEqDiff, Nat.reduceAdd, Nat.reduceMul, Nat.reduceLeDiff, Nat.reduceLT, Nat.reduceSub]
    refine hK6 _ ?_
    clear hK6
    refine aw_cond rfl (fun h1 => ?_) (fun h1 => ?_)
    · skip
      refine aw_region zT ?_
      simp only [amset, amlib, zset, eq_self, ↓reduceIte, reduceCtorEq, Nat.reduceBEq, Nat.reduceEqDiff, Nat.reduceAdd, Nat.reduceMul, Nat.reduceLeDiff, Nat.reduceLT, Nat.reduceSub]
      have ht := tmod_cases n 65536 (by omega)
      refine ⟨⟨by split at ht <;> omega, by split at ht <;> omega⟩, ?_⟩
      skip
      refine hK5 _ ?_
      clear hK5
      refine aw_ops zT fun K7 hK7 => ?_
      simp only [amset, amlib, zset, eq_self, ↓reduceIte, reduceCtorEq, Nat.reduceBEq, Nat.reduceEqDiff, Nat.reduceAdd, Nat.reduceMul, Nat.reduceLeDiff, Nat.reduceLT, Nat.reduceSub]
      refine hK7 _ ?_
      clear hK7
      refine aw_ret ?_
      show resOf zG _ [.tmp 2] = some _
      simp only [amset, amlib, zset, eq_self, ↓reduceIte, reduceCtorEq, Nat.reduceBEq, Nat.reduceEqDiff, Nat.reduceAdd, Nat.reduceMul, Nat.reduceLeDiff, Nat.reduceLT, Nat.reduceSub]
      simp only [List.cons.injEq, A.c.injEq, C.int.injEq, and_true, true_and]
      exact w16_cong (by have ht := tmod_cases n 65536 (by omega); split at ht <;> omega)
    · skip
      refine aw_skip ?_
      simp only [thenQ, blkQ, if_true, reduceIte, Nat.reduceEqDiff, eq_self]
      refine hK5 _ ?_
      clear hK5
      refine aw_ops zT fun K8 hK8 => ?_
      simp only [amset, amlib, zset, eq_self, ↓reduceIte, reduceCtorEq, Nat.reduceBEq, Nat.reduceEqDiff, Nat.reduceAdd, Nat.reduceMul, Nat.reduceLeDiff, Nat.reduceLT, Nat.reduceSub]
      refine hK8 _ ?_
      clear hK8
      refine aw_ret ?_
      show resOf zG _ [.tmp 2] = some _
      simp only [amset, amlib, zset, eq_self, ↓reduceIte, reduceCtorEq, Nat.reduceBEq, Nat.reduceEqDiff, Nat.reduceAdd, Nat.reduceMul, Nat.reduceLeDiff, Nat.reduceLT, Nat.reduceSub]
      simp only [List.cons.injEq, A.c.injEq, C.int.injEq, and_true, true_and]
      exact w16_cong (by have ht := tmod_cases n 65536 (by omega); split at ht <;> omega)
  · skip
    refine aw_skip ?_
    simp only [thenQ, blkQ, if_true, reduceIte, Nat.reduceEqDiff, eq_self]
    refine hK3 _ ?_
    clear hK3
    refine aw_seq fun K9 hK9 => ?_
    refine aw_ops zT fun K10 hK10 => ?_
    simp only [amset, amlib, zset, eq_self, ↓reduceIte, reduceCtorEq, Nat.reduceBEq, Nat.reduceEqDiff, Nat.reduceAdd, Nat.reduceMul, Nat.reduceLeDiff, Nat.reduceLT, Nat.reduceSub]
    refine hK10 _ ?_
    clear hK10
    refine aw_cond rfl (fun h2 => ?_) (fun h2 => ?_)
    · skip
      refine aw_region zT ?_
      simp only [amset, amlib, zset, eq_self, ↓reduceIte, reduceCtorEq, Nat.reduceBEq, Nat.reduceEqDiff, Nat.reduceAdd, Nat.reduceMul, Nat.reduceLeDiff, Nat.reduceLT, Nat.reduceSub]
      have ht := tmod_cases n 65536 (by omega)
      refine ⟨⟨by split at ht <;> omega, by split at ht <;> omega⟩, ?_⟩
      skip
      refine hK9 _ ?_
      clear hK9
      refine aw_ops zT fun K11 hK11 => ?_
      simp only [amset, amlib, zset, eq_self, ↓reduceIte, reduceCtorEq, Nat.reduceBEq, Nat.reduceEqDiff, Nat.reduceAdd, Nat.reduceMul, Nat.reduceLeDiff, Nat.reduceLT, Nat.reduceSub]
      refine hK11 _ ?_
      clear hK11
      refine aw_ret ?_
      show resOf zG _ [.tmp 2] = some _
      simp only [amset, amlib, zset, eq_self, ↓reduceIte, reduceCtorEq, Nat.reduceBEq, Nat.reduceEqDiff, Nat.reduceAdd, Nat.reduceMul, Nat.reduceLeDiff, Nat.reduceLT, Nat.reduceSub]
      simp only [List.cons.injEq, A.c.injEq, C.int.injEq, and_true, true_and]
      exact w16_cong (by have ht := tmod_cases n 65536 (by omega); split at ht <;> omega)
    · skip
      refine aw_skip ?_
      simp only [thenQ, blkQ, if_true, reduceIte, Nat.reduceEqDiff, eq_self]
      refine hK9 _ ?_
      clear hK9
      refine aw_ops zT fun K12 hK12 => ?_
      simp only [amset, amlib, zset, eq_self, ↓reduceIte, reduceCtorEq, Nat.reduceBEq, Nat.reduceEqDiff, Nat.reduceAdd, Nat.reduceMul, Nat.reduceLeDiff, Nat.reduceLT, Nat.reduceSub]
      refine hK12 _ ?_
      clear hK12
      refine aw_ret ?_
      show resOf zG _ [.tmp 2] = some _
      simp only [amset, amlib, zset, eq_self, ↓reduceIte, reduceCtorEq, Nat.reduceBEq, Nat.reduceEqDiff, Nat.reduceAdd, Nat.reduceMul, Nat.reduceLeDiff, Nat.reduceLT, Nat.reduceSub]
      simp only [List.cons.injEq, A.c.injEq, C.int.injEq, and_true, true_and]
      exact w16_cong (by have ht := tmod_cases n 65536 (by omega); split at ht <;> omega)
end Go.Proofs.Am
set_option maxRecDepth 100000
set_option maxHeartbeats 4000000
namespace Go.Proofs.Am
def unW (op a : Int) : Int := if op == 1 then w16 (0 - a) else if op == 2 then tr (a == 0) else 0
def unX (op : Int) : Int := if op == 1 then 0 else if op == 2 then 0 else 1
def binW (op a b : Int) : Int := if op == 3 then w16 (a + b) else if op == 4 then w16 (a - b) else if op == 5 then w16 (a * b) else if op == 6 then divW a b else if op == 7 then modW a b else if op == 8 then tr (a == b) else if op == 9 then tr (a != b) else if op == 10 then tr (decide (a < b)) else if op == 11 then tr (decide (a ≤ b)) else if op == 12 then tr (decide (a > b)) else if op == 13 then tr (decide (a ≥ b)) else 0
def binX (op : Int) : Int := if op == 3 then 0 else if op == 4 then 0 else if op == 5 then 0 else if op == 6 then 0 else if op == 7 then 0 else if op == 8 then 0 else if op == 9 then 0 else if op == 10 then 0 else if op == 11 then 0 else if op == 12 then 0 else if op == 13 then 0 else 1
theorem unW_range (op a : Int) : i16r (unW op a) := by
  unfold unW
  split
  · exact w16_range _
  · split
    · exact tr_range _
    · simp [i16r]
theorem tdiv_cases (a b : Int) (ha : i16r a) (hb : i16r b) : -32768 ≤ a.tdiv b ∧ a.tdiv b ≤ 32768 := by
  unfold i16r at ha hb
  have h1 : (a.tdiv b).natAbs ≤ a.natAbs := by rw [Int.natAbs_tdiv]; exact Nat.div_le_self _ _
  omega
theorem tmod_range (a b : Int) (ha : i16r a) : i16r (a.tmod b) := by
  unfold i16r at *
  have h1 : (a.tmod b).natAbs ≤ a.natAbs := by rw [Int.natAbs_tmod]; exact Nat.mod_le _ _
  have h2 := Int.tmod_nonneg b (a := a)
  have h3 := Int.tmod_nonneg b (a := -a)
  rw [Int.neg_tmod] at h3
  omega
theorem binW_range (op a b : Int) (ha : i16r a) (hb : i16r b) : i16r (binW op a b) := by
  unfold binW divW modW
  repeat' split
  all_goals first | exact w16_range _ | exact tr_range _ | exact tmod_range _ _ ha | simp [i16r]
theorem mul_range {a b : Int} (ha : i16r a) (hb : i16r b) : -1073741824 ≤ a * b ∧ a * b ≤ 1073741824 := by
  unfold i16r at *
  have h : (a * b).natAbs ≤ 32768 * 32768 := by rw [Int.natAbs_mul]; exact Nat.mul_le_mul (by omega) (by omega)
  omega
theorem prog155 : Tryz.prog.funcs[155]? = some Tryz.f155 := by kernel_rfl
theorem holds155 (a b : Int) (ha : i16r a) (hb : i16r b) : Holds Tryz.prog zG 155 [.c (.int .i64 a), .c (.int .i64 b)] [.c (.int .i64 (modW a b))] := by
  refine holds_of_body zT prog155 rfl rfl rfl (by simp [Tryz.f155]) ?_
  refine aw_ops zT fun K1 hK1 => ?_
  simp only [amset, amlib, zset, eq_self, ↓reduceIte, reduceCtorEq, Nat.reduceBEq, Nat.reduceEqDiff, Nat.reduceAdd, Nat.reduceMul, Nat.reduceLeDiff, Nat.reduceLT, Nat.reduceSub]
  refine hK1 _ ?_
  clear hK1
  refine aw_seq fun K2 hK2 => ?_
  refine aw_ops zT fun K3 hK3 => ?_
  simp only [amset, amlib, zset, eq_self, ↓reduceIte, reduceCtorEq, Nat.reduceBEq, Nat.reduceEqDiff, Nat.reduceAdd, Nat.reduceMul, Nat.reduceLeDiff, Nat.reduceLT, Nat.reduceSub]
  refine hK3 _ ?_
  clear hK3
  refine aw_cond rfl (fun h0 => ?_) (fun h0 => ?_)
  · skip
    refine aw_ops zT fun K4 hK4 => ?_
    simp only [amset, amlib, zset, eq_self, ↓reduceIte, reduceCtorEq, Nat.reduceBEq, Nat.reduceEqDiff, Nat.reduceAdd, Nat.reduceMul, Nat.reduceLeDiff, Nat.reduceLT, Nat.reduceSub]
    refine hK4 _ ?_
    clear hK4
    refine aw_ret ?_
    show resOf zG _ [.tmp 4] = some _
    simp only [amset, amlib, zset, eq_self, ↓reduceIte, reduceCtorEq, Nat.reduceBEq, Nat.reduceEqDiff, Nat.reduceAdd, Nat.reduceMul, Nat.reduceLeDiff, Nat.reduceLT, Nat.reduceSub]
    simp only [modW, h0, ↓reduceIte, Bool.false_eq_true]
  · skip
    refine aw_skip ?_
    simp only [thenQ, blkQ, if_true, reduceIte, Nat.reduceEqDiff, eq_self]
    refine hK2 _ ?_
    clear hK2
    refine aw_ops zT fun K5 hK5 => ?_
    simp only [amset, amlib, zset, eq_self, ↓reduceIte, reduceCtorEq, Nat.reduceBEq, Nat.reduceEqDiff, Nat.reduceAdd, Nat.reduceMul, Nat.reduceLeDiff, Nat.reduceLT, Nat.reduceSub]
    refine ⟨_, holds154 a b, ?_⟩
    simp only [later]
    simp only [amset, amlib, zset, eq_self, ↓reduceIte, reduceCtorEq, Nat.reduceBEq, Nat.reduceEqDiff, Nat.reduceAdd, Nat.reduceMul, Nat.reduceLeDiff, Nat.reduceLT, Nat.reduceSub]
    have hq := tdiv_cases a b ha hb
    have hm := tmod_range a b ha
    have hd := Int.mul_tdiv_add_tmod a b
    have hs := i64_same (n := a.tdiv b) (by omega)
    have hb0 : b ≠ 0 := by simpa using h0
    unfold i16r at ha hb hm
    have hm2 : b * (if b == 0 then 0 else IntKind.i64.wrap (a.tdiv b)) = a - a.tmod b := by rw [if_neg (by simpa using h0), hs]; omega
    refine ⟨by rw [hm2]; omega, ?_⟩
    rw [hm2]
    refine ⟨by omega, ?_⟩
    refine hK5 _ ?_
    clear hK5
    refine aw_ret ?_
    show resOf zG _ [.tmp 4] = some _
    simp only [amset, amlib, zset, eq_self, ↓reduceIte, reduceCtorEq, Nat.reduceBEq, Nat.reduceEqDiff, Nat.reduceAdd, Nat.reduceMul, Nat.reduceLeDiff, Nat.reduceLT, Nat.reduceSub]
    simp only [modW, h0, ↓reduceIte, Bool.false_eq_true]
    simp only [List.cons.injEq, A.c.injEq, C.int.injEq, and_true, true_and]
    omega
theorem prog149 : Tryz.prog.funcs[149]? = some Tryz.f149 := by kernel_rfl
theorem holds149 (op a : Int) : Holds Tryz.prog zG 149 [.c (.int .i64 op), .c (.int .i16 a)] [.c (.int .i16 (unW op a)), .c (.int .i64 (unX op))] := by
  refine holds_of_body zT prog149 rfl rfl rfl (by simp [Tryz.f149]) ?_
  refine aw_ops zT fun K1 hK1 => ?_
  simp only [amset, amlib, zset, eq_self, ↓reduceIte, reduceCtorEq, Nat.reduceBEq, Nat.reduceEqDiff, Nat.reduceAdd, Nat.reduceMul, Nat.reduceLeDiff, Nat.reduceLT, Nat.reduceSub]
  refine hK1 _ ?_
  clear hK1
  refine aw_seq fun K2 hK2 => ?_
  refine aw_ops zT fun K3 hK3 => ?_
  simp only [amset, amlib, zset, eq_self, ↓reduceIte, reduceCtorEq, Nat.reduceBEq, Nat.reduceEqDiff, Nat.reduceAdd, Nat.reduceMul, Nat.reduceLeDiff, Nat.reduceLT, Nat.reduceSub]
  refine hK3 _ ?_
  clear hK3
  refine aw_block ?_
  refine aw_ops zT fun K4 hK4 => ?_
  simp only [amset, amlib, zset, eq_self, ↓reduceIte, reduceCtorEq, Nat.reduceBEq, Nat.reduceEqDiff, Nat.reduceAdd, Nat.reduceMul, Nat.reduceLeDiff, Nat.reduceLT, Nat.reduceSub]
  refine hK4 _ ?_
  clear hK4
  refine aw_cond rfl (fun h0 => ?_) (fun h0 => ?_)
  · skip
    refine aw_ops zT fun K5 hK5 => ?_
    simp only [amset, amlib, zset, eq_self, ↓reduceIte, reduceCtorEq, Nat.reduceBEq, Nat.reduceEqDiff, Nat.reduceAdd, Nat.reduceMul, Nat.reduceLeDiff, Nat.reduceLT, Nat.reduceSub]
    refine hK5 _ ?_
    clear hK5
    refine aw_ret ?_
    show resOf zG _ [.tmp 4, .tmp 5] = some _
    simp only [amset, amlib, zset, eq_self, ↓reduceIte, reduceCtorEq, Nat.reduceBEq, Nat.reduceEqDiff, Nat.reduceAdd, Nat.reduceMul, Nat.reduceLeDiff, Nat.reduceLT, Nat.reduceSub]
    simp only [unW, unX, h0, w16, ↓reduceIte, Bool.false_eq_true]
  · skip
    refine aw_ops zT fun K6 hK6 => ?_
    simp only [amset, amlib, zset, eq_self, ↓reduceIte, reduceCtorEq, Nat.reduceBEq, Nat.reduceEqDiff, Nat.reduceAdd, Nat.reduceMul, Nat.reduceLeDiff, Nat.reduceLT, Nat.reduceSub]
    refine hK6 _ ?_
    clear hK6
    refine aw_cond rfl (fun h1 => ?_) (fun h1 => ?_)
    · skip
      refine aw_ops zT fun K7 hK7 => ?_
      simp only [amset, amlib, zset, eq_self, ↓reduceIte, reduceCtorEq, Nat.reduceBEq, Nat.reduceEqDiff, Nat.reduceAdd, Nat.reduceMul, Nat.reduceLeDiff, Nat.reduceLT, Nat.reduceSub]
      refine ⟨_, holds195 _, ?_⟩
      simp only [later]
      simp only [amset, amlib, zset, eq_self, ↓reduceIte, reduceCtorEq, Nat.reduceBEq, Nat.reduceEqDiff, Nat.reduceAdd, Nat.reduceMul, Nat.reduceLeDiff, Nat.reduceLT, Nat.reduceSub]
      refine hK7 _ ?_
      clear hK7
      refine aw_ret ?_
      show resOf zG _ [.tmp 4, .tmp 5] = some _
      simp only [amset, amlib, zset, eq_self, ↓reduceIte, reduceCtorEq, Nat.reduceBEq, Nat.reduceEqDiff, Nat.reduceAdd, Nat.reduceMul, Nat.reduceLeDiff, Nat.reduceLT, Nat.reduceSub]
      simp only [unW, unX, h0, h1, w16, ↓reduceIte, Bool.false_eq_true]
    · skip
      refine aw_skip ?_
      simp only [thenQ, blkQ, if_true, reduceIte, Nat.reduceEqDiff, eq_self]
      refine hK2 _ ?_
      clear hK2
      refine aw_ops zT fun K8 hK8 => ?_
      simp only [amset, amlib, zset, eq_self, ↓reduceIte, reduceCtorEq, Nat.reduceBEq, Nat.reduceEqDiff, Nat.reduceAdd, Nat.reduceMul, Nat.reduceLeDiff, Nat.reduceLT, Nat.reduceSub]
      refine hK8 _ ?_
      clear hK8
      refine aw_ret ?_
      show resOf zG _ [.tmp 4, .tmp 5] = some _
      simp only [amset, amlib, zset, eq_self, ↓reduceIte, reduceCtorEq, Nat.reduceBEq, Nat.reduceEqDiff, Nat.reduceAdd, Nat.reduceMul, Nat.reduceLeDiff, Nat.reduceLT, Nat.reduceSub]
      simp only [unW, unX, h0, h1, w16, ↓reduceIte, Bool.false_eq_true]
theorem prog76 : Tryz.prog.funcs[76]? = some Tryz.f76 := by kernel_rfl
theorem holds76 (op a : Int) (ha : i16r a) : Holds Tryz.prog zG 76 [.c (.int .i64 op), .c (.int .i16 a)] [.c (.int .i16 (unW op a)), .c (.int .i64 (unX op))] := by
  refine holds_of_body zT prog76 rfl rfl rfl (by simp [Tryz.f76]) ?_
  refine aw_ops zT fun K1 hK1 => ?_
  simp only [amset, amlib, zset, eq_self, ↓reduceIte, reduceCtorEq, Nat.reduceBEq, Nat.reduceEqDiff, Nat.reduceAdd, Nat.reduceMul, Nat.reduceLeDiff, Nat.reduceLT, Nat.reduceSub]
  refine hK1 _ ?_
  clear hK1
  refine aw_seq fun K2 hK2 => ?_
  refine aw_ops zT fun K3 hK3 => ?_
  simp only [amset, amlib, zset, eq_self, ↓reduceIte, reduceCtorEq, Nat.reduceBEq, Nat.reduceEqDiff, Nat.reduceAdd, Nat.reduceMul, Nat.reduceLeDiff, Nat.reduceLT, Nat.reduceSub]
  refine hK3 _ ?_
  clear hK3
  refine aw_block ?_
  refine aw_ops zT fun K4 hK4 => ?_
  simp only [amset, amlib, zset, eq_self, ↓reduceIte, reduceCtorEq, Nat.reduceBEq, Nat.reduceEqDiff, Nat.reduceAdd, Nat.reduceMul, Nat.reduceLeDiff, Nat.reduceLT, Nat.reduceSub]
  refine hK4 _ ?_
  clear hK4
  refine aw_cond rfl (fun h0 => ?_) (fun h0 => ?_)
  · skip
    have ea := i64_same (n := a) (by unfold i16r at ha; omega)
    have eb := i64_same (n := 0 - a) (by unfold i16r at ha; omega)
    refine aw_ops zT fun K5 hK5 => ?_
    simp only [amset, amlib, zset, ea, eb, eq_self, ↓reduceIte, reduceCtorEq, Nat.reduceBEq, Nat.reduceEqDiff, Nat.reduceAdd, Nat.reduceMul, Nat.reduceLeDiff, Nat.reduceLT, Nat.reduceSub]
    refine ⟨_, holds151 _, ?_⟩
    simp only [later]
    simp only [amset, amlib, zset, eq_self, ↓reduceIte, reduceCtorEq, Nat.reduceBEq, Nat.reduceEqDiff, Nat.reduceAdd, Nat.reduceMul, Nat.reduceLeDiff, Nat.reduceLT, Nat.reduceSub]
    refine hK5 _ ?_
    clear hK5
    refine aw_ret ?_
    show resOf zG _ [.tmp 4, .tmp 5] = some _
    simp only [amset, amlib, zset, eq_self, ↓reduceIte, reduceCtorEq, Nat.reduceBEq, Nat.reduceEqDiff, Nat.reduceAdd, Nat.reduceMul, Nat.reduceLeDiff, Nat.reduceLT, Nat.reduceSub]
    simp only [unW, unX, h0, ↓reduceIte, Bool.false_eq_true]
  · skip
    refine aw_ops zT fun K6 hK6 => ?_
    simp only [amset, amlib, zset, eq_self, ↓reduceIte, reduceCtorEq, Nat.reduceBEq, Nat.reduceEqDiff, Nat.reduceAdd, Nat.reduceMul, Nat.reduceLeDiff, Nat.reduceLT, Nat.reduceSub]
    refine hK6 _ ?_
    clear hK6
    refine aw_cond rfl (fun h1 => ?_) (fun h1 => ?_)
    · skip
      refine aw_ops zT fun K7 hK7 => ?_
      simp only [amset, amlib, zset, eq_self, ↓reduceIte, reduceCtorEq, Nat.reduceBEq, Nat.reduceEqDiff, Nat.reduceAdd, Nat.reduceMul, Nat.reduceLeDiff, Nat.reduceLT, Nat.reduceSub]
      refine ⟨_, holds152 _, ?_⟩
      simp only [later]
      simp only [amset, amlib, zset, eq_self, ↓reduceIte, reduceCtorEq, Nat.reduceBEq, Nat.reduceEqDiff, Nat.reduceAdd, Nat.reduceMul, Nat.reduceLeDiff, Nat.reduceLT, Nat.reduceSub]
      refine ⟨_, holds151 _, ?_⟩
      simp only [later]
      simp only [amset, amlib, zset, eq_self, ↓reduceIte, reduceCtorEq, Nat.reduceBEq, Nat.reduceEqDiff, Nat.reduceAdd, Nat.reduceMul, Nat.reduceLeDiff, Nat.reduceLT, Nat.reduceSub]
      refine hK7 _ ?_
      clear hK7
      refine aw_ret ?_
      show resOf zG _ [.tmp 4, .tmp 5] = some _
      simp only [amset, amlib, zset, eq_self, ↓reduceIte, reduceCtorEq, Nat.reduceBEq, Nat.reduceEqDiff, Nat.reduceAdd, Nat.reduceMul, Nat.reduceLeDiff, Nat.reduceLT, Nat.reduceSub]
      simp only [unW, unX, h0, h1, w16_tr, ↓reduceIte, Bool.false_eq_true]
    · skip
      refine aw_skip ?_
      simp only [thenQ, blkQ, if_true, reduceIte, Nat.reduceEqDiff, eq_self]
      refine hK2 _ ?_
      clear hK2
      refine aw_ops zT fun K8 hK8 => ?_
      simp only [amset, amlib, zset, eq_self, ↓reduceIte, reduceCtorEq, Nat.reduceBEq, Nat.reduceEqDiff, Nat.reduceAdd, Nat.reduceMul, Nat.reduceLeDiff, Nat.reduceLT, Nat.reduceSub]
      refine hK8 _ ?_
      clear hK8
      refine aw_ret ?_
      show resOf zG _ [.tmp 4, .tmp 5] = some _
      simp only [amset, amlib, zset, eq_self, ↓reduceIte, reduceCtorEq, Nat.reduceBEq, Nat.reduceEqDiff, Nat.reduceAdd, Nat.reduceMul, Nat.reduceLeDiff, Nat.reduceLT, Nat.reduceSub]
      simp only [unW, unX, h0, h1, w16, ↓reduceIte, Bool.false_eq_true]
end Go.Proofs.Am
set_option maxRecDepth 100000
namespace Go.Proofs.Am
def bareE (x : Ex) : Ex := if (x.kind == 1) then .mk x.kind [] x.value 0 [] 0 else if (x.kind == 2 || x.kind == 3 || x.kind == 4) then .mk x.kind x.name 0 0 [] 0 else .mk x.kind [] 0 x.op [] 0
theorem prog72 : Tryz.prog.funcs[72]? = some Tryz.f72 := by kernel_rfl
theorem holds72 (x : Ex) : Holds Tryz.prog zG 72 [.agg [.int .i64 x.kind, .str x.name, .int .i16 x.value, .int .i64 x.op, .sl 6 (encEs x.args), .int .i64 x.pos]] [.agg (encE (bareE x))] := by
  refine holds_of_body zT prog72 rfl rfl rfl (by simp [Tryz.f72]) ?_
  refine aw_ops zT fun K1 hK1 => ?_
  simp only [amset, amlib, zset, eq_self, ↓reduceIte, reduceCtorEq, Nat.reduceBEq, Nat.reduceEqDiff, Nat.reduceAdd, Nat.reduceMul, Nat.reduceLeDiff, Nat.reduceLT, Nat.reduceSub]
  refine hK1 _ ?_
  clear hK1
  refine aw_seq fun K2 hK2 => ?_
  refine aw_ops zT fun K3 hK3 => ?_
  simp only [amset, amlib, zset, eq_self, ↓reduceIte, reduceCtorEq, Nat.reduceBEq, Nat.reduceEqDiff, Nat.reduceAdd, Nat.reduceMul, Nat.reduceLeDiff, Nat.reduceLT, Nat.reduceSub]
  refine hK3 _ ?_
  clear hK3
  refine aw_block ?_
  refine aw_ops zT fun K4 hK4 => ?_
  simp only [amset, amlib, zset, eq_self, ↓reduceIte, reduceCtorEq, Nat.reduceBEq, Nat.reduceEqDiff, Nat.reduceAdd, Nat.reduceMul, Nat.reduceLeDiff, Nat.reduceLT, Nat.reduceSub]
  refine hK4 _ ?_
  clear hK4
  refine aw_cond rfl (fun h0 => ?_) (fun h0 => ?_)
  · skip
    refine aw_ops zT fun K5 hK5 => ?_
    simp only [amset, amlib, zset, eq_self, ↓reduceIte, reduceCtorEq, Nat.reduceBEq, Nat.reduceEqDiff, Nat.reduceAdd, Nat.reduceMul, Nat.reduceLeDiff, Nat.reduceLT, Nat.reduceSub]
    refine hK5 _ ?_
    clear hK5
    refine aw_ret ?_
    show resOf zG _ [.cell 2 32] = some _
    simp only [amset, amlib, zset, eq_self, ↓reduceIte, reduceCtorEq, Nat.reduceBEq, Nat.reduceEqDiff, Nat.reduceAdd, Nat.reduceMul, Nat.reduceLeDiff, Nat.reduceLT, Nat.reduceSub]
    simp only [bareE, h0, Bool.true_or, Bool.or_true, Bool.false_or, Bool.or_false, Bool.true_and, Bool.and_true, Bool.false_and, Bool.and_false, Bool.not_true, Bool.not_false, if_true, if_false, ↓reduceIte, Bool.false_eq_true]
    rfl
  · skip
    refine aw_seq fun K6 hK6 => ?_
    refine aw_ops zT fun K7 hK7 => ?_
    simp only [amset, amlib, zset, eq_self, ↓reduceIte, reduceCtorEq, Nat.reduceBEq, Nat.reduceEqDiff, Nat.reduceAdd, Nat.reduceMul, Nat.reduceLeDiff, Nat.reduceLT, Nat.reduceSub]
    refine hK7 _ ?_
    clear hK7
    refine aw_cond rfl (fun h1 => ?_) (fun h1 => ?_)
    · skip
      refine aw_norm (by simp only [amset, amlib, zset, h1, eq_self, ↓reduceIte, reduceCtorEq, Nat.reduceBEq, Nat.reduceEqDiff, Nat.reduceAdd, Nat.reduceMul, Nat.reduceLeDiff, Nat.reduceLT, Nat.reduceSub]; exact rfl) ?_
      refine aw_skip ?_
      simp only [thenQ, blkQ, if_true, reduceIte, Nat.reduceEqDiff, eq_self]
      refine hK6 _ ?_
      clear hK6
      refine aw_cond (t := true) rfl (fun _ => ?_) (fun h => nomatch h)
      refine aw_ops zT fun K8 hK8 => ?_
      simp only [amset, amlib, zset, eq_self, ↓reduceIte, reduceCtorEq, Nat.reduceBEq, Nat.reduceEqDiff, Nat.reduceAdd, Nat.reduceMul, Nat.reduceLeDiff, Nat.reduceLT, Nat.reduceSub]
      refine hK8 _ ?_
      clear hK8
      refine aw_ret ?_
      show resOf zG _ [.cell 2 32] = some _
      simp only [amset, amlib, zset, eq_self, ↓reduceIte, reduceCtorEq, Nat.reduceBEq, Nat.reduceEqDiff, Nat.reduceAdd, Nat.reduceMul, Nat.reduceLeDiff, Nat.reduceLT, Nat.reduceSub]
      simp only [bareE, h0, h1, Bool.true_or, Bool.or_true, Bool.false_or, Bool.or_false, Bool.true_and, Bool.and_true, Bool.false_and, Bool.and_false, Bool.not_true, Bool.not_false, if_true, if_false, ↓reduceIte, Bool.false_eq_true]
      rfl
    · skip
      refine aw_norm (by simp only [amset, amlib, zset, h1, eq_self, ↓reduceIte, reduceCtorEq, Nat.reduceBEq, Nat.reduceEqDiff, Nat.reduceAdd, Nat.reduceMul, Nat.reduceLeDiff, Nat.reduceLT, Nat.reduceSub]; exact rfl) ?_
      refine aw_ops zT fun K9 hK9 => ?_
      simp only [amset, amlib, zset, eq_self, ↓reduceIte, reduceCtorEq, Nat.reduceBEq, Nat.reduceEqDiff, Nat.reduceAdd, Nat.reduceMul, Nat.reduceLeDiff, Nat.reduceLT, Nat.reduceSub]
      refine hK9 _ ?_
      clear hK9
      refine aw_cond rfl (fun h2 => ?_) (fun h2 => ?_)
      · skip
        refine aw_norm (by simp only [amset, amlib, zset, h2, eq_self, ↓reduceIte, reduceCtorEq, Nat.reduceBEq, Nat.reduceEqDiff, Nat.reduceAdd, Nat.reduceMul, Nat.reduceLeDiff, Nat.reduceLT, Nat.reduceSub]; exact rfl) ?_
        refine aw_skip ?_
        simp only [thenQ, blkQ, if_true, reduceIte, Nat.reduceEqDiff, eq_self]
        refine hK6 _ ?_
        clear hK6
        refine aw_cond (t := true) rfl (fun _ => ?_) (fun h => nomatch h)
        refine aw_ops zT fun K10 hK10 => ?_
        simp only [amset, amlib, zset, eq_self, ↓reduceIte, reduceCtorEq, Nat.reduceBEq, Nat.reduceEqDiff, Nat.reduceAdd, Nat.reduceMul, Nat.reduceLeDiff, Nat.reduceLT, Nat.reduceSub]
        refine hK10 _ ?_
        clear hK10
        refine aw_ret ?_
        show resOf zG _ [.cell 2 32] = some _
        simp only [amset, amlib, zset, eq_self, ↓reduceIte, reduceCtorEq, Nat.reduceBEq, Nat.reduceEqDiff, Nat.reduceAdd, Nat.reduceMul, Nat.reduceLeDiff, Nat.reduceLT, Nat.reduceSub]
        simp only [bareE, h0, h1, h2, Bool.true_or, Bool.or_true, Bool.false_or, Bool.or_false, Bool.true_and, Bool.and_true, Bool.false_and, Bool.and_false, Bool.not_true, Bool.not_false, if_true, if_false, ↓reduceIte, Bool.false_eq_true]
        rfl
      · skip
        refine aw_norm (by simp only [amset, amlib, zset, h2, eq_self, ↓reduceIte, reduceCtorEq, Nat.reduceBEq, Nat.reduceEqDiff, Nat.reduceAdd, Nat.reduceMul, Nat.reduceLeDiff, Nat.reduceLT, Nat.reduceSub]; exact rfl) ?_
        refine aw_region zT ?_
        simp only [amset, amlib, zset, eq_self, ↓reduceIte, reduceCtorEq, Nat.reduceBEq, Nat.reduceEqDiff, Nat.reduceAdd, Nat.reduceMul, Nat.reduceLeDiff, Nat.reduceLT, Nat.reduceSub]
        refine hK6 _ ?_
        clear hK6
        refine aw_cond rfl (fun h3 => ?_) (fun h3 => ?_)
        · skip
          refine aw_norm (by simp only [amset, amlib, zset, h3, eq_self, ↓reduceIte, reduceCtorEq, Nat.reduceBEq, Nat.reduceEqDiff, Nat.reduceAdd, Nat.reduceMul, Nat.reduceLeDiff, Nat.reduceLT, Nat.reduceSub]; exact rfl) ?_
          refine aw_ops zT fun K11 hK11 => ?_
          simp only [amset, amlib, zset, eq_self, ↓reduceIte, reduceCtorEq, Nat.reduceBEq, Nat.reduceEqDiff, Nat.reduceAdd, Nat.reduceMul, Nat.reduceLeDiff, Nat.reduceLT, Nat.reduceSub]
          refine hK11 _ ?_
          clear hK11
          refine aw_ret ?_
          show resOf zG _ [.cell 2 32] = some _
          simp only [amset, amlib, zset, eq_self, ↓reduceIte, reduceCtorEq, Nat.reduceBEq, Nat.reduceEqDiff, Nat.reduceAdd, Nat.reduceMul, Nat.reduceLeDiff, Nat.reduceLT, Nat.reduceSub]
          simp only [bareE, h0, h1, h2, h3, Bool.true_or, Bool.or_true, Bool.false_or, Bool.or_false, Bool.true_and, Bool.and_true, Bool.false_and, Bool.and_false, Bool.not_true, Bool.not_false, if_true, if_false, ↓reduceIte, Bool.false_eq_true]
          rfl
        · skip
          refine aw_norm (by simp only [amset, amlib, zset, h3, eq_self, ↓reduceIte, reduceCtorEq, Nat.reduceBEq, Nat.reduceEqDiff, Nat.reduceAdd, Nat.reduceMul, Nat.reduceLeDiff, Nat.reduceLT, Nat.reduceSub]; exact rfl) ?_
          refine aw_skip ?_
          simp only [thenQ, blkQ, if_true, reduceIte, Nat.reduceEqDiff, eq_self]
          refine hK2 _ ?_
          clear hK2
          refine aw_ops zT fun K12 hK12 => ?_
          simp only [amset, amlib, zset, eq_self, ↓reduceIte, reduceCtorEq, Nat.reduceBEq, Nat.reduceEqDiff, Nat.reduceAdd, Nat.reduceMul, Nat.reduceLeDiff, Nat.reduceLT, Nat.reduceSub]
          refine hK12 _ ?_
          clear hK12
          refine aw_ret ?_
          show resOf zG _ [.cell 2 32] = some _
          simp only [amset, amlib, zset, eq_self, ↓reduceIte, reduceCtorEq, Nat.reduceBEq, Nat.reduceEqDiff, Nat.reduceAdd, Nat.reduceMul, Nat.reduceLeDiff, Nat.reduceLT, Nat.reduceSub]
          simp only [bareE, h0, h1, h2, h3, Bool.true_or, Bool.or_true, Bool.false_or, Bool.or_false, Bool.true_and, Bool.and_true, Bool.false_and, Bool.and_false, Bool.not_true, Bool.not_false, if_true, if_false, ↓reduceIte, Bool.false_eq_true]
          rfl
end Go.Proofs.Am
set_option maxRecDepth 100000
set_option maxHeartbeats 4000000
namespace Go.Proofs.Am
def numE (v : Int) : Ex := .mk 1 [] v 0 [] 0
def binE' (op : Int) (a b : Ex) : Ex := .mk 6 [] 0 op [a, b] 0
def unE' (op : Int) (a : Ex) : Ex := .mk 5 [] 0 op [a] 0
def nameE (s : List UInt8) : Ex := .mk 2 s 0 0 [] 0
def emitS (v : Int) : St := .mk 8 [] 0 [numE v] [] [] 0
def inTaskP (l : List St) : Pg := ⟨[], [], [], [], [], [⟨[116], 1, 0, [], [], 0, l, 0⟩]⟩
def litE (v : Int) : Ex := if decide (v ≥ 0) then numE v else if v == -32768 then binE' 4 (unE' 1 (numE 32767)) (numE 1) else unE' 1 (numE (0 - v))
theorem ex_eta (x : Ex) : Ex.mk x.kind x.name x.value x.op x.args x.pos = x := by cases x; rfl
theorem st_eta (x : St) : St.mk x.kind x.name x.n x.args x.body x.els x.pos = x := by cases x; rfl
theorem prog58 : Tryz.prog.funcs[58]? = some Tryz.f58 := by kernel_rfl
theorem holds58 (v : Int) : Holds Tryz.prog zG 58 [.c (.int .i16 v)] [.agg [.int .i64 (numE v).kind, .str (numE v).name, .int .i16 (numE v).value, .int .i64 (numE v).op, .sl 6 (encEs (numE v).args), .int .i64 (numE v).pos]] := by
  refine holds_of_body zT prog58 rfl rfl rfl (by simp [Tryz.f58]) ?_
  refine aw_ops zT fun K1 hK1 => ?_
  simp only [amset, amlib, zset, eq_self, ↓reduceIte, reduceCtorEq, Nat.reduceBEq, Nat.reduceEqDiff, Nat.reduceAdd, Nat.reduceMul, Nat.reduceLeDiff, Nat.reduceLT, Nat.reduceSub]
  refine hK1 _ ?_
  clear hK1
  refine aw_ops zT fun K2 hK2 => ?_
  simp only [amset, amlib, zset, eq_self, ↓reduceIte, reduceCtorEq, Nat.reduceBEq, Nat.reduceEqDiff, Nat.reduceAdd, Nat.reduceMul, Nat.reduceLeDiff, Nat.reduceLT, Nat.reduceSub]
  refine hK2 _ ?_
  clear hK2
  refine aw_ret ?_
  show resOf zG _ [.cell 2 32] = some _
  simp only [amset, amlib, zset, eq_self, ↓reduceIte, reduceCtorEq, Nat.reduceBEq, Nat.reduceEqDiff, Nat.reduceAdd, Nat.reduceMul, Nat.reduceLeDiff, Nat.reduceLT, Nat.reduceSub]
  simp only [numE, binE', unE', nameE, Ex.kind, Ex.name, Ex.value, Ex.op, Ex.args, Ex.pos, encEs, encE_eq]
theorem prog144 : Tryz.prog.funcs[144]? = some Tryz.f144 := by kernel_rfl
theorem holds144 (v : Int) : Holds Tryz.prog zG 144 [.c (.int .i16 v)] [.agg [.int .i64 (numE v).kind, .str (numE v).name, .int .i16 (numE v).value, .int .i64 (numE v).op, .sl 6 (encEs (numE v).args), .int .i64 (numE v).pos]] := by
  refine holds_of_body zT prog144 rfl rfl rfl (by simp [Tryz.f144]) ?_
  refine aw_ops zT fun K1 hK1 => ?_
  simp only [amset, amlib, zset, eq_self, ↓reduceIte, reduceCtorEq, Nat.reduceBEq, Nat.reduceEqDiff, Nat.reduceAdd, Nat.reduceMul, Nat.reduceLeDiff, Nat.reduceLT, Nat.reduceSub]
  refine hK1 _ ?_
  clear hK1
  refine aw_ops zT fun K2 hK2 => ?_
  simp only [amset, amlib, zset, eq_self, ↓reduceIte, reduceCtorEq, Nat.reduceBEq, Nat.reduceEqDiff, Nat.reduceAdd, Nat.reduceMul, Nat.reduceLeDiff, Nat.reduceLT, Nat.reduceSub]
  refine hK2 _ ?_
  clear hK2
  refine aw_ret ?_
  show resOf zG _ [.cell 2 32] = some _
  simp only [amset, amlib, zset, eq_self, ↓reduceIte, reduceCtorEq, Nat.reduceBEq, Nat.reduceEqDiff, Nat.reduceAdd, Nat.reduceMul, Nat.reduceLeDiff, Nat.reduceLT, Nat.reduceSub]
  simp only [numE, binE', unE', nameE, Ex.kind, Ex.name, Ex.value, Ex.op, Ex.args, Ex.pos, encEs, encE_eq]
theorem prog59 : Tryz.prog.funcs[59]? = some Tryz.f59 := by kernel_rfl
theorem holds59 (op : Int) (a b : Ex) : Holds Tryz.prog zG 59 [.c (.int .i64 op), .agg [.int .i64 a.kind, .str a.name, .int .i16 a.value, .int .i64 a.op, .sl 6 (encEs a.args), .int .i64 a.pos], .agg [.int .i64 b.kind, .str b.name, .int .i16 b.value, .int .i64 b.op, .sl 6 (encEs b.args), .int .i64 b.pos]] [.agg [.int .i64 (binE' op a b).kind, .str (binE' op a b).name, .int .i16 (binE' op a b).value, .int .i64 (binE' op a b).op, .sl 6 (encEs (binE' op a b).args), .int .i64 (binE' op a b).pos]] := by
  refine holds_of_body zT prog59 rfl rfl rfl (by simp [Tryz.f59]) ?_
  refine aw_ops zT fun K1 hK1 => ?_
  simp only [amset, amlib, zset, eq_self, ↓reduceIte, reduceCtorEq, Nat.reduceBEq, Nat.reduceEqDiff, Nat.reduceAdd, Nat.reduceMul, Nat.reduceLeDiff, Nat.reduceLT, Nat.reduceSub]
  refine hK1 _ ?_
  clear hK1
  refine aw_ops zT fun K2 hK2 => ?_
  simp only [amset, amlib, zset, eq_self, ↓reduceIte, reduceCtorEq, Nat.reduceBEq, Nat.reduceEqDiff, Nat.reduceAdd, Nat.reduceMul, Nat.reduceLeDiff, Nat.reduceLT, Nat.reduceSub]
  refine hK2 _ ?_
  clear hK2
  refine aw_ret ?_
  show resOf zG _ [.cell 6 32] = some _
  simp only [amset, amlib, zset, eq_self, ↓reduceIte, reduceCtorEq, Nat.reduceBEq, Nat.reduceEqDiff, Nat.reduceAdd, Nat.reduceMul, Nat.reduceLeDiff, Nat.reduceLT, Nat.reduceSub]
  simp only [numE, binE', unE', nameE, Ex.kind, Ex.name, Ex.value, Ex.op, Ex.args, Ex.pos, encEs, encE_eq]
theorem prog143 : Tryz.prog.funcs[143]? = some Tryz.f143 := by kernel_rfl
theorem holds143 (op : Int) (a b : Ex) : Holds Tryz.prog zG 143 [.c (.int .i64 op), .agg [.int .i64 a.kind, .str a.name, .int .i16 a.value, .int .i64 a.op, .sl 6 (encEs a.args), .int .i64 a.pos], .agg [.int .i64 b.kind, .str b.name, .int .i16 b.value, .int .i64 b.op, .sl 6 (encEs b.args), .int .i64 b.pos]] [.agg [.int .i64 (binE' op a b).kind, .str (binE' op a b).name, .int .i16 (binE' op a b).value, .int .i64 (binE' op a b).op, .sl 6 (encEs (binE' op a b).args), .int .i64 (binE' op a b).pos]] := by
  refine holds_of_body zT prog143 rfl rfl rfl (by simp [Tryz.f143]) ?_
  refine aw_ops zT fun K1 hK1 => ?_
  simp only [amset, amlib, zset, eq_self, ↓reduceIte, reduceCtorEq, Nat.reduceBEq, Nat.reduceEqDiff, Nat.reduceAdd, Nat.reduceMul, Nat.reduceLeDiff, Nat.reduceLT, Nat.reduceSub]
  refine hK1 _ ?_
  clear hK1
  refine aw_ops zT fun K2 hK2 => ?_
  simp only [amset, amlib, zset, eq_self, ↓reduceIte, reduceCtorEq, Nat.reduceBEq, Nat.reduceEqDiff, Nat.reduceAdd, Nat.reduceMul, Nat.reduceLeDiff, Nat.reduceLT, Nat.reduceSub]
  refine hK2 _ ?_
  clear hK2
  refine aw_ret ?_
  show resOf zG _ [.cell 6 32] = some _
  simp only [amset, amlib, zset, eq_self, ↓reduceIte, reduceCtorEq, Nat.reduceBEq, Nat.reduceEqDiff, Nat.reduceAdd, Nat.reduceMul, Nat.reduceLeDiff, Nat.reduceLT, Nat.reduceSub]
  simp only [numE, binE', unE', nameE, Ex.kind, Ex.name, Ex.value, Ex.op, Ex.args, Ex.pos, encEs, encE_eq]
theorem prog60 : Tryz.prog.funcs[60]? = some Tryz.f60 := by kernel_rfl
theorem holds60 (s : List UInt8) : Holds Tryz.prog zG 60 [.c (.str s)] [.agg [.int .i64 (nameE s).kind, .str (nameE s).name, .int .i16 (nameE s).value, .int .i64 (nameE s).op, .sl 6 (encEs (nameE s).args), .int .i64 (nameE s).pos]] := by
  refine holds_of_body zT prog60 rfl rfl rfl (by simp [Tryz.f60]) ?_
  refine aw_ops zT fun K1 hK1 => ?_
  simp only [amset, amlib, zset, eq_self, ↓reduceIte, reduceCtorEq, Nat.reduceBEq, Nat.reduceEqDiff, Nat.reduceAdd, Nat.reduceMul, Nat.reduceLeDiff, Nat.reduceLT, Nat.reduceSub]
  refine hK1 _ ?_
  clear hK1
  refine aw_ops zT fun K2 hK2 => ?_
  simp only [amset, amlib, zset, eq_self, ↓reduceIte, reduceCtorEq, Nat.reduceBEq, Nat.reduceEqDiff, Nat.reduceAdd, Nat.reduceMul, Nat.reduceLeDiff, Nat.reduceLT, Nat.reduceSub]
  refine hK2 _ ?_
  clear hK2
  refine aw_ret ?_
  show resOf zG _ [.cell 2 32] = some _
  simp only [amset, amlib, zset, eq_self, ↓reduceIte, reduceCtorEq, Nat.reduceBEq, Nat.reduceEqDiff, Nat.reduceAdd, Nat.reduceMul, Nat.reduceLeDiff, Nat.reduceLT, Nat.reduceSub]
  simp only [numE, binE', unE', nameE, Ex.kind, Ex.name, Ex.value, Ex.op, Ex.args, Ex.pos, encEs, encE_eq]
theorem prog57 : Tryz.prog.funcs[57]? = some Tryz.f57 := by kernel_rfl
theorem holds57 (v : Int) : Holds Tryz.prog zG 57 [.c (.int .i16 v)] [.c (.sl 7 (encSs [emitS v]))] := by
  refine holds_of_body zT prog57 rfl rfl rfl (by simp [Tryz.f57]) ?_
  refine aw_ops zT fun K1 hK1 => ?_
  simp only [amset, amlib, zset, eq_self, ↓reduceIte, reduceCtorEq, Nat.reduceBEq, Nat.reduceEqDiff, Nat.reduceAdd, Nat.reduceMul, Nat.reduceLeDiff, Nat.reduceLT, Nat.reduceSub]
  refine hK1 _ ?_
  clear hK1
  refine aw_ops zT fun K2 hK2 => ?_
  simp only [amset, amlib, zset, eq_self, ↓reduceIte, reduceCtorEq, Nat.reduceBEq, Nat.reduceEqDiff, Nat.reduceAdd, Nat.reduceMul, Nat.reduceLeDiff, Nat.reduceLT, Nat.reduceSub]
  refine ⟨_, holds58 v, ?_⟩
  simp only [later]
  simp only [amset, amlib, zset, eq_self, ↓reduceIte, reduceCtorEq, Nat.reduceBEq, Nat.reduceEqDiff, Nat.reduceAdd, Nat.reduceMul, Nat.reduceLeDiff, Nat.reduceLT, Nat.reduceSub]
  refine hK2 _ ?_
  clear hK2
  refine aw_ret ?_
  show resOf zG _ [.tmp 2] = some _
  simp only [amset, amlib, zset, eq_self, ↓reduceIte, reduceCtorEq, Nat.reduceBEq, Nat.reduceEqDiff, Nat.reduceAdd, Nat.reduceMul, Nat.reduceLeDiff, Nat.reduceLT, Nat.reduceSub]
  simp only [encSs, encS_eq, emitS, St.kind, St.name, St.n, St.args, St.body, St.els, St.pos, numE, binE', unE', nameE, Ex.kind, Ex.name, Ex.value, Ex.op, Ex.args, Ex.pos, encEs, encE_eq]
theorem prog67 : Tryz.prog.funcs[67]? = some Tryz.f67 := by kernel_rfl
theorem holds67 (l : List St) : Holds Tryz.prog zG 67 [.c (.sl 7 (encSs l))] [.agg [.sl 3 (encCs (inTaskP l).consts), .sl 4 (encGs (inTaskP l).globals), .sl 1 (encStrs (inTaskP l).sensors), .sl 1 (encStrs (inTaskP l).outputs), .sl 3 (encHs (inTaskP l).channels), .sl 8 (encTs (inTaskP l).tasks)]] := by
  refine holds_of_body zT prog67 rfl rfl rfl (by simp [Tryz.f67]) ?_
  refine aw_ops zT fun K1 hK1 => ?_
  simp only [amset, amlib, zset, eq_self, ↓reduceIte, reduceCtorEq, Nat.reduceBEq, Nat.reduceEqDiff, Nat.reduceAdd, Nat.reduceMul, Nat.reduceLeDiff, Nat.reduceLT, Nat.reduceSub]
  refine hK1 _ ?_
  clear hK1
  refine aw_ops zT fun K2 hK2 => ?_
  simp only [amset, amlib, zset, eq_self, ↓reduceIte, reduceCtorEq, Nat.reduceBEq, Nat.reduceEqDiff, Nat.reduceAdd, Nat.reduceMul, Nat.reduceLeDiff, Nat.reduceLT, Nat.reduceSub]
  refine hK2 _ ?_
  clear hK2
  refine aw_ret ?_
  show resOf zG _ [.cell 2 28] = some _
  simp only [amset, amlib, zset, eq_self, ↓reduceIte, reduceCtorEq, Nat.reduceBEq, Nat.reduceEqDiff, Nat.reduceAdd, Nat.reduceMul, Nat.reduceLeDiff, Nat.reduceLT, Nat.reduceSub]
  rfl
theorem prog203 : Tryz.prog.funcs[203]? = some Tryz.f203 := by kernel_rfl
theorem holds203 (x : Ex) : Holds Tryz.prog zG 203 [.agg [.int .i64 x.kind, .str x.name, .int .i16 x.value, .int .i64 x.op, .sl 6 (encEs x.args), .int .i64 x.pos]] [.agg [.int .i64 x.kind, .str x.name, .int .i16 x.value, .int .i64 x.op, .sl 0 [], .int .i64 0]] := by
  refine holds_of_body zT prog203 rfl rfl rfl (by simp [Tryz.f203]) ?_
  refine aw_ops zT fun K1 hK1 => ?_
  simp only [amset, amlib, zset, eq_self, ↓reduceIte, reduceCtorEq, Nat.reduceBEq, Nat.reduceEqDiff, Nat.reduceAdd, Nat.reduceMul, Nat.reduceLeDiff, Nat.reduceLT, Nat.reduceSub]
  refine hK1 _ ?_
  clear hK1
  refine aw_ops zT fun K2 hK2 => ?_
  simp only [amset, amlib, zset, eq_self, ↓reduceIte, reduceCtorEq, Nat.reduceBEq, Nat.reduceEqDiff, Nat.reduceAdd, Nat.reduceMul, Nat.reduceLeDiff, Nat.reduceLT, Nat.reduceSub]
  refine hK2 _ ?_
  clear hK2
  refine aw_ops zT fun K3 hK3 => ?_
  simp only [amset, amlib, zset, eq_self, ↓reduceIte, reduceCtorEq, Nat.reduceBEq, Nat.reduceEqDiff, Nat.reduceAdd, Nat.reduceMul, Nat.reduceLeDiff, Nat.reduceLT, Nat.reduceSub]
  refine hK3 _ ?_
  clear hK3
  refine aw_ret ?_
  show resOf zG _ [.cell 2 32] = some _
  simp only [amset, amlib, zset, eq_self, ↓reduceIte, reduceCtorEq, Nat.reduceBEq, Nat.reduceEqDiff, Nat.reduceAdd, Nat.reduceMul, Nat.reduceLeDiff, Nat.reduceLT, Nat.reduceSub]
end Go.Proofs.Am
set_option maxRecDepth 100000
set_option maxHeartbeats 4000000
namespace Go.Proofs.Am
def sameE (x y : Ex) : Bool := x.kind == y.kind && x.name == y.name && x.value == y.value && x.op == y.op
def plainP (x : Ex) : Int × Bool :=
  if x.kind == 1 then (0, decide (x.value ≥ 0) && sameE x (.mk x.kind [] x.value 0 [] 0))
  else if x.kind == 2 || x.kind == 4 then (0, ident x.name && sameE x (.mk x.kind x.name 0 0 [] 0))
  else if x.kind == 3 then (1, ident x.name && sameE x (.mk x.kind x.name 0 0 [] 0))
  else if x.kind == 5 then (1, (decide (x.op ≥ 1) && decide (x.op ≤ 2)) && sameE x (.mk x.kind [] 0 x.op [] 0))
  else if x.kind == 6 then (2, (decide (x.op ≥ 3) && decide (x.op ≤ 15)) && sameE x (.mk x.kind [] 0 x.op [] 0))
  else (0, false)
theorem prog204 : Tryz.prog.funcs[204]? = some Tryz.f204 := by kernel_rfl
theorem holds204 (x y : Ex) : Holds Tryz.prog zG 204 [.agg [.int .i64 y.kind, .str y.name, .int .i16 y.value, .int .i64 y.op, .sl 6 (encEs y.args), .int .i64 y.pos], .ref [.int .i64 x.kind, .str x.name, .int .i16 x.value, .int .i64 x.op, .sl 0 [], .int .i64 0]] [.c (.bool (sameE x y))] := by
  refine holds_of_body zT prog204 rfl rfl rfl (by simp [Tryz.f204]) ?_
  refine aw_ops zT fun K1 hK1 => ?_
  simp only [amset, amlib, zset, eq_self, ↓reduceIte, reduceCtorEq, Nat.reduceBEq, Nat.reduceEqDiff, Nat.reduceAdd, Nat.reduceMul, Nat.reduceLeDiff, Nat.reduceLT, Nat.reduceSub]
  refine hK1 _ ?_
  clear hK1
  refine aw_ops zT fun K2 hK2 => ?_
  cases e0 : (x.kind == y.kind) with
  | true =>
    cases e1 : (x.name == y.name) with
    | true =>
      cases e2 : (x.value == y.value) with
      | true =>
        simp only [amset, amlib, zset, e0, e1, e2, eq_self, ↓reduceIte, reduceCtorEq, Nat.reduceBEq, Nat.reduceEqDiff, Nat.reduceAdd, Nat.reduceMul, Nat.reduceLeDiff, Nat.reduceLT, Nat.reduceSub]
        refine hK2 _ ?_
        clear hK2
        refine aw_ret ?_
        show resOf zG _ [.tmp 3] = some _
        simp only [amset, amlib, zset, eq_self, ↓reduceIte, reduceCtorEq, Nat.reduceBEq, Nat.reduceEqDiff, Nat.reduceAdd, Nat.reduceMul, Nat.reduceLeDiff, Nat.reduceLT, Nat.reduceSub]
        simp only [sameE, e0, e1, e2, Bool.true_or, Bool.or_true, Bool.false_or, Bool.or_false, Bool.true_and, Bool.and_true, Bool.false_and, Bool.and_false, Bool.not_true, Bool.not_false, if_true, if_false, ↓reduceIte, Bool.false_eq_true]
      | false =>
        simp only [amset, amlib, zset, e0, e1, e2, eq_self, ↓reduceIte, reduceCtorEq, Nat.reduceBEq, Nat.reduceEqDiff, Nat.reduceAdd, Nat.reduceMul, Nat.reduceLeDiff, Nat.reduceLT, Nat.reduceSub]
        refine hK2 _ ?_
        clear hK2
        refine aw_ret ?_
        show resOf zG _ [.tmp 3] = some _
        simp only [amset, amlib, zset, eq_self, ↓reduceIte, reduceCtorEq, Nat.reduceBEq, Nat.reduceEqDiff, Nat.reduceAdd, Nat.reduceMul, Nat.reduceLeDiff, Nat.reduceLT, Nat.reduceSub]
        simp only [sameE, e0, e1, e2, Bool.true_or, Bool.or_true, Bool.false_or, Bool.or_false, Bool.true_and, Bool.and_true, Bool.false_and, Bool.and_false, Bool.not_true, Bool.not_false, if_true, if_false, ↓reduceIte, Bool.false_eq_true]
    | false =>
      simp only [amset, amlib, zset, e0, e1, eq_self, ↓reduceIte, reduceCtorEq, Nat.reduceBEq, Nat.reduceEqDiff, Nat.reduceAdd, Nat.reduceMul, Nat.reduceLeDiff, Nat.reduceLT, Nat.reduceSub]
      refine hK2 _ ?_
      clear hK2
      refine aw_ret ?_
      show resOf zG _ [.tmp 3] = some _
      simp only [amset, amlib, zset, eq_self, ↓reduceIte, reduceCtorEq, Nat.reduceBEq, Nat.reduceEqDiff, Nat.reduceAdd, Nat.reduceMul, Nat.reduceLeDiff, Nat.reduceLT, Nat.reduceSub]
      simp only [sameE, e0, e1, Bool.true_or, Bool.or_true, Bool.false_or, Bool.or_false, Bool.true_and, Bool.and_true, Bool.false_and, Bool.and_false, Bool.not_true, Bool.not_false, if_true, if_false, ↓reduceIte, Bool.false_eq_true]
  | false =>
    simp only [amset, amlib, zset, e0, eq_self, ↓reduceIte, reduceCtorEq, Nat.reduceBEq, Nat.reduceEqDiff, Nat.reduceAdd, Nat.reduceMul, Nat.reduceLeDiff, Nat.reduceLT, Nat.reduceSub]
    refine hK2 _ ?_
    clear hK2
    refine aw_ret ?_
    show resOf zG _ [.tmp 3] = some _
    simp only [amset, amlib, zset, eq_self, ↓reduceIte, reduceCtorEq, Nat.reduceBEq, Nat.reduceEqDiff, Nat.reduceAdd, Nat.reduceMul, Nat.reduceLeDiff, Nat.reduceLT, Nat.reduceSub]
    simp only [sameE, e0, Bool.true_or, Bool.or_true, Bool.false_or, Bool.or_false, Bool.true_and, Bool.and_true, Bool.false_and, Bool.and_false, Bool.not_true, Bool.not_false, if_true, if_false, ↓reduceIte, Bool.false_eq_true]
theorem prog163 : Tryz.prog.funcs[163]? = some Tryz.f163 := by kernel_rfl
theorem holds163 (x : Ex) : Holds Tryz.prog zG 163 [.agg [.int .i64 x.kind, .str x.name, .int .i16 x.value, .int .i64 x.op, .sl 6 (encEs x.args), .int .i64 x.pos]] [.c (.int .i64 (plainP x).1), .c (.bool (plainP x).2)] := by
  refine holds_of_body zT prog163 rfl rfl rfl (by simp [Tryz.f163]) ?_
  refine aw_ops zT fun K1 hK1 => ?_
  simp only [amset, amlib, zset, eq_self, ↓reduceIte, reduceCtorEq, Nat.reduceBEq, Nat.reduceEqDiff, Nat.reduceAdd, Nat.reduceMul, Nat.reduceLeDiff, Nat.reduceLT, Nat.reduceSub]
  refine hK1 _ ?_
  clear hK1
  refine aw_ops zT fun K2 hK2 => ?_
  simp only [amset, amlib, zset, eq_self, ↓reduceIte, reduceCtorEq, Nat.reduceBEq, Nat.reduceEqDiff, Nat.reduceAdd, Nat.reduceMul, Nat.reduceLeDiff, Nat.reduceLT, Nat.reduceSub]
  refine ⟨_, holds203 x, ?_⟩
  simp only [later]
  simp only [amset, amlib, zset, eq_self, ↓reduceIte, reduceCtorEq, Nat.reduceBEq, Nat.reduceEqDiff, Nat.reduceAdd, Nat.reduceMul, Nat.reduceLeDiff, Nat.reduceLT, Nat.reduceSub]
  refine hK2 _ ?_
  clear hK2
  refine aw_ops zT fun K3 hK3 => ?_
  simp only [amset, amlib, zset, eq_self, ↓reduceIte, reduceCtorEq, Nat.reduceBEq, Nat.reduceEqDiff, Nat.reduceAdd, Nat.reduceMul, Nat.reduceLeDiff, Nat.reduceLT, Nat.reduceSub]
  refine hK3 _ ?_
  clear hK3
  refine aw_seq fun K4 hK4 => ?_
  refine aw_ops zT fun K5 hK5 => ?_
  simp only [amset, amlib, zset, eq_self, ↓reduceIte, reduceCtorEq, Nat.reduceBEq, Nat.reduceEqDiff, Nat.reduceAdd, Nat.reduceMul, Nat.reduceLeDiff, Nat.reduceLT, Nat.reduceSub]
  refine hK5 _ ?_
  clear hK5
  refine aw_block ?_
  refine aw_ops zT fun K6 hK6 => ?_
  simp only [amset, amlib, zset, eq_self, ↓reduceIte, reduceCtorEq, Nat.reduceBEq, Nat.reduceEqDiff, Nat.reduceAdd, Nat.reduceMul, Nat.reduceLeDiff, Nat.reduceLT, Nat.reduceSub]
  refine hK6 _ ?_
  clear hK6
  refine aw_cond rfl (fun h0 => ?_) (fun h0 => ?_)
  · skip
    refine aw_ops zT fun K7 hK7 => ?_
    cases e0 : decide (x.value ≥ 0) with
    | true =>
      simp only [amset, amlib, zset, e0, eq_self, ↓reduceIte, reduceCtorEq, Nat.reduceBEq, Nat.reduceEqDiff, Nat.reduceAdd, Nat.reduceMul, Nat.reduceLeDiff, Nat.reduceLT, Nat.reduceSub]
      refine ⟨_, holds204 x (.mk x.kind [] x.value 0 [] 0), ?_⟩
      simp only [later]
      simp only [amset, amlib, zset, e0, eq_self, ↓reduceIte, reduceCtorEq, Nat.reduceBEq, Nat.reduceEqDiff, Nat.reduceAdd, Nat.reduceMul, Nat.reduceLeDiff, Nat.reduceLT, Nat.reduceSub]
      refine hK7 _ ?_
      clear hK7
      refine aw_ret ?_
      show resOf zG _ [.tmp 2, .tmp 3] = some _
      simp only [amset, amlib, zset, eq_self, ↓reduceIte, reduceCtorEq, Nat.reduceBEq, Nat.reduceEqDiff, Nat.reduceAdd, Nat.reduceMul, Nat.reduceLeDiff, Nat.reduceLT, Nat.reduceSub]
      simp only [plainP, e0, h0, Bool.true_or, Bool.or_true, Bool.false_or, Bool.or_false, Bool.true_and, Bool.and_true, Bool.false_and, Bool.and_false, Bool.not_true, Bool.not_false, if_true, if_false, ↓reduceIte, Bool.false_eq_true]
    | false =>
      simp only [amset, amlib, zset, e0, eq_self, ↓reduceIte, reduceCtorEq, Nat.reduceBEq, Nat.reduceEqDiff, Nat.reduceAdd, Nat.reduceMul, Nat.reduceLeDiff, Nat.reduceLT, Nat.reduceSub]
      refine hK7 _ ?_
      clear hK7
      refine aw_ret ?_
      show resOf zG _ [.tmp 2, .tmp 3] = some _
      simp only [amset, amlib, zset, eq_self, ↓reduceIte, reduceCtorEq, Nat.reduceBEq, Nat.reduceEqDiff, Nat.reduceAdd, Nat.reduceMul, Nat.reduceLeDiff, Nat.reduceLT, Nat.reduceSub]
      simp only [plainP, e0, h0, Bool.true_or, Bool.or_true, Bool.false_or, Bool.or_false, Bool.true_and, Bool.and_true, Bool.false_and, Bool.and_false, Bool.not_true, Bool.not_false, if_true, if_false, ↓reduceIte, Bool.false_eq_true]
  · skip
    refine aw_seq fun K8 hK8 => ?_
    refine aw_ops zT fun K9 hK9 => ?_
    simp only [amset, amlib, zset, eq_self, ↓reduceIte, reduceCtorEq, Nat.reduceBEq, Nat.reduceEqDiff, Nat.reduceAdd, Nat.reduceMul, Nat.reduceLeDiff, Nat.reduceLT, Nat.reduceSub]
    refine hK9 _ ?_
    clear hK9
    refine aw_cond rfl (fun h1 => ?_) (fun h1 => ?_)
    · skip
      refine aw_norm (by simp only [amset, amlib, zset, h1, eq_self, ↓reduceIte, reduceCtorEq, Nat.reduceBEq, Nat.reduceEqDiff, Nat.reduceAdd, Nat.reduceMul, Nat.reduceLeDiff, Nat.reduceLT, Nat.reduceSub]; exact rfl) ?_
      refine aw_skip ?_
      simp only [thenQ, blkQ, if_true, reduceIte, Nat.reduceEqDiff, eq_self]
      refine hK8 _ ?_
      clear hK8
      refine aw_cond (t := true) rfl (fun _ => ?_) (fun h => nomatch h)
      refine aw_ops zT fun K10 hK10 => ?_
      cases e0 : ident x.name with
      | true =>
        simp only [amset, amlib, zset, e0, eq_self, ↓reduceIte, reduceCtorEq, Nat.reduceBEq, Nat.reduceEqDiff, Nat.reduceAdd, Nat.reduceMul, Nat.reduceLeDiff, Nat.reduceLT, Nat.reduceSub]
        refine ⟨_, holds96 x.name, ?_⟩
        simp only [later]
        simp only [amset, amlib, zset, e0, eq_self, ↓reduceIte, reduceCtorEq, Nat.reduceBEq, Nat.reduceEqDiff, Nat.reduceAdd, Nat.reduceMul, Nat.reduceLeDiff, Nat.reduceLT, Nat.reduceSub]
        refine ⟨_, holds204 x (.mk x.kind x.name 0 0 [] 0), ?_⟩
        simp only [later]
        simp only [amset, amlib, zset, e0, eq_self, ↓reduceIte, reduceCtorEq, Nat.reduceBEq, Nat.reduceEqDiff, Nat.reduceAdd, Nat.reduceMul, Nat.reduceLeDiff, Nat.reduceLT, Nat.reduceSub]
        refine hK10 _ ?_
        clear hK10
        refine aw_ret ?_
        show resOf zG _ [.tmp 2, .tmp 3] = some _
        simp only [amset, amlib, zset, eq_self, ↓reduceIte, reduceCtorEq, Nat.reduceBEq, Nat.reduceEqDiff, Nat.reduceAdd, Nat.reduceMul, Nat.reduceLeDiff, Nat.reduceLT, Nat.reduceSub]
        simp only [plainP, e0, h0, h1, Bool.true_or, Bool.or_true, Bool.false_or, Bool.or_false, Bool.true_and, Bool.and_true, Bool.false_and, Bool.and_false, Bool.not_true, Bool.not_false, if_true, if_false, ↓reduceIte, Bool.false_eq_true]
      | false =>
        simp only [amset, amlib, zset, e0, eq_self, ↓reduceIte, reduceCtorEq, Nat.reduceBEq, Nat.reduceEqDiff, Nat.reduceAdd, Nat.reduceMul, Nat.reduceLeDiff, Nat.reduceLT, Nat.reduceSub]
        refine ⟨_, holds96 x.name, ?_⟩
        simp only [later]
        simp only [amset, amlib, zset, e0, eq_self, ↓reduceIte, reduceCtorEq, Nat.reduceBEq, Nat.reduceEqDiff, Nat.reduceAdd, Nat.reduceMul, Nat.reduceLeDiff, Nat.reduceLT, Nat.reduceSub]
        refine hK10 _ ?_
        clear hK10
        refine aw_ret ?_
        show resOf zG _ [.tmp 2, .tmp 3] = some _
        simp only [amset, amlib, zset, eq_self, ↓reduceIte, reduceCtorEq, Nat.reduceBEq, Nat.reduceEqDiff, Nat.reduceAdd, Nat.reduceMul, Nat.reduceLeDiff, Nat.reduceLT, Nat.reduceSub]
        simp only [plainP, e0, h0, h1, Bool.true_or, Bool.or_true, Bool.false_or, Bool.or_false, Bool.true_and, Bool.and_true, Bool.false_and, Bool.and_false, Bool.not_true, Bool.not_false, if_true, if_false, ↓reduceIte, Bool.false_eq_true]
    · skip
      refine aw_norm (by simp only [amset, amlib, zset, h1, eq_self, ↓reduceIte, reduceCtorEq, Nat.reduceBEq, Nat.reduceEqDiff, Nat.reduceAdd, Nat.reduceMul, Nat.reduceLeDiff, Nat.reduceLT, Nat.reduceSub]; exact rfl) ?_
      refine aw_region zT ?_
      simp only [amset, amlib, zset, eq_self, ↓reduceIte, reduceCtorEq, Nat.reduceBEq, Nat.reduceEqDiff, Nat.reduceAdd, Nat.reduceMul, Nat.reduceLeDiff, Nat.reduceLT, Nat.reduceSub]
      refine hK8 _ ?_
      clear hK8
      refine aw_cond rfl (fun h2 => ?_) (fun h2 => ?_)
      · skip
        refine aw_norm (by simp only [amset, amlib, zset, h2, eq_self, ↓reduceIte, reduceCtorEq, Nat.reduceBEq, Nat.reduceEqDiff, Nat.reduceAdd, Nat.reduceMul, Nat.reduceLeDiff, Nat.reduceLT, Nat.reduceSub]; exact rfl) ?_
        refine aw_ops zT fun K11 hK11 => ?_
        cases e0 : ident x.name with
        | true =>
          simp only [amset, amlib, zset, e0, eq_self, ↓reduceIte, reduceCtorEq, Nat.reduceBEq, Nat.reduceEqDiff, Nat.reduceAdd, Nat.reduceMul, Nat.reduceLeDiff, Nat.reduceLT, Nat.reduceSub]
          refine ⟨_, holds96 x.name, ?_⟩
          simp only [later]
          simp only [amset, amlib, zset, e0, eq_self, ↓reduceIte, reduceCtorEq, Nat.reduceBEq, Nat.reduceEqDiff, Nat.reduceAdd, Nat.reduceMul, Nat.reduceLeDiff, Nat.reduceLT, Nat.reduceSub]
          refine ⟨_, holds204 x (.mk x.kind x.name 0 0 [] 0), ?_⟩
          simp only [later]
          simp only [amset, amlib, zset, e0, eq_self, ↓reduceIte, reduceCtorEq, Nat.reduceBEq, Nat.reduceEqDiff, Nat.reduceAdd, Nat.reduceMul, Nat.reduceLeDiff, Nat.reduceLT, Nat.reduceSub]
          refine hK11 _ ?_
          clear hK11
          refine aw_ret ?_
          show resOf zG _ [.tmp 2, .tmp 3] = some _
          simp only [amset, amlib, zset, eq_self, ↓reduceIte, reduceCtorEq, Nat.reduceBEq, Nat.reduceEqDiff, Nat.reduceAdd, Nat.reduceMul, Nat.reduceLeDiff, Nat.reduceLT, Nat.reduceSub]
          simp only [plainP, e0, h0, h1, h2, Bool.true_or, Bool.or_true, Bool.false_or, Bool.or_false, Bool.true_and, Bool.and_true, Bool.false_and, Bool.and_false, Bool.not_true, Bool.not_false, if_true, if_false, ↓reduceIte, Bool.false_eq_true]
        | false =>
          simp only [amset, amlib, zset, e0, eq_self, ↓reduceIte, reduceCtorEq, Nat.reduceBEq, Nat.reduceEqDiff, Nat.reduceAdd, Nat.reduceMul, Nat.reduceLeDiff, Nat.reduceLT, Nat.reduceSub]
          refine ⟨_, holds96 x.name, ?_⟩
          simp only [later]
          simp only [amset, amlib, zset, e0, eq_self, ↓reduceIte, reduceCtorEq, Nat.reduceBEq, Nat.reduceEqDiff, Nat.reduceAdd, Nat.reduceMul, Nat.reduceLeDiff, Nat.reduceLT, Nat.reduceSub]
          refine hK11 _ ?_
          clear hK11
          refine aw_ret ?_
          show resOf zG _ [.tmp 2, .tmp 3] = some _
          simp only [amset, amlib, zset, eq_self, ↓reduceIte, reduceCtorEq, Nat.reduceBEq, Nat.reduceEqDiff, Nat.reduceAdd, Nat.reduceMul, Nat.reduceLeDiff, Nat.reduceLT, Nat.reduceSub]
          simp only [plainP, e0, h0, h1, h2, Bool.true_or, Bool.or_true, Bool.false_or, Bool.or_false, Bool.true_and, Bool.and_true, Bool.false_and, Bool.and_false, Bool.not_true, Bool.not_false, if_true, if_false, ↓reduceIte, Bool.false_eq_true]
      · skip
        refine aw_norm (by simp only [amset, amlib, zset, h2, eq_self, ↓reduceIte, reduceCtorEq, Nat.reduceBEq, Nat.reduceEqDiff, Nat.reduceAdd, Nat.reduceMul, Nat.reduceLeDiff, Nat.reduceLT, Nat.reduceSub]; exact rfl) ?_
        refine aw_ops zT fun K12 hK12 => ?_
        simp only [amset, amlib, zset, eq_self, ↓reduceIte, reduceCtorEq, Nat.reduceBEq, Nat.reduceEqDiff, Nat.reduceAdd, Nat.reduceMul, Nat.reduceLeDiff, Nat.reduceLT, Nat.reduceSub]
        refine hK12 _ ?_
        clear hK12
        refine aw_cond rfl (fun h3 => ?_) (fun h3 => ?_)
        · skip
          refine aw_ops zT fun K13 hK13 => ?_
          cases e0 : ident x.name with
          | true =>
            simp only [amset, amlib, zset, e0, eq_self, ↓reduceIte, reduceCtorEq, Nat.reduceBEq, Nat.reduceEqDiff, Nat.reduceAdd, Nat.reduceMul, Nat.reduceLeDiff, Nat.reduceLT, Nat.reduceSub]
            refine ⟨_, holds96 x.name, ?_⟩
            simp only [later]
            simp only [amset, amlib, zset, e0, eq_self, ↓reduceIte, reduceCtorEq, Nat.reduceBEq, Nat.reduceEqDiff, Nat.reduceAdd, Nat.reduceMul, Nat.reduceLeDiff, Nat.reduceLT, Nat.reduceSub]
            refine ⟨_, holds204 x (.mk x.kind x.name 0 0 [] 0), ?_⟩
            simp only [later]
            simp only [amset, amlib, zset, e0, eq_self, ↓reduceIte, reduceCtorEq, Nat.reduceBEq, Nat.reduceEqDiff, Nat.reduceAdd, Nat.reduceMul, Nat.reduceLeDiff, Nat.reduceLT, Nat.reduceSub]
            refine hK13 _ ?_
            clear hK13
            refine aw_ret ?_
            show resOf zG _ [.tmp 2, .tmp 3] = some _
            simp only [amset, amlib, zset, eq_self, ↓reduceIte, reduceCtorEq, Nat.reduceBEq, Nat.reduceEqDiff, Nat.reduceAdd, Nat.reduceMul, Nat.reduceLeDiff, Nat.reduceLT, Nat.reduceSub]
            simp only [plainP, e0, h0, h1, h2, h3, Bool.true_or, Bool.or_true, Bool.false_or, Bool.or_false, Bool.true_and, Bool.and_true, Bool.false_and, Bool.and_false, Bool.not_true, Bool.not_false, if_true, if_false, ↓reduceIte, Bool.false_eq_true]
          | false =>
            simp only [amset, amlib, zset, e0, eq_self, ↓reduceIte, reduceCtorEq, Nat.reduceBEq, Nat.reduceEqDiff, Nat.reduceAdd, Nat.reduceMul, Nat.reduceLeDiff, Nat.reduceLT, Nat.reduceSub]
            refine ⟨_, holds96 x.name, ?_⟩
            simp only [later]
            simp only [amset, amlib, zset, e0, eq_self, ↓reduceIte, reduceCtorEq, Nat.reduceBEq, Nat.reduceEqDiff, Nat.reduceAdd, Nat.reduceMul, Nat.reduceLeDiff, Nat.reduceLT, Nat.reduceSub]
            refine hK13 _ ?_
            clear hK13
            refine aw_ret ?_
            show resOf zG _ [.tmp 2, .tmp 3] = some _
            simp only [amset, amlib, zset, eq_self, ↓reduceIte, reduceCtorEq, Nat.reduceBEq, Nat.reduceEqDiff, Nat.reduceAdd, Nat.reduceMul, Nat.reduceLeDiff, Nat.reduceLT, Nat.reduceSub]
            simp only [plainP, e0, h0, h1, h2, h3, Bool.true_or, Bool.or_true, Bool.false_or, Bool.or_false, Bool.true_and, Bool.and_true, Bool.false_and, Bool.and_false, Bool.not_true, Bool.not_false, if_true, if_false, ↓reduceIte, Bool.false_eq_true]
        · skip
          refine aw_ops zT fun K14 hK14 => ?_
          simp only [amset, amlib, zset, eq_self, ↓reduceIte, reduceCtorEq, Nat.reduceBEq, Nat.reduceEqDiff, Nat.reduceAdd, Nat.reduceMul, Nat.reduceLeDiff, Nat.reduceLT, Nat.reduceSub]
          refine hK14 _ ?_
          clear hK14
          refine aw_cond rfl (fun h4 => ?_) (fun h4 => ?_)
          · skip
            refine aw_ops zT fun K15 hK15 => ?_
            cases e0 : decide (x.op ≥ 1) with
            | true =>
              cases e1 : decide (x.op ≤ 2) with
              | true =>
                simp only [amset, amlib, zset, e0, e1, eq_self, ↓reduceIte, reduceCtorEq, Nat.reduceBEq, Nat.reduceEqDiff, Nat.reduceAdd, Nat.reduceMul, Nat.reduceLeDiff, Nat.reduceLT, Nat.reduceSub]
                refine ⟨_, holds204 x (.mk x.kind [] 0 x.op [] 0), ?_⟩
                simp only [later]
                simp only [amset, amlib, zset, e0, e1, eq_self, ↓reduceIte, reduceCtorEq, Nat.reduceBEq, Nat.reduceEqDiff, Nat.reduceAdd, Nat.reduceMul, Nat.reduceLeDiff, Nat.reduceLT, Nat.reduceSub]
                refine hK15 _ ?_
                clear hK15
                refine aw_ret ?_
                show resOf zG _ [.tmp 2, .tmp 3] = some _
                simp only [amset, amlib, zset, eq_self, ↓reduceIte, reduceCtorEq, Nat.reduceBEq, Nat.reduceEqDiff, Nat.reduceAdd, Nat.reduceMul, Nat.reduceLeDiff, Nat.reduceLT, Nat.reduceSub]
                simp only [plainP, e0, e1, h0, h1, h2, h3, h4, Bool.true_or, Bool.or_true, Bool.false_or, Bool.or_false, Bool.true_and, Bool.and_true, Bool.false_and, Bool.and_false, Bool.not_true, Bool.not_false, if_true, if_false, ↓reduceIte, Bool.false_eq_true]
              | false =>
                simp only [amset, amlib, zset, e0, e1, eq_self, ↓reduceIte, reduceCtorEq, Nat.reduceBEq, Nat.reduceEqDiff, Nat.reduceAdd, Nat.reduceMul, Nat.reduceLeDiff, Nat.reduceLT, Nat.reduceSub]
                refine hK15 _ ?_
                clear hK15
                refine aw_ret ?_
                show resOf zG _ [.tmp 2, .tmp 3] = some _
                simp only [amset, amlib, zset, eq_self, ↓reduceIte, reduceCtorEq, Nat.reduceBEq, Nat.reduceEqDiff, Nat.reduceAdd, Nat.reduceMul, Nat.reduceLeDiff, Nat.reduceLT, Nat.reduceSub]
                simp only [plainP, e0, e1, h0, h1, h2, h3, h4, Bool.true_or, Bool.or_true, Bool.false_or, Bool.or_false, Bool.true_and, Bool.and_true, Bool.false_and, Bool.and_false, Bool.not_true, Bool.not_false, if_true, if_false, ↓reduceIte, Bool.false_eq_true]
            | false =>
              simp only [amset, amlib, zset, e0, eq_self, ↓reduceIte, reduceCtorEq, Nat.reduceBEq, Nat.reduceEqDiff, Nat.reduceAdd, Nat.reduceMul, Nat.reduceLeDiff, Nat.reduceLT, Nat.reduceSub]
              refine hK15 _ ?_
              clear hK15
              refine aw_ret ?_
              show resOf zG _ [.tmp 2, .tmp 3] = some _
              simp only [amset, amlib, zset, eq_self, ↓reduceIte, reduceCtorEq, Nat.reduceBEq, Nat.reduceEqDiff, Nat.reduceAdd, Nat.reduceMul, Nat.reduceLeDiff, Nat.reduceLT, Nat.reduceSub]
              simp only [plainP, e0, h0, h1, h2, h3, h4, Bool.true_or, Bool.or_true, Bool.false_or, Bool.or_false, Bool.true_and, Bool.and_true, Bool.false_and, Bool.and_false, Bool.not_true, Bool.not_false, if_true, if_false, ↓reduceIte, Bool.false_eq_true]
          · skip
            refine aw_ops zT fun K16 hK16 => ?_
            simp only [amset, amlib, zset, eq_self, ↓reduceIte, reduceCtorEq, Nat.reduceBEq, Nat.reduceEqDiff, Nat.reduceAdd, Nat.reduceMul, Nat.reduceLeDiff, Nat.reduceLT, Nat.reduceSub]
            refine hK16 _ ?_
            clear hK16
            refine aw_cond rfl (fun h5 => ?_) (fun h5 => ?_)
            · skip
              refine aw_ops zT fun K17 hK17 => ?_
              cases e0 : decide (x.op ≥ 3) with
              | true =>
                cases e1 : decide (x.op ≤ 15) with
                | true =>
                  simp only [amset, amlib, zset, e0, e1, eq_self, ↓reduceIte, reduceCtorEq, Nat.reduceBEq, Nat.reduceEqDiff, Nat.reduceAdd, Nat.reduceMul, Nat.reduceLeDiff, Nat.reduceLT, Nat.reduceSub]
                  refine ⟨_, holds204 x (.mk x.kind [] 0 x.op [] 0), ?_⟩
                  simp only [later]
                  simp only [amset, amlib, zset, e0, e1, eq_self, ↓reduceIte, reduceCtorEq, Nat.reduceBEq, Nat.reduceEqDiff, Nat.reduceAdd, Nat.reduceMul, Nat.reduceLeDiff, Nat.reduceLT, Nat.reduceSub]
                  refine hK17 _ ?_
                  clear hK17
                  refine aw_ret ?_
                  show resOf zG _ [.tmp 2, .tmp 3] = some _
                  simp only [amset, amlib, zset, eq_self, ↓reduceIte, reduceCtorEq, Nat.reduceBEq, Nat.reduceEqDiff, Nat.reduceAdd, Nat.reduceMul, Nat.reduceLeDiff, Nat.reduceLT, Nat.reduceSub]
                  simp only [plainP, e0, e1, h0, h1, h2, h3, h4, h5, Bool.true_or, Bool.or_true, Bool.false_or, Bool.or_false, Bool.true_and, Bool.and_true, Bool.false_and, Bool.and_false, Bool.not_true, Bool.not_false, if_true, if_false, ↓reduceIte, Bool.false_eq_true]
                | false =>
                  simp only [amset, amlib, zset, e0, e1, eq_self, ↓reduceIte, reduceCtorEq, Nat.reduceBEq, Nat.reduceEqDiff, Nat.reduceAdd, Nat.reduceMul, Nat.reduceLeDiff, Nat.reduceLT, Nat.reduceSub]
                  refine hK17 _ ?_
                  clear hK17
                  refine aw_ret ?_
                  show resOf zG _ [.tmp 2, .tmp 3] = some _
                  simp only [amset, amlib, zset, eq_self, ↓reduceIte, reduceCtorEq, Nat.reduceBEq, Nat.reduceEqDiff, Nat.reduceAdd, Nat.reduceMul, Nat.reduceLeDiff, Nat.reduceLT, Nat.reduceSub]
                  simp only [plainP, e0, e1, h0, h1, h2, h3, h4, h5, Bool.true_or, Bool.or_true, Bool.false_or, Bool.or_false, Bool.true_and, Bool.and_true, Bool.false_and, Bool.and_false, Bool.not_true, Bool.not_false, if_true, if_false, ↓reduceIte, Bool.false_eq_true]
              | false =>
                simp only [amset, amlib, zset, e0, eq_self, ↓reduceIte, reduceCtorEq, Nat.reduceBEq, Nat.reduceEqDiff, Nat.reduceAdd, Nat.reduceMul, Nat.reduceLeDiff, Nat.reduceLT, Nat.reduceSub]
                refine hK17 _ ?_
                clear hK17
                refine aw_ret ?_
                show resOf zG _ [.tmp 2, .tmp 3] = some _
                simp only [amset, amlib, zset, eq_self, ↓reduceIte, reduceCtorEq, Nat.reduceBEq, Nat.reduceEqDiff, Nat.reduceAdd, Nat.reduceMul, Nat.reduceLeDiff, Nat.reduceLT, Nat.reduceSub]
                simp only [plainP, e0, h0, h1, h2, h3, h4, h5, Bool.true_or, Bool.or_true, Bool.false_or, Bool.or_false, Bool.true_and, Bool.and_true, Bool.false_and, Bool.and_false, Bool.not_true, Bool.not_false, if_true, if_false, ↓reduceIte, Bool.false_eq_true]
            · skip
              refine aw_skip ?_
              simp only [thenQ, blkQ, if_true, reduceIte, Nat.reduceEqDiff, eq_self]
              refine hK4 _ ?_
              clear hK4
              refine aw_ops zT fun K18 hK18 => ?_
              simp only [amset, amlib, zset, eq_self, ↓reduceIte, reduceCtorEq, Nat.reduceBEq, Nat.reduceEqDiff, Nat.reduceAdd, Nat.reduceMul, Nat.reduceLeDiff, Nat.reduceLT, Nat.reduceSub]
              refine hK18 _ ?_
              clear hK18
              refine aw_ret ?_
              show resOf zG _ [.tmp 2, .tmp 3] = some _
              simp only [amset, amlib, zset, eq_self, ↓reduceIte, reduceCtorEq, Nat.reduceBEq, Nat.reduceEqDiff, Nat.reduceAdd, Nat.reduceMul, Nat.reduceLeDiff, Nat.reduceLT, Nat.reduceSub]
              simp only [plainP, h0, h1, h2, h3, h4, h5, Bool.true_or, Bool.or_true, Bool.false_or, Bool.or_false, Bool.true_and, Bool.and_true, Bool.false_and, Bool.and_false, Bool.not_true, Bool.not_false, if_true, if_false, ↓reduceIte, Bool.false_eq_true]
end Go.Proofs.Am
set_option maxRecDepth 100000
set_option maxHeartbeats 4000000
namespace Go.Proofs.Am
mutual
def wfA : Ex → Bool
  | .mk k n v o a p => (plainP (.mk k n v o a p)).2 && ((a.length : Int) == (plainP (.mk k n v o a p)).1) && wfAs a
def wfAs : List Ex → Bool
  | [] => true
  | x :: r => wfA x && wfAs r
end
theorem wfA_eq (x : Ex) : wfA x = ((plainP x).2 && ((x.args.length : Int) == (plainP x).1) && !(x.args.any fun y => !wfA y)) := by
  have h : ∀ l : List Ex, (!(l.any fun y => !wfA y)) = wfAs l := by
    intro l
    induction l with
    | nil => rfl
    | cons y r ih => rw [List.any_cons, Bool.not_or, ih, wfAs, Bool.not_not]
  rw [h]
  cases x
  rfl
theorem prog164 : Tryz.prog.funcs[164]? = some Tryz.f164 := by kernel_rfl
theorem step164 (x : Ex) (ih : Holds Tryz.prog zG 93 [.agg [.int .i64 x.kind, .str x.name, .int .i16 x.value, .int .i64 x.op, .sl 6 (encEs x.args), .int .i64 x.pos]] [.c (.bool (wfA x))]) : Holds Tryz.prog zG 164 [.agg [.int .i64 x.kind, .str x.name, .int .i16 x.value, .int .i64 x.op, .sl 6 (encEs x.args), .int .i64 x.pos]] [.c (.bool (!wfA x))] := by
  refine holds_of_body zT prog164 rfl rfl rfl (by simp [Tryz.f164]) ?_
  refine aw_ops zT fun K1 hK1 => ?_
  simp only [amset, amlib, zset, eq_self, ↓reduceIte, reduceCtorEq, Nat.reduceBEq, Nat.reduceEqDiff, Nat.reduceAdd, Nat.reduceMul, Nat.reduceLeDiff, Nat.reduceLT, Nat.reduceSub]
  refine hK1 _ ?_
  clear hK1
  refine aw_ops zT fun K2 hK2 => ?_
  simp only [amset, amlib, zset, eq_self, ↓reduceIte, reduceCtorEq, Nat.reduceBEq, Nat.reduceEqDiff, Nat.reduceAdd, Nat.reduceMul, Nat.reduceLeDiff, Nat.reduceLT, Nat.reduceSub]
  refine ⟨_, ih, ?_⟩
  simp only [later]
  simp only [amset, amlib, zset, eq_self, ↓reduceIte, reduceCtorEq, Nat.reduceBEq, Nat.reduceEqDiff, Nat.reduceAdd, Nat.reduceMul, Nat.reduceLeDiff, Nat.reduceLT, Nat.reduceSub]
  refine hK2 _ ?_
  clear hK2
  refine aw_ret ?_
  show resOf zG _ [.tmp 2] = some _
  simp only [amset, amlib, zset, eq_self, ↓reduceIte, reduceCtorEq, Nat.reduceBEq, Nat.reduceEqDiff, Nat.reduceAdd, Nat.reduceMul, Nat.reduceLeDiff, Nat.reduceLT, Nat.reduceSub]
theorem prog93 : Tryz.prog.funcs[93]? = some Tryz.f93 := by kernel_rfl
theorem step93 (x : Ex) (ih : ∀ y ∈ x.args, Holds Tryz.prog zG 164 [.agg [.int .i64 y.kind, .str y.name, .int .i16 y.value, .int .i64 y.op, .sl 6 (encEs y.args), .int .i64 y.pos]] [.c (.bool (!wfA y))]) : Holds Tryz.prog zG 93 [.agg [.int .i64 x.kind, .str x.name, .int .i16 x.value, .int .i64 x.op, .sl 6 (encEs x.args), .int .i64 x.pos]] [.c (.bool (wfA x))] := by
  refine holds_of_body zT prog93 rfl rfl rfl (by simp [Tryz.f93]) ?_
  refine aw_ops zT fun K1 hK1 => ?_
  simp only [amset, amlib, zset, eq_self, ↓reduceIte, reduceCtorEq, Nat.reduceBEq, Nat.reduceEqDiff, Nat.reduceAdd, Nat.reduceMul, Nat.reduceLeDiff, Nat.reduceLT, Nat.reduceSub]
  refine hK1 _ ?_
  clear hK1
  refine aw_ops zT fun K2 hK2 => ?_
  simp only [amset, amlib, zset, eq_self, ↓reduceIte, reduceCtorEq, Nat.reduceBEq, Nat.reduceEqDiff, Nat.reduceAdd, Nat.reduceMul, Nat.reduceLeDiff, Nat.reduceLT, Nat.reduceSub]
  refine ⟨_, holds163 x, ?_⟩
  simp only [later]
  simp only [amset, amlib, zset, eq_self, ↓reduceIte, reduceCtorEq, Nat.reduceBEq, Nat.reduceEqDiff, Nat.reduceAdd, Nat.reduceMul, Nat.reduceLeDiff, Nat.reduceLT, Nat.reduceSub]
  refine hK2 _ ?_
  clear hK2
  refine aw_ops zT fun K3 hK3 => ?_
  cases e0 : (plainP x).2 with
  | true =>
    cases e1 : ((x.args.length : Int) == (plainP x).1) with
    | true =>
      simp only [amset, amlib, zset, e0, e1, eq_self, ↓reduceIte, reduceCtorEq, Nat.reduceBEq, Nat.reduceEqDiff, Nat.reduceAdd, Nat.reduceMul, Nat.reduceLeDiff, Nat.reduceLT, Nat.reduceSub]
      intros
      refine ⟨_, holds79 164 (fun y => !wfA y) x.args ih, ?_⟩
      simp only [later]
      simp only [amset, amlib, zset, e0, e1, eq_self, ↓reduceIte, reduceCtorEq, Nat.reduceBEq, Nat.reduceEqDiff, Nat.reduceAdd, Nat.reduceMul, Nat.reduceLeDiff, Nat.reduceLT, Nat.reduceSub]
      refine hK3 _ ?_
      clear hK3
      refine aw_ret ?_
      show resOf zG _ [.tmp 2] = some _
      simp only [amset, amlib, zset, eq_self, ↓reduceIte, reduceCtorEq, Nat.reduceBEq, Nat.reduceEqDiff, Nat.reduceAdd, Nat.reduceMul, Nat.reduceLeDiff, Nat.reduceLT, Nat.reduceSub]
      rw [wfA_eq]
      simp only [e0, e1, Bool.true_or, Bool.or_true, Bool.false_or, Bool.or_false, Bool.true_and, Bool.and_true, Bool.false_and, Bool.and_false, Bool.not_true, Bool.not_false, if_true, if_false, ↓reduceIte, Bool.false_eq_true]
    | false =>
      simp only [amset, amlib, zset, e0, e1, eq_self, ↓reduceIte, reduceCtorEq, Nat.reduceBEq, Nat.reduceEqDiff, Nat.reduceAdd, Nat.reduceMul, Nat.reduceLeDiff, Nat.reduceLT, Nat.reduceSub]
      intros
      refine hK3 _ ?_
      clear hK3
      refine aw_ret ?_
      show resOf zG _ [.tmp 2] = some _
      simp only [amset, amlib, zset, eq_self, ↓reduceIte, reduceCtorEq, Nat.reduceBEq, Nat.reduceEqDiff, Nat.reduceAdd, Nat.reduceMul, Nat.reduceLeDiff, Nat.reduceLT, Nat.reduceSub]
      rw [wfA_eq]
      simp only [e0, e1, Bool.true_or, Bool.or_true, Bool.false_or, Bool.or_false, Bool.true_and, Bool.and_true, Bool.false_and, Bool.and_false, Bool.not_true, Bool.not_false, if_true, if_false, ↓reduceIte, Bool.false_eq_true]
  | false =>
    simp only [amset, amlib, zset, e0, eq_self, ↓reduceIte, reduceCtorEq, Nat.reduceBEq, Nat.reduceEqDiff, Nat.reduceAdd, Nat.reduceMul, Nat.reduceLeDiff, Nat.reduceLT, Nat.reduceSub]
    refine hK3 _ ?_
    clear hK3
    refine aw_ret ?_
    show resOf zG _ [.tmp 2] = some _
    simp only [amset, amlib, zset, eq_self, ↓reduceIte, reduceCtorEq, Nat.reduceBEq, Nat.reduceEqDiff, Nat.reduceAdd, Nat.reduceMul, Nat.reduceLeDiff, Nat.reduceLT, Nat.reduceSub]
    rw [wfA_eq]
    simp only [e0, Bool.true_or, Bool.or_true, Bool.false_or, Bool.or_false, Bool.true_and, Bool.and_true, Bool.false_and, Bool.and_false, Bool.not_true, Bool.not_false, if_true, if_false, ↓reduceIte, Bool.false_eq_true]
theorem holds93 (x : Ex) : Holds Tryz.prog zG 93 [.agg [.int .i64 x.kind, .str x.name, .int .i16 x.value, .int .i64 x.op, .sl 6 (encEs x.args), .int .i64 x.pos]] [.c (.bool (wfA x))] := step93 x fun y hy => step164 y (holds93 y)
  termination_by SizeOf.sizeOf x
  decreasing_by exact Ex.args_lt hy
end Go.Proofs.Am
set_option maxRecDepth 100000
namespace Go.Proofs.Am
def arityK (k : Int) : Int := if (k == 1 || k == 2 || k == 4) then 0 else if (k == 3 || k == 5) then 1 else if (k == 6) then 2 else -1
theorem prog73 : Tryz.prog.funcs[73]? = some Tryz.f73 := by kernel_rfl
theorem holds73 (k : Int) : Holds Tryz.prog zG 73 [.c (.int .i64 k)] [.c (.int .i64 (arityK k))] := by
  refine holds_of_body zT prog73 rfl rfl rfl (by simp [Tryz.f73]) ?_
  refine aw_ops zT fun K1 hK1 => ?_
  simp only [amset, amlib, zset, eq_self, ↓reduceIte, reduceCtorEq, Nat.reduceBEq, Nat.reduceEqDiff, Nat.reduceAdd, Nat.reduceMul, Nat.reduceLeDiff, Nat.reduceLT, Nat.reduceSub]
  refine hK1 _ ?_
  clear hK1
  refine aw_seq fun K2 hK2 => ?_
  refine aw_ops zT fun K3 hK3 => ?_
  simp only [amset, amlib, zset, eq_self, ↓reduceIte, reduceCtorEq, Nat.reduceBEq, Nat.reduceEqDiff, Nat.reduceAdd, Nat.reduceMul, Nat.reduceLeDiff, Nat.reduceLT, Nat.reduceSub]
  refine hK3 _ ?_
  clear hK3
  refine aw_block ?_
  refine aw_seq fun K4 hK4 => ?_
  refine aw_ops zT fun K5 hK5 => ?_
  simp only [amset, amlib, zset, eq_self, ↓reduceIte, reduceCtorEq, Nat.reduceBEq, Nat.reduceEqDiff, Nat.reduceAdd, Nat.reduceMul, Nat.reduceLeDiff, Nat.reduceLT, Nat.reduceSub]
  refine hK5 _ ?_
  clear hK5
  refine aw_cond rfl (fun h0 => ?_) (fun h0 => ?_)
  · skip
    refine aw_norm (by simp only [amset, amlib, zset, h0, eq_self, ↓reduceIte, reduceCtorEq, Nat.reduceBEq, Nat.reduceEqDiff, Nat.reduceAdd, Nat.reduceMul, Nat.reduceLeDiff, Nat.reduceLT, Nat.reduceSub]; exact rfl) ?_
    refine aw_skip ?_
    simp only [thenQ, blkQ, if_true, reduceIte, Nat.reduceEqDiff, eq_self]
    refine hK4 _ ?_
    clear hK4
    refine aw_cond (t := true) rfl (fun _ => ?_) (fun h => nomatch h)
    refine aw_ops zT fun K6 hK6 => ?_
    simp only [amset, amlib, zset, eq_self, ↓reduceIte, reduceCtorEq, Nat.reduceBEq, Nat.reduceEqDiff, Nat.reduceAdd, Nat.reduceMul, Nat.reduceLeDiff, Nat.reduceLT, Nat.reduceSub]
    refine hK6 _ ?_
    clear hK6
    refine aw_ret ?_
    show resOf zG _ [.tmp 2] = some _
    simp only [amset, amlib, zset, eq_self, ↓reduceIte, reduceCtorEq, Nat.reduceBEq, Nat.reduceEqDiff, Nat.reduceAdd, Nat.reduceMul, Nat.reduceLeDiff, Nat.reduceLT, Nat.reduceSub]
    simp only [arityK, h0, Bool.true_or, Bool.or_true, Bool.false_or, Bool.or_false, Bool.true_and, Bool.and_true, Bool.false_and, Bool.and_false, Bool.not_true, Bool.not_false, if_true, if_false, ↓reduceIte, Bool.false_eq_true]
  · skip
    refine aw_norm (by simp only [amset, amlib, zset, h0, eq_self, ↓reduceIte, reduceCtorEq, Nat.reduceBEq, Nat.reduceEqDiff, Nat.reduceAdd, Nat.reduceMul, Nat.reduceLeDiff, Nat.reduceLT, Nat.reduceSub]; exact rfl) ?_
    refine aw_ops zT fun K7 hK7 => ?_
    simp only [amset, amlib, zset, eq_self, ↓reduceIte, reduceCtorEq, Nat.reduceBEq, Nat.reduceEqDiff, Nat.reduceAdd, Nat.reduceMul, Nat.reduceLeDiff, Nat.reduceLT, Nat.reduceSub]
    refine hK7 _ ?_
    clear hK7
    refine aw_cond rfl (fun h1 => ?_) (fun h1 => ?_)
    · skip
      refine aw_norm (by simp only [amset, amlib, zset, h1, eq_self, ↓reduceIte, reduceCtorEq, Nat.reduceBEq, Nat.reduceEqDiff, Nat.reduceAdd, Nat.reduceMul, Nat.reduceLeDiff, Nat.reduceLT, Nat.reduceSub]; exact rfl) ?_
      refine aw_skip ?_
      simp only [thenQ, blkQ, if_true, reduceIte, Nat.reduceEqDiff, eq_self]
      refine hK4 _ ?_
      clear hK4
      refine aw_cond (t := true) rfl (fun _ => ?_) (fun h => nomatch h)
      refine aw_ops zT fun K8 hK8 => ?_
      simp only [amset, amlib, zset, eq_self, ↓reduceIte, reduceCtorEq, Nat.reduceBEq, Nat.reduceEqDiff, Nat.reduceAdd, Nat.reduceMul, Nat.reduceLeDiff, Nat.reduceLT, Nat.reduceSub]
      refine hK8 _ ?_
      clear hK8
      refine aw_ret ?_
      show resOf zG _ [.tmp 2] = some _
      simp only [amset, amlib, zset, eq_self, ↓reduceIte, reduceCtorEq, Nat.reduceBEq, Nat.reduceEqDiff, Nat.reduceAdd, Nat.reduceMul, Nat.reduceLeDiff, Nat.reduceLT, Nat.reduceSub]
      simp only [arityK, h0, h1, Bool.true_or, Bool.or_true, Bool.false_or, Bool.or_false, Bool.true_and, Bool.and_true, Bool.false_and, Bool.and_false, Bool.not_true, Bool.not_false, if_true, if_false, ↓reduceIte, Bool.false_eq_true]
    · skip
      refine aw_norm (by simp only [amset, amlib, zset, h1, eq_self, ↓reduceIte, reduceCtorEq, Nat.reduceBEq, Nat.reduceEqDiff, Nat.reduceAdd, Nat.reduceMul, Nat.reduceLeDiff, Nat.reduceLT, Nat.reduceSub]; exact rfl) ?_
      refine aw_region zT ?_
      simp only [amset, amlib, zset, eq_self, ↓reduceIte, reduceCtorEq, Nat.reduceBEq, Nat.reduceEqDiff, Nat.reduceAdd, Nat.reduceMul, Nat.reduceLeDiff, Nat.reduceLT, Nat.reduceSub]
      refine hK4 _ ?_
      clear hK4
      refine aw_cond rfl (fun h2 => ?_) (fun h2 => ?_)
      · skip
        refine aw_norm (by simp only [amset, amlib, zset, h2, eq_self, ↓reduceIte, reduceCtorEq, Nat.reduceBEq, Nat.reduceEqDiff, Nat.reduceAdd, Nat.reduceMul, Nat.reduceLeDiff, Nat.reduceLT, Nat.reduceSub]; exact rfl) ?_
        refine aw_ops zT fun K9 hK9 => ?_
        simp only [amset, amlib, zset, eq_self, ↓reduceIte, reduceCtorEq, Nat.reduceBEq, Nat.reduceEqDiff, Nat.reduceAdd, Nat.reduceMul, Nat.reduceLeDiff, Nat.reduceLT, Nat.reduceSub]
        refine hK9 _ ?_
        clear hK9
        refine aw_ret ?_
        show resOf zG _ [.tmp 2] = some _
        simp only [amset, amlib, zset, eq_self, ↓reduceIte, reduceCtorEq, Nat.reduceBEq, Nat.reduceEqDiff, Nat.reduceAdd, Nat.reduceMul, Nat.reduceLeDiff, Nat.reduceLT, Nat.reduceSub]
        simp only [arityK, h0, h1, h2, Bool.true_or, Bool.or_true, Bool.false_or, Bool.or_false, Bool.true_and, Bool.and_true, Bool.false_and, Bool.and_false, Bool.not_true, Bool.not_false, if_true, if_false, ↓reduceIte, Bool.false_eq_true]
      · skip
        refine aw_norm (by simp only [amset, amlib, zset, h2, eq_self, ↓reduceIte, reduceCtorEq, Nat.reduceBEq, Nat.reduceEqDiff, Nat.reduceAdd, Nat.reduceMul, Nat.reduceLeDiff, Nat.reduceLT, Nat.reduceSub]; exact rfl) ?_
        refine aw_seq fun K10 hK10 => ?_
        refine aw_ops zT fun K11 hK11 => ?_
        simp only [amset, amlib, zset, eq_self, ↓reduceIte, reduceCtorEq, Nat.reduceBEq, Nat.reduceEqDiff, Nat.reduceAdd, Nat.reduceMul, Nat.reduceLeDiff, Nat.reduceLT, Nat.reduceSub]
        refine hK11 _ ?_
        clear hK11
        refine aw_cond rfl (fun h3 => ?_) (fun h3 => ?_)
        · skip
          refine aw_norm (by simp only [amset, amlib, zset, h3, eq_self, ↓reduceIte, reduceCtorEq, Nat.reduceBEq, Nat.reduceEqDiff, Nat.reduceAdd, Nat.reduceMul, Nat.reduceLeDiff, Nat.reduceLT, Nat.reduceSub]; exact rfl) ?_
          refine aw_skip ?_
          simp only [thenQ, blkQ, if_true, reduceIte, Nat.reduceEqDiff, eq_self]
          refine hK10 _ ?_
          clear hK10
          refine aw_cond (t := true) rfl (fun _ => ?_) (fun h => nomatch h)
          refine aw_ops zT fun K12 hK12 => ?_
          simp only [amset, amlib, zset, eq_self, ↓reduceIte, reduceCtorEq, Nat.reduceBEq, Nat.reduceEqDiff, Nat.reduceAdd, Nat.reduceMul, Nat.reduceLeDiff, Nat.reduceLT, Nat.reduceSub]
          refine hK12 _ ?_
          clear hK12
          refine aw_ret ?_
          show resOf zG _ [.tmp 2] = some _
          simp only [amset, amlib, zset, eq_self, ↓reduceIte, reduceCtorEq, Nat.reduceBEq, Nat.reduceEqDiff, Nat.reduceAdd, Nat.reduceMul, Nat.reduceLeDiff, Nat.reduceLT, Nat.reduceSub]
          simp only [arityK, h0, h1, h2, h3, Bool.true_or, Bool.or_true, Bool.false_or, Bool.or_false, Bool.true_and, Bool.and_true, Bool.false_and, Bool.and_false, Bool.not_true, Bool.not_false, if_true, if_false, ↓reduceIte, Bool.false_eq_true]
        · skip
          refine aw_norm (by simp only [amset, amlib, zset, h3, eq_self, ↓reduceIte, reduceCtorEq, Nat.reduceBEq, Nat.reduceEqDiff, Nat.reduceAdd, Nat.reduceMul, Nat.reduceLeDiff, Nat.reduceLT, Nat.reduceSub]; exact rfl) ?_
          refine aw_region zT ?_
          simp only [amset, amlib, zset, eq_self, ↓reduceIte, reduceCtorEq, Nat.reduceBEq, Nat.reduceEqDiff, Nat.reduceAdd, Nat.reduceMul, Nat.reduceLeDiff, Nat.reduceLT, Nat.reduceSub]
          refine hK10 _ ?_
          clear hK10
          refine aw_cond rfl (fun h4 => ?_) (fun h4 => ?_)
          · skip
            refine aw_norm (by simp only [amset, amlib, zset, h4, eq_self, ↓reduceIte, reduceCtorEq, Nat.reduceBEq, Nat.reduceEqDiff, Nat.reduceAdd, Nat.reduceMul, Nat.reduceLeDiff, Nat.reduceLT, Nat.reduceSub]; exact rfl) ?_
            refine aw_ops zT fun K13 hK13 => ?_
            simp only [amset, amlib, zset, eq_self, ↓reduceIte, reduceCtorEq, Nat.reduceBEq, Nat.reduceEqDiff, Nat.reduceAdd, Nat.reduceMul, Nat.reduceLeDiff, Nat.reduceLT, Nat.reduceSub]
            refine hK13 _ ?_
            clear hK13
            refine aw_ret ?_
            show resOf zG _ [.tmp 2] = some _
            simp only [amset, amlib, zset, eq_self, ↓reduceIte, reduceCtorEq, Nat.reduceBEq, Nat.reduceEqDiff, Nat.reduceAdd, Nat.reduceMul, Nat.reduceLeDiff, Nat.reduceLT, Nat.reduceSub]
            simp only [arityK, h0, h1, h2, h3, h4, Bool.true_or, Bool.or_true, Bool.false_or, Bool.or_false, Bool.true_and, Bool.and_true, Bool.false_and, Bool.and_false, Bool.not_true, Bool.not_false, if_true, if_false, ↓reduceIte, Bool.false_eq_true]
          · skip
            refine aw_norm (by simp only [amset, amlib, zset, h4, eq_self, ↓reduceIte, reduceCtorEq, Nat.reduceBEq, Nat.reduceEqDiff, Nat.reduceAdd, Nat.reduceMul, Nat.reduceLeDiff, Nat.reduceLT, Nat.reduceSub]; exact rfl) ?_
            refine aw_ops zT fun K14 hK14 => ?_
            simp only [amset, amlib, zset, eq_self, ↓reduceIte, reduceCtorEq, Nat.reduceBEq, Nat.reduceEqDiff, Nat.reduceAdd, Nat.reduceMul, Nat.reduceLeDiff, Nat.reduceLT, Nat.reduceSub]
            refine hK14 _ ?_
            clear hK14
            refine aw_cond rfl (fun h5 => ?_) (fun h5 => ?_)
            · skip
              refine aw_ops zT fun K15 hK15 => ?_
              simp only [amset, amlib, zset, eq_self, ↓reduceIte, reduceCtorEq, Nat.reduceBEq, Nat.reduceEqDiff, Nat.reduceAdd, Nat.reduceMul, Nat.reduceLeDiff, Nat.reduceLT, Nat.reduceSub]
              refine hK15 _ ?_
              clear hK15
              refine aw_ret ?_
              show resOf zG _ [.tmp 2] = some _
              simp only [amset, amlib, zset, eq_self, ↓reduceIte, reduceCtorEq, Nat.reduceBEq, Nat.reduceEqDiff, Nat.reduceAdd, Nat.reduceMul, Nat.reduceLeDiff, Nat.reduceLT, Nat.reduceSub]
              simp only [arityK, h0, h1, h2, h3, h4, h5, Bool.true_or, Bool.or_true, Bool.false_or, Bool.or_false, Bool.true_and, Bool.and_true, Bool.false_and, Bool.and_false, Bool.not_true, Bool.not_false, if_true, if_false, ↓reduceIte, Bool.false_eq_true]
            · skip
              refine aw_skip ?_
              simp only [thenQ, blkQ, if_true, reduceIte, Nat.reduceEqDiff, eq_self]
              refine hK2 _ ?_
              clear hK2
              refine aw_ops zT fun K16 hK16 => ?_
              simp only [amset, amlib, zset, eq_self, ↓reduceIte, reduceCtorEq, Nat.reduceBEq, Nat.reduceEqDiff, Nat.reduceAdd, Nat.reduceMul, Nat.reduceLeDiff, Nat.reduceLT, Nat.reduceSub]
              refine hK16 _ ?_
              clear hK16
              refine aw_ret ?_
              show resOf zG _ [.tmp 2] = some _
              simp only [amset, amlib, zset, eq_self, ↓reduceIte, reduceCtorEq, Nat.reduceBEq, Nat.reduceEqDiff, Nat.reduceAdd, Nat.reduceMul, Nat.reduceLeDiff, Nat.reduceLT, Nat.reduceSub]
              simp only [arityK, h0, h1, h2, h3, h4, h5, Bool.true_or, Bool.or_true, Bool.false_or, Bool.or_false, Bool.true_and, Bool.and_true, Bool.false_and, Bool.and_false, Bool.not_true, Bool.not_false, if_true, if_false, ↓reduceIte, Bool.false_eq_true]
end Go.Proofs.Am
set_option maxRecDepth 100000
namespace Go.Proofs.Am
def headOK (x : Ex) : Bool := !(((x.args.length : Int) != arityK x.kind) || (!(x.name == (bareE x).name)) || (x.value != (bareE x).value) || (x.op != (bareE x).op))
def exTail (x : Ex) : Bool := if (x.kind == 1) then decide (x.value ≥ 0) else if (x.kind == 5) then ((x.op == 1) || (x.op == 2)) else if (x.kind == 6) then (decide (x.op ≥ 3) && decide (x.op ≤ 15)) else ident x.name
mutual
def exOK : Ex → Bool
  | .mk k n v o a p => headOK (.mk k n v o a p) && exOKs a && exTail (.mk k n v o a p)
def exOKs : List Ex → Bool
  | [] => true
  | x :: r => exOK x && exOKs r
end
theorem exOK_eq (x : Ex) : exOK x = (headOK x && exOKs x.args && exTail x) := by cases x; rfl
theorem exOKs_append (a b : List Ex) : exOKs (a ++ b) = (exOKs a && exOKs b) := by
  induction a with
  | nil => rfl
  | cons x r ih => simp [exOKs, ih, Bool.and_assoc]
theorem prog26 : Tryz.prog.funcs[26]? = some Tryz.f26 := by kernel_rfl
theorem step26 (x : Ex) (ih : ∀ y ∈ x.args, Holds Tryz.prog zG 26 [.agg [.int .i64 y.kind, .str y.name, .int .i16 y.value, .int .i64 y.op, .sl 6 (encEs y.args), .int .i64 y.pos]] [.c (.bool (exOK y))]) : Holds Tryz.prog zG 26 [.agg [.int .i64 x.kind, .str x.name, .int .i16 x.value, .int .i64 x.op, .sl 6 (encEs x.args), .int .i64 x.pos]] [.c (.bool (exOK x))] := by
  refine holds_of_body zT prog26 rfl rfl rfl (by simp [Tryz.f26]) ?_
  refine aw_ops zT fun K1 hK1 => ?_
  simp only [amset, amlib, zset, eq_self, ↓reduceIte, reduceCtorEq, Nat.reduceBEq, Nat.reduceEqDiff, Nat.reduceAdd, Nat.reduceMul, Nat.reduceLeDiff, Nat.reduceLT, Nat.reduceSub]
  refine hK1 _ ?_
  clear hK1
  refine aw_ops zT fun K2 hK2 => ?_
  simp only [amset, amlib, zset, eq_self, ↓reduceIte, reduceCtorEq, Nat.reduceBEq, Nat.reduceEqDiff, Nat.reduceAdd, Nat.reduceMul, Nat.reduceLeDiff, Nat.reduceLT, Nat.reduceSub]
  refine ⟨_, holds72 x, ?_⟩
  simp only [amset, later, amlib, zset, eq_self, ↓reduceIte, reduceCtorEq, Nat.reduceBEq, Nat.reduceEqDiff, Nat.reduceAdd, Nat.reduceMul, Nat.reduceLeDiff, Nat.reduceLT, Nat.reduceSub]
  refine hK2 _ ?_
  clear hK2
  refine aw_seq fun K3 hK3 => ?_
  cases g0 : ((x.args.length : Int) != arityK x.kind) with
  | true =>
    refine aw_draw zT prog_mixed fun K4 hK4 => ?_
    simp only [amset, amlib, zset, g0, eq_self, ↓reduceIte, reduceCtorEq, Nat.reduceBEq, Nat.reduceEqDiff, Nat.reduceAdd, Nat.reduceMul, Nat.reduceLeDiff, Nat.reduceLT, Nat.reduceSub]
    intros
    refine ⟨_, holds73 x.kind, ?_⟩
    simp only [amset, later, amlib, zset, g0, eq_self, ↓reduceIte, reduceCtorEq, Nat.reduceBEq, Nat.reduceEqDiff, Nat.reduceAdd, Nat.reduceMul, Nat.reduceLeDiff, Nat.reduceLT, Nat.reduceSub]
    refine ⟨by kernel_rfl, ?_⟩
    refine hK4 _ ?_
    clear hK4
    refine aw_cond (t := true) rfl (fun _ => ?_) (fun h => nomatch h)
    refine aw_ops zT fun K5 hK5 => ?_
    simp only [amset, amlib, zset, eq_self, ↓reduceIte, reduceCtorEq, Nat.reduceBEq, Nat.reduceEqDiff, Nat.reduceAdd, Nat.reduceMul, Nat.reduceLeDiff, Nat.reduceLT, Nat.reduceSub]
    refine hK5 _ ?_
    clear hK5
    refine aw_ret ?_
    show resOf zG _ [.tmp 2] = some _
    simp only [amset, amlib, zset, eq_self, ↓reduceIte, reduceCtorEq, Nat.reduceBEq, Nat.reduceEqDiff, Nat.reduceAdd, Nat.reduceMul, Nat.reduceLeDiff, Nat.reduceLT, Nat.reduceSub]
    simp only [exOK_eq, headOK, exTail, g0, Bool.true_or, Bool.or_true, Bool.false_or, Bool.or_false, Bool.true_and, Bool.and_true, Bool.false_and, Bool.and_false, Bool.not_true, Bool.not_false, if_true, if_false, ↓reduceIte, Bool.false_eq_true]
  | false =>
    cases g1 : (!(x.name == (bareE x).name)) with
    | true =>
      refine aw_draw zT prog_mixed fun K4 hK4 => ?_
      simp only [amset, amlib, zset, g0, g1, eq_self, ↓reduceIte, reduceCtorEq, Nat.reduceBEq, Nat.reduceEqDiff, Nat.reduceAdd, Nat.reduceMul, Nat.reduceLeDiff, Nat.reduceLT, Nat.reduceSub]
      intros
      refine ⟨_, holds73 x.kind, ?_⟩
      simp only [amset, later, amlib, zset, g0, g1, eq_self, ↓reduceIte, reduceCtorEq, Nat.reduceBEq, Nat.reduceEqDiff, Nat.reduceAdd, Nat.reduceMul, Nat.reduceLeDiff, Nat.reduceLT, Nat.reduceSub]
      refine ⟨by kernel_rfl, ?_⟩
      refine hK4 _ ?_
      clear hK4
      refine aw_cond (t := true) rfl (fun _ => ?_) (fun h => nomatch h)
      refine aw_ops zT fun K6 hK6 => ?_
      simp only [amset, amlib, zset, eq_self, ↓reduceIte, reduceCtorEq, Nat.reduceBEq, Nat.reduceEqDiff, Nat.reduceAdd, Nat.reduceMul, Nat.reduceLeDiff, Nat.reduceLT, Nat.reduceSub]
      refine hK6 _ ?_
      clear hK6
      refine aw_ret ?_
      show resOf zG _ [.tmp 2] = some _
      simp only [amset, amlib, zset, eq_self, ↓reduceIte, reduceCtorEq, Nat.reduceBEq, Nat.reduceEqDiff, Nat.reduceAdd, Nat.reduceMul, Nat.reduceLeDiff, Nat.reduceLT, Nat.reduceSub]
      simp only [exOK_eq, headOK, exTail, g0, g1, Bool.true_or, Bool.or_true, Bool.false_or, Bool.or_false, Bool.true_and, Bool.and_true, Bool.false_and, Bool.and_false, Bool.not_true, Bool.not_false, if_true, if_false, ↓reduceIte, Bool.false_eq_true]
    | false =>
      cases g2 : (x.value != (bareE x).value) with
      | true =>
        refine aw_draw zT prog_mixed fun K4 hK4 => ?_
        simp only [amset, amlib, zset, g0, g1, g2, eq_self, ↓reduceIte, reduceCtorEq, Nat.reduceBEq, Nat.reduceEqDiff, Nat.reduceAdd, Nat.reduceMul, Nat.reduceLeDiff, Nat.reduceLT, Nat.reduceSub]
        intros
        refine ⟨_, holds73 x.kind, ?_⟩
        simp only [amset, later, amlib, zset, g0, g1, g2, eq_self, ↓reduceIte, reduceCtorEq, Nat.reduceBEq, Nat.reduceEqDiff, Nat.reduceAdd, Nat.reduceMul, Nat.reduceLeDiff, Nat.reduceLT, Nat.reduceSub]
        refine ⟨by kernel_rfl, ?_⟩
        refine hK4 _ ?_
        clear hK4
        refine aw_cond (t := true) rfl (fun _ => ?_) (fun h => nomatch h)
        refine aw_ops zT fun K7 hK7 => ?_
        simp only [amset, amlib, zset, eq_self, ↓reduceIte, reduceCtorEq, Nat.reduceBEq, Nat.reduceEqDiff, Nat.reduceAdd, Nat.reduceMul, Nat.reduceLeDiff, Nat.reduceLT, Nat.reduceSub]
        refine hK7 _ ?_
        clear hK7
        refine aw_ret ?_
        show resOf zG _ [.tmp 2] = some _
        simp only [amset, amlib, zset, eq_self, ↓reduceIte, reduceCtorEq, Nat.reduceBEq, Nat.reduceEqDiff, Nat.reduceAdd, Nat.reduceMul, Nat.reduceLeDiff, Nat.reduceLT, Nat.reduceSub]
        simp only [exOK_eq, headOK, exTail, g0, g1, g2, Bool.true_or, Bool.or_true, Bool.false_or, Bool.or_false, Bool.true_and, Bool.and_true, Bool.false_and, Bool.and_false, Bool.not_true, Bool.not_false, if_true, if_false, ↓reduceIte, Bool.false_eq_true]
      | false =>
        cases g3 : (x.op != (bareE x).op) with
        | true =>
          refine aw_draw zT prog_mixed fun K4 hK4 => ?_
          simp only [amset, amlib, zset, g0, g1, g2, g3, eq_self, ↓reduceIte, reduceCtorEq, Nat.reduceBEq, Nat.reduceEqDiff, Nat.reduceAdd, Nat.reduceMul, Nat.reduceLeDiff, Nat.reduceLT, Nat.reduceSub]
          intros
          refine ⟨_, holds73 x.kind, ?_⟩
          simp only [amset, later, amlib, zset, g0, g1, g2, g3, eq_self, ↓reduceIte, reduceCtorEq, Nat.reduceBEq, Nat.reduceEqDiff, Nat.reduceAdd, Nat.reduceMul, Nat.reduceLeDiff, Nat.reduceLT, Nat.reduceSub]
          refine ⟨by kernel_rfl, ?_⟩
          refine hK4 _ ?_
          clear hK4
          refine aw_cond (t := true) rfl (fun _ => ?_) (fun h => nomatch h)
          refine aw_ops zT fun K8 hK8 => ?_
          simp only [amset, amlib, zset, eq_self, ↓reduceIte, reduceCtorEq, Nat.reduceBEq, Nat.reduceEqDiff, Nat.reduceAdd, Nat.reduceMul, Nat.reduceLeDiff, Nat.reduceLT, Nat.reduceSub]
          refine hK8 _ ?_
          clear hK8
          refine aw_ret ?_
          show resOf zG _ [.tmp 2] = some _
          simp only [amset, amlib, zset, eq_self, ↓reduceIte, reduceCtorEq, Nat.reduceBEq, Nat.reduceEqDiff, Nat.reduceAdd, Nat.reduceMul, Nat.reduceLeDiff, Nat.reduceLT, Nat.reduceSub]
          simp only [exOK_eq, headOK, exTail, g0, g1, g2, g3, Bool.true_or, Bool.or_true, Bool.false_or, Bool.or_false, Bool.true_and, Bool.and_true, Bool.false_and, Bool.and_false, Bool.not_true, Bool.not_false, if_true, if_false, ↓reduceIte, Bool.false_eq_true]
        | false =>
          refine aw_draw zT prog_mixed fun K4 hK4 => ?_
          simp only [amset, amlib, zset, g0, g1, g2, g3, eq_self, ↓reduceIte, reduceCtorEq, Nat.reduceBEq, Nat.reduceEqDiff, Nat.reduceAdd, Nat.reduceMul, Nat.reduceLeDiff, Nat.reduceLT, Nat.reduceSub]
          intros
          refine ⟨_, holds73 x.kind, ?_⟩
          simp only [amset, later, amlib, zset, g0, g1, g2, g3, eq_self, ↓reduceIte, reduceCtorEq, Nat.reduceBEq, Nat.reduceEqDiff, Nat.reduceAdd, Nat.reduceMul, Nat.reduceLeDiff, Nat.reduceLT, Nat.reduceSub]
          refine ⟨by kernel_rfl, ?_⟩
          refine hK4 _ ?_
          clear hK4
          refine aw_cond (t := false) rfl (fun h => nomatch h) (fun _ => ?_)
          refine aw_skip ?_
          simp only [thenQ, blkQ, if_true, reduceIte, Nat.reduceEqDiff, eq_self]
          refine hK3 _ ?_
          clear hK3
          refine aw_seq fun K9 hK9 => ?_
          refine aw_ops zT fun K10 hK10 => ?_
          simp only [amset, amlib, zset, eq_self, ↓reduceIte, reduceCtorEq, Nat.reduceBEq, Nat.reduceEqDiff, Nat.reduceAdd, Nat.reduceMul, Nat.reduceLeDiff, Nat.reduceLT, Nat.reduceSub]
          intros
          refine hK10 _ ?_
          clear hK10
          refine aw_block ?_
          refine aw_range (α := Ex) (x.args) (fun dn => exOKs dn = true) (fun dn => [(39, .cell (.c (.int .i64 dn.length)))]) (fun dn => []) [] [2, 5, 39, 40, 41, 42, 43, 44, 45, 46] [5] rfl ?_ ?_ ?_ ?_
          · simp only [amset, amlib, zset, eq_self, ↓reduceIte, reduceCtorEq, Nat.reduceBEq, Nat.reduceEqDiff, Nat.reduceAdd, Nat.reduceMul, Nat.reduceLeDiff, Nat.reduceLT, Nat.reduceSub] <;> simp
          · simp only [amset, amlib, zset, eq_self, ↓reduceIte, reduceCtorEq, Nat.reduceBEq, Nat.reduceEqDiff, Nat.reduceAdd, Nat.reduceMul, Nat.reduceLeDiff, Nat.reduceLT, Nat.reduceSub] <;> simp
          · intro hI R
            refine aw_norm (by simp only [amset, amlib, zset, eq_self, ↓reduceIte, reduceCtorEq, Nat.reduceBEq, Nat.reduceEqDiff, Nat.reduceAdd, Nat.reduceMul, Nat.reduceLeDiff, Nat.reduceLT, Nat.reduceSub]; exact rfl) ?_
            refine aw_ops zT fun K11 hK11 => ?_
            simp only [amset, amlib, zset, eq_self, ↓reduceIte, reduceCtorEq, Nat.reduceBEq, Nat.reduceEqDiff, Nat.reduceAdd, Nat.reduceMul, Nat.reduceLeDiff, Nat.reduceLT, Nat.reduceSub]
            refine hK11 _ ?_
            clear hK11
            refine aw_seq fun K12 hK12 => ?_
            refine aw_cond (t := false) (by simp [evalO, S.get, amLook]) (fun h => nomatch h) (fun _ => ?_)
            refine aw_exit ?_
            simp only [thenQ, blkQ, if_true, reduceIte, Nat.reduceEqDiff, eq_self]
            refine hK9 _ ?_
            clear hK9
            refine aw_seq fun K13 hK13 => ?_
            refine aw_ops zT fun K14 hK14 => ?_
            simp only [amset, amlib, zset, eq_self, ↓reduceIte, reduceCtorEq, Nat.reduceBEq, Nat.reduceEqDiff, Nat.reduceAdd, Nat.reduceMul, Nat.reduceLeDiff, Nat.reduceLT, Nat.reduceSub]
            refine hK14 _ ?_
            clear hK14
            refine aw_block ?_
            refine aw_ops zT fun K15 hK15 => ?_
            simp only [amset, amlib, zset, eq_self, ↓reduceIte, reduceCtorEq, Nat.reduceBEq, Nat.reduceEqDiff, Nat.reduceAdd, Nat.reduceMul, Nat.reduceLeDiff, Nat.reduceLT, Nat.reduceSub]
            refine hK15 _ ?_
            clear hK15
            refine aw_cond rfl (fun h0 => ?_) (fun h0 => ?_)
            · skip
              refine aw_ops zT fun K16 hK16 => ?_
              simp only [amset, amlib, zset, eq_self, ↓reduceIte, reduceCtorEq, Nat.reduceBEq, Nat.reduceEqDiff, Nat.reduceAdd, Nat.reduceMul, Nat.reduceLeDiff, Nat.reduceLT, Nat.reduceSub]
              refine hK16 _ ?_
              clear hK16
              refine aw_ret ?_
              show resOf zG _ [.tmp 2] = some _
              simp only [amset, amlib, zset, eq_self, ↓reduceIte, reduceCtorEq, Nat.reduceBEq, Nat.reduceEqDiff, Nat.reduceAdd, Nat.reduceMul, Nat.reduceLeDiff, Nat.reduceLT, Nat.reduceSub]
              simp only [exOK_eq, headOK, exTail, hI, g0, g1, g2, g3, h0, Bool.true_or, Bool.or_true, Bool.false_or, Bool.or_false, Bool.true_and, Bool.and_true, Bool.false_and, Bool.and_false, Bool.not_true, Bool.not_false, if_true, if_false, ↓reduceIte, Bool.false_eq_true]
            · skip
              refine aw_ops zT fun K17 hK17 => ?_
              simp only [amset, amlib, zset, eq_self, ↓reduceIte, reduceCtorEq, Nat.reduceBEq, Nat.reduceEqDiff, Nat.reduceAdd, Nat.reduceMul, Nat.reduceLeDiff, Nat.reduceLT, Nat.reduceSub]
              refine hK17 _ ?_
              clear hK17
              refine aw_cond rfl (fun h1 => ?_) (fun h1 => ?_)
              · skip
                refine aw_ops zT fun K18 hK18 => ?_
                cases e0 : (x.op == 1) with
                | true =>
                  simp only [amset, amlib, zset, g0, g1, g2, g3, e0, eq_self, ↓reduceIte, reduceCtorEq, Nat.reduceBEq, Nat.reduceEqDiff, Nat.reduceAdd, Nat.reduceMul, Nat.reduceLeDiff, Nat.reduceLT, Nat.reduceSub]
                  refine hK18 _ ?_
                  clear hK18
                  refine aw_ret ?_
                  show resOf zG _ [.tmp 2] = some _
                  simp only [amset, amlib, zset, eq_self, ↓reduceIte, reduceCtorEq, Nat.reduceBEq, Nat.reduceEqDiff, Nat.reduceAdd, Nat.reduceMul, Nat.reduceLeDiff, Nat.reduceLT, Nat.reduceSub]
                  simp only [exOK_eq, headOK, exTail, hI, g0, g1, g2, g3, e0, h0, h1, Bool.true_or, Bool.or_true, Bool.false_or, Bool.or_false, Bool.true_and, Bool.and_true, Bool.false_and, Bool.and_false, Bool.not_true, Bool.not_false, if_true, if_false, ↓reduceIte, Bool.false_eq_true]
                | false =>
                  simp only [amset, amlib, zset, g0, g1, g2, g3, e0, eq_self, ↓reduceIte, reduceCtorEq, Nat.reduceBEq, Nat.reduceEqDiff, Nat.reduceAdd, Nat.reduceMul, Nat.reduceLeDiff, Nat.reduceLT, Nat.reduceSub]
                  refine hK18 _ ?_
                  clear hK18
                  refine aw_ret ?_
                  show resOf zG _ [.tmp 2] = some _
                  simp only [amset, amlib, zset, eq_self, ↓reduceIte, reduceCtorEq, Nat.reduceBEq, Nat.reduceEqDiff, Nat.reduceAdd, Nat.reduceMul, Nat.reduceLeDiff, Nat.reduceLT, Nat.reduceSub]
                  simp only [exOK_eq, headOK, exTail, hI, g0, g1, g2, g3, e0, h0, h1, Bool.true_or, Bool.or_true, Bool.false_or, Bool.or_false, Bool.true_and, Bool.and_true, Bool.false_and, Bool.and_false, Bool.not_true, Bool.not_false, if_true, if_false, ↓reduceIte, Bool.false_eq_true]
              · skip
                refine aw_ops zT fun K19 hK19 => ?_
                simp only [amset, amlib, zset, eq_self, ↓reduceIte, reduceCtorEq, Nat.reduceBEq, Nat.reduceEqDiff, Nat.reduceAdd, Nat.reduceMul, Nat.reduceLeDiff, Nat.reduceLT, Nat.reduceSub]
                refine hK19 _ ?_
                clear hK19
                refine aw_cond rfl (fun h2 => ?_) (fun h2 => ?_)
                · skip
                  refine aw_ops zT fun K20 hK20 => ?_
                  cases e0 : decide (x.op ≥ 3) with
                  | true =>
                    simp only [amset, amlib, zset, g0, g1, g2, g3, e0, eq_self, ↓reduceIte, reduceCtorEq, Nat.reduceBEq, Nat.reduceEqDiff, Nat.reduceAdd, Nat.reduceMul, Nat.reduceLeDiff, Nat.reduceLT, Nat.reduceSub]
                    refine hK20 _ ?_
                    clear hK20
                    refine aw_ret ?_
                    show resOf zG _ [.tmp 2] = some _
                    simp only [amset, amlib, zset, eq_self, ↓reduceIte, reduceCtorEq, Nat.reduceBEq, Nat.reduceEqDiff, Nat.reduceAdd, Nat.reduceMul, Nat.reduceLeDiff, Nat.reduceLT, Nat.reduceSub]
                    simp only [exOK_eq, headOK, exTail, hI, g0, g1, g2, g3, e0, h0, h1, h2, Bool.true_or, Bool.or_true, Bool.false_or, Bool.or_false, Bool.true_and, Bool.and_true, Bool.false_and, Bool.and_false, Bool.not_true, Bool.not_false, if_true, if_false, ↓reduceIte, Bool.false_eq_true]
                  | false =>
                    simp only [amset, amlib, zset, g0, g1, g2, g3, e0, eq_self, ↓reduceIte, reduceCtorEq, Nat.reduceBEq, Nat.reduceEqDiff, Nat.reduceAdd, Nat.reduceMul, Nat.reduceLeDiff, Nat.reduceLT, Nat.reduceSub]
                    refine hK20 _ ?_
                    clear hK20
                    refine aw_ret ?_
                    show resOf zG _ [.tmp 2] = some _
                    simp only [amset, amlib, zset, eq_self, ↓reduceIte, reduceCtorEq, Nat.reduceBEq, Nat.reduceEqDiff, Nat.reduceAdd, Nat.reduceMul, Nat.reduceLeDiff, Nat.reduceLT, Nat.reduceSub]
                    simp only [exOK_eq, headOK, exTail, hI, g0, g1, g2, g3, e0, h0, h1, h2, Bool.true_or, Bool.or_true, Bool.false_or, Bool.or_false, Bool.true_and, Bool.and_true, Bool.false_and, Bool.and_false, Bool.not_true, Bool.not_false, if_true, if_false, ↓reduceIte, Bool.false_eq_true]
                · skip
                  refine aw_skip ?_
                  simp only [thenQ, blkQ, if_true, reduceIte, Nat.reduceEqDiff, eq_self]
                  refine hK13 _ ?_
                  clear hK13
                  refine aw_ops zT fun K21 hK21 => ?_
                  simp only [amset, amlib, zset, eq_self, ↓reduceIte, reduceCtorEq, Nat.reduceBEq, Nat.reduceEqDiff, Nat.reduceAdd, Nat.reduceMul, Nat.reduceLeDiff, Nat.reduceLT, Nat.reduceSub]
                  refine ⟨_, holds74 x.name, ?_⟩
                  simp only [amset, later, amlib, zset, eq_self, ↓reduceIte, reduceCtorEq, Nat.reduceBEq, Nat.reduceEqDiff, Nat.reduceAdd, Nat.reduceMul, Nat.reduceLeDiff, Nat.reduceLT, Nat.reduceSub]
                  refine hK21 _ ?_
                  clear hK21
                  refine aw_ret ?_
                  show resOf zG _ [.tmp 2] = some _
                  simp only [amset, amlib, zset, eq_self, ↓reduceIte, reduceCtorEq, Nat.reduceBEq, Nat.reduceEqDiff, Nat.reduceAdd, Nat.reduceMul, Nat.reduceLeDiff, Nat.reduceLT, Nat.reduceSub]
                  simp only [exOK_eq, headOK, exTail, hI, g0, g1, g2, g3, h0, h1, h2, Bool.true_or, Bool.or_true, Bool.false_or, Bool.or_false, Bool.true_and, Bool.and_true, Bool.false_and, Bool.and_false, Bool.not_true, Bool.not_false, if_true, if_false, ↓reduceIte, Bool.false_eq_true]
          · intro dn y td harg hI R hR
            have hl : (x.args).length = dn.length + (td.length + 1) := by rw [harg]; simp
            have hmem : y ∈ x.args := by rw [harg]; simp
            refine aw_norm (by simp only [amset, amlib, zset, eq_self, ↓reduceIte, reduceCtorEq, Nat.reduceBEq, Nat.reduceEqDiff, Nat.reduceAdd, Nat.reduceMul, Nat.reduceLeDiff, Nat.reduceLT, Nat.reduceSub]; exact rfl) ?_
            have hget : (encEs (x.args)).getD dn.length [] = encE y := by rw [harg]; exact encEs_mid dn td y
            refine aw_ops zT fun K22 hK22 => ?_
            simp only [amset, amlib, zset, eq_self, ↓reduceIte, reduceCtorEq, Nat.reduceBEq, Nat.reduceEqDiff, Nat.reduceAdd, Nat.reduceMul, Nat.reduceLeDiff, Nat.reduceLT, Nat.reduceSub]
            refine hK22 _ ?_
            clear hK22
            refine aw_seq fun K23 hK23 => ?_
            refine aw_cond (t := true) (by simp [evalO, S.get, amLook]; omega) (fun _ => ?_) (fun h => nomatch h)
            refine aw_skip ?_
            simp only [thenQ, blkQ, if_true, reduceIte, Nat.reduceEqDiff, eq_self]
            refine hK23 _ ?_
            clear hK23
            refine aw_seq fun K24 hK24 => ?_
            refine aw_block ?_
            refine aw_ops zT fun K25 hK25 => ?_
            simp only [amset, amlib, zset, hget, eq_self, ↓reduceIte, reduceCtorEq, Nat.reduceBEq, Nat.reduceEqDiff, Nat.reduceAdd, Nat.reduceMul, Nat.reduceLeDiff, Nat.reduceLT, Nat.reduceSub]
            refine ⟨⟨by omega, by omega⟩, ?_⟩
            refine hK25 _ ?_
            clear hK25
            refine aw_ops zT fun K26 hK26 => ?_
            simp only [amset, amlib, zset, eq_self, ↓reduceIte, reduceCtorEq, Nat.reduceBEq, Nat.reduceEqDiff, Nat.reduceAdd, Nat.reduceMul, Nat.reduceLeDiff, Nat.reduceLT, Nat.reduceSub]
            refine ⟨_, ih y hmem, ?_⟩
            simp only [amset, later, amlib, zset, eq_self, ↓reduceIte, reduceCtorEq, Nat.reduceBEq, Nat.reduceEqDiff, Nat.reduceAdd, Nat.reduceMul, Nat.reduceLeDiff, Nat.reduceLT, Nat.reduceSub]
            refine hK26 _ ?_
            clear hK26
            refine aw_cond rfl (fun h3 => ?_) (fun h3 => ?_)
            · skip
              refine aw_ops zT fun K27 hK27 => ?_
              simp only [amset, amlib, zset, eq_self, ↓reduceIte, reduceCtorEq, Nat.reduceBEq, Nat.reduceEqDiff, Nat.reduceAdd, Nat.reduceMul, Nat.reduceLeDiff, Nat.reduceLT, Nat.reduceSub]
              refine hK27 _ ?_
              clear hK27
              refine aw_ret ?_
              show resOf zG _ [.tmp 2] = some _
              simp only [amset, amlib, zset, eq_self, ↓reduceIte, reduceCtorEq, Nat.reduceBEq, Nat.reduceEqDiff, Nat.reduceAdd, Nat.reduceMul, Nat.reduceLeDiff, Nat.reduceLT, Nat.reduceSub]
              have hf : exOKs x.args = false := by
                rw [harg, exOKs_append]
                simp at h3
                simp [exOKs, h3]
              simp only [exOK_eq, hf, Bool.true_or, Bool.or_true, Bool.false_or, Bool.or_false, Bool.true_and, Bool.and_true, Bool.false_and, Bool.and_false, Bool.not_true, Bool.not_false, if_true, if_false, ↓reduceIte, Bool.false_eq_true]
            · skip
              refine aw_skip ?_
              simp only [thenQ, blkQ, if_true, reduceIte, Nat.reduceEqDiff, eq_self]
              refine hK24 _ ?_
              clear hK24
              refine aw_region zT ?_
              simp only [amset, amlib, zset, eq_self, ↓reduceIte, reduceCtorEq, Nat.reduceBEq, Nat.reduceEqDiff, Nat.reduceAdd, Nat.reduceMul, Nat.reduceLeDiff, Nat.reduceLT, Nat.reduceSub]
              refine ⟨⟨by omega, by omega⟩, ?_⟩
              refine hR _ (by rw [exOKs_append, hI]; simp [exOKs]; simpa using h3) ?_
              refine Reach.to ?_ ?_
              · simp only [amset, amlib, zset, eq_self, ↓reduceIte, reduceCtorEq, Nat.reduceBEq, Nat.reduceEqDiff, Nat.reduceAdd, Nat.reduceMul, Nat.reduceLeDiff, Nat.reduceLT, Nat.reduceSub] <;> simp
              · simp only [amset, amlib, zset, eq_self, ↓reduceIte, reduceCtorEq, Nat.reduceBEq, Nat.reduceEqDiff, Nat.reduceAdd, Nat.reduceMul, Nat.reduceLeDiff, Nat.reduceLT, Nat.reduceSub] <;> simp
theorem holds26 (x : Ex) : Holds Tryz.prog zG 26 [.agg [.int .i64 x.kind, .str x.name, .int .i16 x.value, .int .i64 x.op, .sl 6 (encEs x.args), .int .i64 x.pos]] [.c (.bool (exOK x))] := step26 x fun y hmem => holds26 y
  termination_by SizeOf.sizeOf x
  decreasing_by exact Ex.args_lt hmem
end Go.Proofs.Am
set_option maxRecDepth 100000
set_option maxHeartbeats 4000000
namespace Go.Proofs.Am
theorem prog188 : Tryz.prog.funcs[188]? = some Tryz.f188 := by kernel_rfl
theorem holds188 (op a b : Int) : Holds Tryz.prog zG 188 [.c (.int .i64 op), .c (.int .i16 a), .c (.int .i16 b)] [.c (.int .i16 (binW op a b)), .c (.int .i64 (binX op))] := by
  refine holds_of_body zT prog188 rfl rfl rfl (by simp [Tryz.f188]) ?_
  refine aw_ops zT fun K1 hK1 => ?_
  simp only [amset, amlib, zset, eq_self, ↓reduceIte, reduceCtorEq, Nat.reduceBEq, Nat.reduceEqDiff, Nat.reduceAdd, Nat.reduceMul, Nat.reduceLeDiff, Nat.reduceLT, Nat.reduceSub]
  refine hK1 _ ?_
  clear hK1
  refine aw_seq fun K2 hK2 => ?_
  refine aw_ops zT fun K3 hK3 => ?_
  simp only [amset, amlib, zset, eq_self, ↓reduceIte, reduceCtorEq, Nat.reduceBEq, Nat.reduceEqDiff, Nat.reduceAdd, Nat.reduceMul, Nat.reduceLeDiff, Nat.reduceLT, Nat.reduceSub]
  refine hK3 _ ?_
  clear hK3
  refine aw_block ?_
  refine aw_ops zT fun K4 hK4 => ?_
  simp only [amset, amlib, zset, eq_self, ↓reduceIte, reduceCtorEq, Nat.reduceBEq, Nat.reduceEqDiff, Nat.reduceAdd, Nat.reduceMul, Nat.reduceLeDiff, Nat.reduceLT, Nat.reduceSub]
  refine hK4 _ ?_
  clear hK4
  refine aw_cond rfl (fun h0 => ?_) (fun h0 => ?_)
  · skip
    refine aw_ops zT fun K5 hK5 => ?_
    simp only [amset, amlib, zset, eq_self, ↓reduceIte, reduceCtorEq, Nat.reduceBEq, Nat.reduceEqDiff, Nat.reduceAdd, Nat.reduceMul, Nat.reduceLeDiff, Nat.reduceLT, Nat.reduceSub]
    refine ⟨_, holds216 a b, ?_⟩
    simp only [later]
    simp only [amset, amlib, zset, eq_self, ↓reduceIte, reduceCtorEq, Nat.reduceBEq, Nat.reduceEqDiff, Nat.reduceAdd, Nat.reduceMul, Nat.reduceLeDiff, Nat.reduceLT, Nat.reduceSub]
    refine hK5 _ ?_
    clear hK5
    refine aw_ret ?_
    show resOf zG _ [.tmp 6, .tmp 7] = some _
    simp only [amset, amlib, zset, eq_self, ↓reduceIte, reduceCtorEq, Nat.reduceBEq, Nat.reduceEqDiff, Nat.reduceAdd, Nat.reduceMul, Nat.reduceLeDiff, Nat.reduceLT, Nat.reduceSub]
    simp only [binW, binX, h0, w16, ↓reduceIte, Bool.false_eq_true]
  · skip
    refine aw_ops zT fun K6 hK6 => ?_
    simp only [amset, amlib, zset, eq_self, ↓reduceIte, reduceCtorEq, Nat.reduceBEq, Nat.reduceEqDiff, Nat.reduceAdd, Nat.reduceMul, Nat.reduceLeDiff, Nat.reduceLT, Nat.reduceSub]
    refine hK6 _ ?_
    clear hK6
    refine aw_cond rfl (fun h1 => ?_) (fun h1 => ?_)
    · skip
      refine aw_ops zT fun K7 hK7 => ?_
      simp only [amset, amlib, zset, eq_self, ↓reduceIte, reduceCtorEq, Nat.reduceBEq, Nat.reduceEqDiff, Nat.reduceAdd, Nat.reduceMul, Nat.reduceLeDiff, Nat.reduceLT, Nat.reduceSub]
      refine ⟨_, holds217 a b, ?_⟩
      simp only [later]
      simp only [amset, amlib, zset, eq_self, ↓reduceIte, reduceCtorEq, Nat.reduceBEq, Nat.reduceEqDiff, Nat.reduceAdd, Nat.reduceMul, Nat.reduceLeDiff, Nat.reduceLT, Nat.reduceSub]
      refine hK7 _ ?_
      clear hK7
      refine aw_ret ?_
      show resOf zG _ [.tmp 6, .tmp 7] = some _
      simp only [amset, amlib, zset, eq_self, ↓reduceIte, reduceCtorEq, Nat.reduceBEq, Nat.reduceEqDiff, Nat.reduceAdd, Nat.reduceMul, Nat.reduceLeDiff, Nat.reduceLT, Nat.reduceSub]
      simp only [binW, binX, h0, h1, w16, ↓reduceIte, Bool.false_eq_true]
    · skip
      refine aw_ops zT fun K8 hK8 => ?_
      simp only [amset, amlib, zset, eq_self, ↓reduceIte, reduceCtorEq, Nat.reduceBEq, Nat.reduceEqDiff, Nat.reduceAdd, Nat.reduceMul, Nat.reduceLeDiff, Nat.reduceLT, Nat.reduceSub]
      refine hK8 _ ?_
      clear hK8
      refine aw_cond rfl (fun h2 => ?_) (fun h2 => ?_)
      · skip
        refine aw_ops zT fun K9 hK9 => ?_
        simp only [amset, amlib, zset, eq_self, ↓reduceIte, reduceCtorEq, Nat.reduceBEq, Nat.reduceEqDiff, Nat.reduceAdd, Nat.reduceMul, Nat.reduceLeDiff, Nat.reduceLT, Nat.reduceSub]
        refine ⟨_, holds218 a b, ?_⟩
        simp only [later]
        simp only [amset, amlib, zset, eq_self, ↓reduceIte, reduceCtorEq, Nat.reduceBEq, Nat.reduceEqDiff, Nat.reduceAdd, Nat.reduceMul, Nat.reduceLeDiff, Nat.reduceLT, Nat.reduceSub]
        refine hK9 _ ?_
        clear hK9
        refine aw_ret ?_
        show resOf zG _ [.tmp 6, .tmp 7] = some _
        simp only [amset, amlib, zset, eq_self, ↓reduceIte, reduceCtorEq, Nat.reduceBEq, Nat.reduceEqDiff, Nat.reduceAdd, Nat.reduceMul, Nat.reduceLeDiff, Nat.reduceLT, Nat.reduceSub]
        simp only [binW, binX, h0, h1, h2, w16, ↓reduceIte, Bool.false_eq_true]
      · skip
        refine aw_ops zT fun K10 hK10 => ?_
        simp only [amset, amlib, zset, eq_self, ↓reduceIte, reduceCtorEq, Nat.reduceBEq, Nat.reduceEqDiff, Nat.reduceAdd, Nat.reduceMul, Nat.reduceLeDiff, Nat.reduceLT, Nat.reduceSub]
        refine hK10 _ ?_
        clear hK10
        refine aw_cond rfl (fun h3 => ?_) (fun h3 => ?_)
        · skip
          refine aw_ops zT fun K11 hK11 => ?_
          simp only [amset, amlib, zset, eq_self, ↓reduceIte, reduceCtorEq, Nat.reduceBEq, Nat.reduceEqDiff, Nat.reduceAdd, Nat.reduceMul, Nat.reduceLeDiff, Nat.reduceLT, Nat.reduceSub]
          refine ⟨_, holds219 a b, ?_⟩
          simp only [later]
          simp only [amset, amlib, zset, eq_self, ↓reduceIte, reduceCtorEq, Nat.reduceBEq, Nat.reduceEqDiff, Nat.reduceAdd, Nat.reduceMul, Nat.reduceLeDiff, Nat.reduceLT, Nat.reduceSub]
          refine hK11 _ ?_
          clear hK11
          refine aw_ret ?_
          show resOf zG _ [.tmp 6, .tmp 7] = some _
          simp only [amset, amlib, zset, eq_self, ↓reduceIte, reduceCtorEq, Nat.reduceBEq, Nat.reduceEqDiff, Nat.reduceAdd, Nat.reduceMul, Nat.reduceLeDiff, Nat.reduceLT, Nat.reduceSub]
          simp only [binW, binX, h0, h1, h2, h3, w16, ↓reduceIte, Bool.false_eq_true]
        · skip
          refine aw_ops zT fun K12 hK12 => ?_
          simp only [amset, amlib, zset, eq_self, ↓reduceIte, reduceCtorEq, Nat.reduceBEq, Nat.reduceEqDiff, Nat.reduceAdd, Nat.reduceMul, Nat.reduceLeDiff, Nat.reduceLT, Nat.reduceSub]
          refine hK12 _ ?_
          clear hK12
          refine aw_cond rfl (fun h4 => ?_) (fun h4 => ?_)
          · skip
            refine aw_ops zT fun K13 hK13 => ?_
            simp only [amset, amlib, zset, eq_self, ↓reduceIte, reduceCtorEq, Nat.reduceBEq, Nat.reduceEqDiff, Nat.reduceAdd, Nat.reduceMul, Nat.reduceLeDiff, Nat.reduceLT, Nat.reduceSub]
            refine ⟨_, holds220 a b, ?_⟩
            simp only [later]
            simp only [amset, amlib, zset, eq_self, ↓reduceIte, reduceCtorEq, Nat.reduceBEq, Nat.reduceEqDiff, Nat.reduceAdd, Nat.reduceMul, Nat.reduceLeDiff, Nat.reduceLT, Nat.reduceSub]
            refine hK13 _ ?_
            clear hK13
            refine aw_ret ?_
            show resOf zG _ [.tmp 6, .tmp 7] = some _
            simp only [amset, amlib, zset, eq_self, ↓reduceIte, reduceCtorEq, Nat.reduceBEq, Nat.reduceEqDiff, Nat.reduceAdd, Nat.reduceMul, Nat.reduceLeDiff, Nat.reduceLT, Nat.reduceSub]
            simp only [binW, binX, h0, h1, h2, h3, h4, w16, ↓reduceIte, Bool.false_eq_true]
          · skip
            refine aw_ops zT fun K14 hK14 => ?_
            simp only [amset, amlib, zset, eq_self, ↓reduceIte, reduceCtorEq, Nat.reduceBEq, Nat.reduceEqDiff, Nat.reduceAdd, Nat.reduceMul, Nat.reduceLeDiff, Nat.reduceLT, Nat.reduceSub]
            refine hK14 _ ?_
            clear hK14
            refine aw_cond rfl (fun h5 => ?_) (fun h5 => ?_)
            · skip
              refine aw_ops zT fun K15 hK15 => ?_
              simp only [amset, amlib, zset, eq_self, ↓reduceIte, reduceCtorEq, Nat.reduceBEq, Nat.reduceEqDiff, Nat.reduceAdd, Nat.reduceMul, Nat.reduceLeDiff, Nat.reduceLT, Nat.reduceSub]
              refine ⟨_, holds195 _, ?_⟩
              simp only [later]
              simp only [amset, amlib, zset, eq_self, ↓reduceIte, reduceCtorEq, Nat.reduceBEq, Nat.reduceEqDiff, Nat.reduceAdd, Nat.reduceMul, Nat.reduceLeDiff, Nat.reduceLT, Nat.reduceSub]
              refine hK15 _ ?_
              clear hK15
              refine aw_ret ?_
              show resOf zG _ [.tmp 6, .tmp 7] = some _
              simp only [amset, amlib, zset, eq_self, ↓reduceIte, reduceCtorEq, Nat.reduceBEq, Nat.reduceEqDiff, Nat.reduceAdd, Nat.reduceMul, Nat.reduceLeDiff, Nat.reduceLT, Nat.reduceSub]
              simp only [binW, binX, h0, h1, h2, h3, h4, h5, w16, ↓reduceIte, Bool.false_eq_true]
            · skip
              refine aw_ops zT fun K16 hK16 => ?_
              simp only [amset, amlib, zset, eq_self, ↓reduceIte, reduceCtorEq, Nat.reduceBEq, Nat.reduceEqDiff, Nat.reduceAdd, Nat.reduceMul, Nat.reduceLeDiff, Nat.reduceLT, Nat.reduceSub]
              refine hK16 _ ?_
              clear hK16
              refine aw_cond rfl (fun h6 => ?_) (fun h6 => ?_)
              · skip
                refine aw_ops zT fun K17 hK17 => ?_
                simp only [amset, amlib, zset, eq_self, ↓reduceIte, reduceCtorEq, Nat.reduceBEq, Nat.reduceEqDiff, Nat.reduceAdd, Nat.reduceMul, Nat.reduceLeDiff, Nat.reduceLT, Nat.reduceSub]
                refine ⟨_, holds195 _, ?_⟩
                simp only [later]
                simp only [amset, amlib, zset, eq_self, ↓reduceIte, reduceCtorEq, Nat.reduceBEq, Nat.reduceEqDiff, Nat.reduceAdd, Nat.reduceMul, Nat.reduceLeDiff, Nat.reduceLT, Nat.reduceSub]
                refine hK17 _ ?_
                clear hK17
                refine aw_ret ?_
                show resOf zG _ [.tmp 6, .tmp 7] = some _
                simp only [amset, amlib, zset, eq_self, ↓reduceIte, reduceCtorEq, Nat.reduceBEq, Nat.reduceEqDiff, Nat.reduceAdd, Nat.reduceMul, Nat.reduceLeDiff, Nat.reduceLT, Nat.reduceSub]
                simp only [binW, binX, h0, h1, h2, h3, h4, h5, h6, w16, ↓reduceIte, Bool.false_eq_true]
              · skip
                refine aw_ops zT fun K18 hK18 => ?_
                simp only [amset, amlib, zset, eq_self, ↓reduceIte, reduceCtorEq, Nat.reduceBEq, Nat.reduceEqDiff, Nat.reduceAdd, Nat.reduceMul, Nat.reduceLeDiff, Nat.reduceLT, Nat.reduceSub]
                refine hK18 _ ?_
                clear hK18
                refine aw_cond rfl (fun h7 => ?_) (fun h7 => ?_)
                · skip
                  refine aw_ops zT fun K19 hK19 => ?_
                  simp only [amset, amlib, zset, eq_self, ↓reduceIte, reduceCtorEq, Nat.reduceBEq, Nat.reduceEqDiff, Nat.reduceAdd, Nat.reduceMul, Nat.reduceLeDiff, Nat.reduceLT, Nat.reduceSub]
                  refine ⟨_, holds195 _, ?_⟩
                  simp only [later]
                  simp only [amset, amlib, zset, eq_self, ↓reduceIte, reduceCtorEq, Nat.reduceBEq, Nat.reduceEqDiff, Nat.reduceAdd, Nat.reduceMul, Nat.reduceLeDiff, Nat.reduceLT, Nat.reduceSub]
                  refine hK19 _ ?_
                  clear hK19
                  refine aw_ret ?_
                  show resOf zG _ [.tmp 6, .tmp 7] = some _
                  simp only [amset, amlib, zset, eq_self, ↓reduceIte, reduceCtorEq, Nat.reduceBEq, Nat.reduceEqDiff, Nat.reduceAdd, Nat.reduceMul, Nat.reduceLeDiff, Nat.reduceLT, Nat.reduceSub]
                  simp only [binW, binX, h0, h1, h2, h3, h4, h5, h6, h7, w16, ↓reduceIte, Bool.false_eq_true]
                · skip
                  refine aw_ops zT fun K20 hK20 => ?_
                  simp only [amset, amlib, zset, eq_self, ↓reduceIte, reduceCtorEq, Nat.reduceBEq, Nat.reduceEqDiff, Nat.reduceAdd, Nat.reduceMul, Nat.reduceLeDiff, Nat.reduceLT, Nat.reduceSub]
                  refine hK20 _ ?_
                  clear hK20
                  refine aw_cond rfl (fun h8 => ?_) (fun h8 => ?_)
                  · skip
                    refine aw_ops zT fun K21 hK21 => ?_
                    simp only [amset, amlib, zset, eq_self, ↓reduceIte, reduceCtorEq, Nat.reduceBEq, Nat.reduceEqDiff, Nat.reduceAdd, Nat.reduceMul, Nat.reduceLeDiff, Nat.reduceLT, Nat.reduceSub]
                    refine ⟨_, holds195 _, ?_⟩
                    simp only [later]
                    simp only [amset, amlib, zset, eq_self, ↓reduceIte, reduceCtorEq, Nat.reduceBEq, Nat.reduceEqDiff, Nat.reduceAdd, Nat.reduceMul, Nat.reduceLeDiff, Nat.reduceLT, Nat.reduceSub]
                    refine hK21 _ ?_
                    clear hK21
                    refine aw_ret ?_
                    show resOf zG _ [.tmp 6, .tmp 7] = some _
                    simp only [amset, amlib, zset, eq_self, ↓reduceIte, reduceCtorEq, Nat.reduceBEq, Nat.reduceEqDiff, Nat.reduceAdd, Nat.reduceMul, Nat.reduceLeDiff, Nat.reduceLT, Nat.reduceSub]
                    simp only [binW, binX, h0, h1, h2, h3, h4, h5, h6, h7, h8, w16, ↓reduceIte, Bool.false_eq_true]
                  · skip
                    refine aw_ops zT fun K22 hK22 => ?_
                    simp only [amset, amlib, zset, eq_self, ↓reduceIte, reduceCtorEq, Nat.reduceBEq, Nat.reduceEqDiff, Nat.reduceAdd, Nat.reduceMul, Nat.reduceLeDiff, Nat.reduceLT, Nat.reduceSub]
                    refine hK22 _ ?_
                    clear hK22
                    refine aw_cond rfl (fun h9 => ?_) (fun h9 => ?_)
                    · skip
                      refine aw_ops zT fun K23 hK23 => ?_
                      simp only [amset, amlib, zset, eq_self, ↓reduceIte, reduceCtorEq, Nat.reduceBEq, Nat.reduceEqDiff, Nat.reduceAdd, Nat.reduceMul, Nat.reduceLeDiff, Nat.reduceLT, Nat.reduceSub]
                      refine ⟨_, holds195 _, ?_⟩
                      simp only [later]
                      simp only [amset, amlib, zset, eq_self, ↓reduceIte, reduceCtorEq, Nat.reduceBEq, Nat.reduceEqDiff, Nat.reduceAdd, Nat.reduceMul, Nat.reduceLeDiff, Nat.reduceLT, Nat.reduceSub]
                      refine hK23 _ ?_
                      clear hK23
                      refine aw_ret ?_
                      show resOf zG _ [.tmp 6, .tmp 7] = some _
                      simp only [amset, amlib, zset, eq_self, ↓reduceIte, reduceCtorEq, Nat.reduceBEq, Nat.reduceEqDiff, Nat.reduceAdd, Nat.reduceMul, Nat.reduceLeDiff, Nat.reduceLT, Nat.reduceSub]
                      simp only [binW, binX, h0, h1, h2, h3, h4, h5, h6, h7, h8, h9, w16, ↓reduceIte, Bool.false_eq_true]
                    · skip
                      refine aw_ops zT fun K24 hK24 => ?_
                      simp only [amset, amlib, zset, eq_self, ↓reduceIte, reduceCtorEq, Nat.reduceBEq, Nat.reduceEqDiff, Nat.reduceAdd, Nat.reduceMul, Nat.reduceLeDiff, Nat.reduceLT, Nat.reduceSub]
                      refine hK24 _ ?_
                      clear hK24
                      refine aw_cond rfl (fun h10 => ?_) (fun h10 => ?_)
                      · skip
                        refine aw_ops zT fun K25 hK25 => ?_
                        simp only [amset, amlib, zset, eq_self, ↓reduceIte, reduceCtorEq, Nat.reduceBEq, Nat.reduceEqDiff, Nat.reduceAdd, Nat.reduceMul, Nat.reduceLeDiff, Nat.reduceLT, Nat.reduceSub]
                        refine ⟨_, holds195 _, ?_⟩
                        simp only [later]
                        simp only [amset, amlib, zset, eq_self, ↓reduceIte, reduceCtorEq, Nat.reduceBEq, Nat.reduceEqDiff, Nat.reduceAdd, Nat.reduceMul, Nat.reduceLeDiff, Nat.reduceLT, Nat.reduceSub]
                        refine hK25 _ ?_
                        clear hK25
                        refine aw_ret ?_
                        show resOf zG _ [.tmp 6, .tmp 7] = some _
                        simp only [amset, amlib, zset, eq_self, ↓reduceIte, reduceCtorEq, Nat.reduceBEq, Nat.reduceEqDiff, Nat.reduceAdd, Nat.reduceMul, Nat.reduceLeDiff, Nat.reduceLT, Nat.reduceSub]
                        simp only [binW, binX, h0, h1, h2, h3, h4, h5, h6, h7, h8, h9, h10, w16, ↓reduceIte, Bool.false_eq_true]
                      · skip
                        refine aw_skip ?_
                        simp only [thenQ, blkQ, if_true, reduceIte, Nat.reduceEqDiff, eq_self]
                        refine hK2 _ ?_
                        clear hK2
                        refine aw_ops zT fun K26 hK26 => ?_
                        simp only [amset, amlib, zset, eq_self, ↓reduceIte, reduceCtorEq, Nat.reduceBEq, Nat.reduceEqDiff, Nat.reduceAdd, Nat.reduceMul, Nat.reduceLeDiff, Nat.reduceLT, Nat.reduceSub]
                        refine hK26 _ ?_
                        clear hK26
                        refine aw_ret ?_
                        show resOf zG _ [.tmp 6, .tmp 7] = some _
                        simp only [amset, amlib, zset, eq_self, ↓reduceIte, reduceCtorEq, Nat.reduceBEq, Nat.reduceEqDiff, Nat.reduceAdd, Nat.reduceMul, Nat.reduceLeDiff, Nat.reduceLT, Nat.reduceSub]
                        simp only [binW, binX, h0, h1, h2, h3, h4, h5, h6, h7, h8, h9, h10, w16, ↓reduceIte, Bool.false_eq_true]
theorem prog78 : Tryz.prog.funcs[78]? = some Tryz.f78 := by kernel_rfl
theorem holds78 (op a b : Int) (ha : i16r a) (hb : i16r b) : Holds Tryz.prog zG 78 [.c (.int .i64 op), .c (.int .i16 a), .c (.int .i16 b)] [.c (.int .i16 (binW op a b)), .c (.int .i64 (binX op))] := by
  refine holds_of_body zT prog78 rfl rfl rfl (by simp [Tryz.f78]) ?_
  refine aw_ops zT fun K1 hK1 => ?_
  simp only [amset, amlib, zset, eq_self, ↓reduceIte, reduceCtorEq, Nat.reduceBEq, Nat.reduceEqDiff, Nat.reduceAdd, Nat.reduceMul, Nat.reduceLeDiff, Nat.reduceLT, Nat.reduceSub]
  refine hK1 _ ?_
  clear hK1
  have ea := i64_same (n := a) (by unfold i16r at ha; omega)
  have eb := i64_same (n := b) (by unfold i16r at hb; omega)
  refine aw_ops zT fun K2 hK2 => ?_
  simp only [amset, amlib, zset, ea, eb, eq_self, ↓reduceIte, reduceCtorEq, Nat.reduceBEq, Nat.reduceEqDiff, Nat.reduceAdd, Nat.reduceMul, Nat.reduceLeDiff, Nat.reduceLT, Nat.reduceSub]
  refine hK2 _ ?_
  clear hK2
  refine aw_ops zT fun K3 hK3 => ?_
  simp only [amset, amlib, zset, eq_self, ↓reduceIte, reduceCtorEq, Nat.reduceBEq, Nat.reduceEqDiff, Nat.reduceAdd, Nat.reduceMul, Nat.reduceLeDiff, Nat.reduceLT, Nat.reduceSub]
  refine hK3 _ ?_
  clear hK3
  refine aw_seq fun K4 hK4 => ?_
  refine aw_ops zT fun K5 hK5 => ?_
  simp only [amset, amlib, zset, eq_self, ↓reduceIte, reduceCtorEq, Nat.reduceBEq, Nat.reduceEqDiff, Nat.reduceAdd, Nat.reduceMul, Nat.reduceLeDiff, Nat.reduceLT, Nat.reduceSub]
  refine hK5 _ ?_
  clear hK5
  refine aw_block ?_
  refine aw_ops zT fun K6 hK6 => ?_
  simp only [amset, amlib, zset, eq_self, ↓reduceIte, reduceCtorEq, Nat.reduceBEq, Nat.reduceEqDiff, Nat.reduceAdd, Nat.reduceMul, Nat.reduceLeDiff, Nat.reduceLT, Nat.reduceSub]
  refine hK6 _ ?_
  clear hK6
  refine aw_cond rfl (fun h0 => ?_) (fun h0 => ?_)
  · skip
    refine aw_region zT ?_
    simp only [amset, amlib, zset, eq_self, ↓reduceIte, reduceCtorEq, Nat.reduceBEq, Nat.reduceEqDiff, Nat.reduceAdd, Nat.reduceMul, Nat.reduceLeDiff, Nat.reduceLT, Nat.reduceSub]
    refine ⟨by unfold i16r at ha hb; omega, ?_⟩
    refine hK4 _ ?_
    clear hK4
    refine aw_ops zT fun K7 hK7 => ?_
    simp only [amset, amlib, zset, eq_self, ↓reduceIte, reduceCtorEq, Nat.reduceBEq, Nat.reduceEqDiff, Nat.reduceAdd, Nat.reduceMul, Nat.reduceLeDiff, Nat.reduceLT, Nat.reduceSub]
    refine ⟨_, holds151 _, ?_⟩
    simp only [later]
    simp only [amset, amlib, zset, eq_self, ↓reduceIte, reduceCtorEq, Nat.reduceBEq, Nat.reduceEqDiff, Nat.reduceAdd, Nat.reduceMul, Nat.reduceLeDiff, Nat.reduceLT, Nat.reduceSub]
    refine hK7 _ ?_
    clear hK7
    refine aw_ret ?_
    show resOf zG _ [.tmp 6, .tmp 7] = some _
    simp only [amset, amlib, zset, eq_self, ↓reduceIte, reduceCtorEq, Nat.reduceBEq, Nat.reduceEqDiff, Nat.reduceAdd, Nat.reduceMul, Nat.reduceLeDiff, Nat.reduceLT, Nat.reduceSub]
    simp only [binW, binX, h0, w16_tr, ↓reduceIte, Bool.false_eq_true]
  · skip
    refine aw_ops zT fun K8 hK8 => ?_
    simp only [amset, amlib, zset, eq_self, ↓reduceIte, reduceCtorEq, Nat.reduceBEq, Nat.reduceEqDiff, Nat.reduceAdd, Nat.reduceMul, Nat.reduceLeDiff, Nat.reduceLT, Nat.reduceSub]
    refine hK8 _ ?_
    clear hK8
    refine aw_cond rfl (fun h1 => ?_) (fun h1 => ?_)
    · skip
      refine aw_region zT ?_
      simp only [amset, amlib, zset, eq_self, ↓reduceIte, reduceCtorEq, Nat.reduceBEq, Nat.reduceEqDiff, Nat.reduceAdd, Nat.reduceMul, Nat.reduceLeDiff, Nat.reduceLT, Nat.reduceSub]
      refine ⟨by unfold i16r at ha hb; omega, ?_⟩
      refine hK4 _ ?_
      clear hK4
      refine aw_ops zT fun K9 hK9 => ?_
      simp only [amset, amlib, zset, eq_self, ↓reduceIte, reduceCtorEq, Nat.reduceBEq, Nat.reduceEqDiff, Nat.reduceAdd, Nat.reduceMul, Nat.reduceLeDiff, Nat.reduceLT, Nat.reduceSub]
      refine ⟨_, holds151 _, ?_⟩
      simp only [later]
      simp only [amset, amlib, zset, eq_self, ↓reduceIte, reduceCtorEq, Nat.reduceBEq, Nat.reduceEqDiff, Nat.reduceAdd, Nat.reduceMul, Nat.reduceLeDiff, Nat.reduceLT, Nat.reduceSub]
      refine hK9 _ ?_
      clear hK9
      refine aw_ret ?_
      show resOf zG _ [.tmp 6, .tmp 7] = some _
      simp only [amset, amlib, zset, eq_self, ↓reduceIte, reduceCtorEq, Nat.reduceBEq, Nat.reduceEqDiff, Nat.reduceAdd, Nat.reduceMul, Nat.reduceLeDiff, Nat.reduceLT, Nat.reduceSub]
      simp only [binW, binX, h0, h1, w16_tr, ↓reduceIte, Bool.false_eq_true]
    · skip
      refine aw_ops zT fun K10 hK10 => ?_
      simp only [amset, amlib, zset, eq_self, ↓reduceIte, reduceCtorEq, Nat.reduceBEq, Nat.reduceEqDiff, Nat.reduceAdd, Nat.reduceMul, Nat.reduceLeDiff, Nat.reduceLT, Nat.reduceSub]
      refine hK10 _ ?_
      clear hK10
      refine aw_cond rfl (fun h2 => ?_) (fun h2 => ?_)
      · skip
        refine aw_region zT ?_
        simp only [amset, amlib, zset, eq_self, ↓reduceIte, reduceCtorEq, Nat.reduceBEq, Nat.reduceEqDiff, Nat.reduceAdd, Nat.reduceMul, Nat.reduceLeDiff, Nat.reduceLT, Nat.reduceSub]
        refine ⟨by have := mul_range ha hb; omega, ?_⟩
        refine hK4 _ ?_
        clear hK4
        refine aw_ops zT fun K11 hK11 => ?_
        simp only [amset, amlib, zset, eq_self, ↓reduceIte, reduceCtorEq, Nat.reduceBEq, Nat.reduceEqDiff, Nat.reduceAdd, Nat.reduceMul, Nat.reduceLeDiff, Nat.reduceLT, Nat.reduceSub]
        refine ⟨_, holds151 _, ?_⟩
        simp only [later]
        simp only [amset, amlib, zset, eq_self, ↓reduceIte, reduceCtorEq, Nat.reduceBEq, Nat.reduceEqDiff, Nat.reduceAdd, Nat.reduceMul, Nat.reduceLeDiff, Nat.reduceLT, Nat.reduceSub]
        refine hK11 _ ?_
        clear hK11
        refine aw_ret ?_
        show resOf zG _ [.tmp 6, .tmp 7] = some _
        simp only [amset, amlib, zset, eq_self, ↓reduceIte, reduceCtorEq, Nat.reduceBEq, Nat.reduceEqDiff, Nat.reduceAdd, Nat.reduceMul, Nat.reduceLeDiff, Nat.reduceLT, Nat.reduceSub]
        simp only [binW, binX, h0, h1, h2, w16_tr, ↓reduceIte, Bool.false_eq_true]
      · skip
        refine aw_ops zT fun K12 hK12 => ?_
        simp only [amset, amlib, zset, eq_self, ↓reduceIte, reduceCtorEq, Nat.reduceBEq, Nat.reduceEqDiff, Nat.reduceAdd, Nat.reduceMul, Nat.reduceLeDiff, Nat.reduceLT, Nat.reduceSub]
        refine hK12 _ ?_
        clear hK12
        refine aw_cond rfl (fun h3 => ?_) (fun h3 => ?_)
        · skip
          refine aw_region zT ?_
          simp only [amset, amlib, zset, eq_self, ↓reduceIte, reduceCtorEq, Nat.reduceBEq, Nat.reduceEqDiff, Nat.reduceAdd, Nat.reduceMul, Nat.reduceLeDiff, Nat.reduceLT, Nat.reduceSub]
          refine ⟨_, holds154 a b, ?_⟩
          simp only [later]
          simp only [amset, amlib, zset, eq_self, ↓reduceIte, reduceCtorEq, Nat.reduceBEq, Nat.reduceEqDiff, Nat.reduceAdd, Nat.reduceMul, Nat.reduceLeDiff, Nat.reduceLT, Nat.reduceSub]
          refine hK4 _ ?_
          clear hK4
          refine aw_ops zT fun K13 hK13 => ?_
          simp only [amset, amlib, zset, eq_self, ↓reduceIte, reduceCtorEq, Nat.reduceBEq, Nat.reduceEqDiff, Nat.reduceAdd, Nat.reduceMul, Nat.reduceLeDiff, Nat.reduceLT, Nat.reduceSub]
          refine ⟨_, holds151 _, ?_⟩
          simp only [later]
          simp only [amset, amlib, zset, eq_self, ↓reduceIte, reduceCtorEq, Nat.reduceBEq, Nat.reduceEqDiff, Nat.reduceAdd, Nat.reduceMul, Nat.reduceLeDiff, Nat.reduceLT, Nat.reduceSub]
          refine hK13 _ ?_
          clear hK13
          refine aw_ret ?_
          show resOf zG _ [.tmp 6, .tmp 7] = some _
          simp only [amset, amlib, zset, eq_self, ↓reduceIte, reduceCtorEq, Nat.reduceBEq, Nat.reduceEqDiff, Nat.reduceAdd, Nat.reduceMul, Nat.reduceLeDiff, Nat.reduceLT, Nat.reduceSub]
          simp only [binW, binX, h0, h1, h2, h3, w16_tr, ↓reduceIte, Bool.false_eq_true, divW]
          split
          · rfl
          · rw [i64_same (by have := tdiv_cases a b ha hb; omega)]
        · skip
          refine aw_ops zT fun K14 hK14 => ?_
          simp only [amset, amlib, zset, eq_self, ↓reduceIte, reduceCtorEq, Nat.reduceBEq, Nat.reduceEqDiff, Nat.reduceAdd, Nat.reduceMul, Nat.reduceLeDiff, Nat.reduceLT, Nat.reduceSub]
          refine hK14 _ ?_
          clear hK14
          refine aw_cond rfl (fun h4 => ?_) (fun h4 => ?_)
          · skip
            refine aw_region zT ?_
            simp only [amset, amlib, zset, eq_self, ↓reduceIte, reduceCtorEq, Nat.reduceBEq, Nat.reduceEqDiff, Nat.reduceAdd, Nat.reduceMul, Nat.reduceLeDiff, Nat.reduceLT, Nat.reduceSub]
            refine ⟨_, holds155 a b ha hb, ?_⟩
            simp only [later]
            simp only [amset, amlib, zset, eq_self, ↓reduceIte, reduceCtorEq, Nat.reduceBEq, Nat.reduceEqDiff, Nat.reduceAdd, Nat.reduceMul, Nat.reduceLeDiff, Nat.reduceLT, Nat.reduceSub]
            refine hK4 _ ?_
            clear hK4
            refine aw_ops zT fun K15 hK15 => ?_
            simp only [amset, amlib, zset, eq_self, ↓reduceIte, reduceCtorEq, Nat.reduceBEq, Nat.reduceEqDiff, Nat.reduceAdd, Nat.reduceMul, Nat.reduceLeDiff, Nat.reduceLT, Nat.reduceSub]
            refine ⟨_, holds151 _, ?_⟩
            simp only [later]
            simp only [amset, amlib, zset, eq_self, ↓reduceIte, reduceCtorEq, Nat.reduceBEq, Nat.reduceEqDiff, Nat.reduceAdd, Nat.reduceMul, Nat.reduceLeDiff, Nat.reduceLT, Nat.reduceSub]
            refine hK15 _ ?_
            clear hK15
            refine aw_ret ?_
            show resOf zG _ [.tmp 6, .tmp 7] = some _
            simp only [amset, amlib, zset, eq_self, ↓reduceIte, reduceCtorEq, Nat.reduceBEq, Nat.reduceEqDiff, Nat.reduceAdd, Nat.reduceMul, Nat.reduceLeDiff, Nat.reduceLT, Nat.reduceSub]
            simp only [binW, binX, h0, h1, h2, h3, h4, w16_tr, ↓reduceIte, Bool.false_eq_true, modW]
            split
            · rfl
            · rw [w16_small (tmod_range a b ha)]
          · skip
            refine aw_ops zT fun K16 hK16 => ?_
            simp only [amset, amlib, zset, eq_self, ↓reduceIte, reduceCtorEq, Nat.reduceBEq, Nat.reduceEqDiff, Nat.reduceAdd, Nat.reduceMul, Nat.reduceLeDiff, Nat.reduceLT, Nat.reduceSub]
            refine hK16 _ ?_
            clear hK16
            refine aw_cond rfl (fun h5 => ?_) (fun h5 => ?_)
            · skip
              refine aw_region zT ?_
              simp only [amset, amlib, zset, eq_self, ↓reduceIte, reduceCtorEq, Nat.reduceBEq, Nat.reduceEqDiff, Nat.reduceAdd, Nat.reduceMul, Nat.reduceLeDiff, Nat.reduceLT, Nat.reduceSub]
              refine ⟨_, holds152 _, ?_⟩
              simp only [later]
              simp only [amset, amlib, zset, eq_self, ↓reduceIte, reduceCtorEq, Nat.reduceBEq, Nat.reduceEqDiff, Nat.reduceAdd, Nat.reduceMul, Nat.reduceLeDiff, Nat.reduceLT, Nat.reduceSub]
              refine hK4 _ ?_
              clear hK4
              refine aw_ops zT fun K17 hK17 => ?_
              simp only [amset, amlib, zset, eq_self, ↓reduceIte, reduceCtorEq, Nat.reduceBEq, Nat.reduceEqDiff, Nat.reduceAdd, Nat.reduceMul, Nat.reduceLeDiff, Nat.reduceLT, Nat.reduceSub]
              refine ⟨_, holds151 _, ?_⟩
              simp only [later]
              simp only [amset, amlib, zset, eq_self, ↓reduceIte, reduceCtorEq, Nat.reduceBEq, Nat.reduceEqDiff, Nat.reduceAdd, Nat.reduceMul, Nat.reduceLeDiff, Nat.reduceLT, Nat.reduceSub]
              refine hK17 _ ?_
              clear hK17
              refine aw_ret ?_
              show resOf zG _ [.tmp 6, .tmp 7] = some _
              simp only [amset, amlib, zset, eq_self, ↓reduceIte, reduceCtorEq, Nat.reduceBEq, Nat.reduceEqDiff, Nat.reduceAdd, Nat.reduceMul, Nat.reduceLeDiff, Nat.reduceLT, Nat.reduceSub]
              simp only [binW, binX, h0, h1, h2, h3, h4, h5, w16_tr, ↓reduceIte, Bool.false_eq_true]
            · skip
              refine aw_ops zT fun K18 hK18 => ?_
              simp only [amset, amlib, zset, eq_self, ↓reduceIte, reduceCtorEq, Nat.reduceBEq, Nat.reduceEqDiff, Nat.reduceAdd, Nat.reduceMul, Nat.reduceLeDiff, Nat.reduceLT, Nat.reduceSub]
              refine hK18 _ ?_
              clear hK18
              refine aw_cond rfl (fun h6 => ?_) (fun h6 => ?_)
              · skip
                refine aw_region zT ?_
                simp only [amset, amlib, zset, eq_self, ↓reduceIte, reduceCtorEq, Nat.reduceBEq, Nat.reduceEqDiff, Nat.reduceAdd, Nat.reduceMul, Nat.reduceLeDiff, Nat.reduceLT, Nat.reduceSub]
                refine ⟨_, holds152 _, ?_⟩
                simp only [later]
                simp only [amset, amlib, zset, eq_self, ↓reduceIte, reduceCtorEq, Nat.reduceBEq, Nat.reduceEqDiff, Nat.reduceAdd, Nat.reduceMul, Nat.reduceLeDiff, Nat.reduceLT, Nat.reduceSub]
                refine hK4 _ ?_
                clear hK4
                refine aw_ops zT fun K19 hK19 => ?_
                simp only [amset, amlib, zset, eq_self, ↓reduceIte, reduceCtorEq, Nat.reduceBEq, Nat.reduceEqDiff, Nat.reduceAdd, Nat.reduceMul, Nat.reduceLeDiff, Nat.reduceLT, Nat.reduceSub]
                refine ⟨_, holds151 _, ?_⟩
                simp only [later]
                simp only [amset, amlib, zset, eq_self, ↓reduceIte, reduceCtorEq, Nat.reduceBEq, Nat.reduceEqDiff, Nat.reduceAdd, Nat.reduceMul, Nat.reduceLeDiff, Nat.reduceLT, Nat.reduceSub]
                refine hK19 _ ?_
                clear hK19
                refine aw_ret ?_
                show resOf zG _ [.tmp 6, .tmp 7] = some _
                simp only [amset, amlib, zset, eq_self, ↓reduceIte, reduceCtorEq, Nat.reduceBEq, Nat.reduceEqDiff, Nat.reduceAdd, Nat.reduceMul, Nat.reduceLeDiff, Nat.reduceLT, Nat.reduceSub]
                simp only [binW, binX, h0, h1, h2, h3, h4, h5, h6, w16_tr, ↓reduceIte, Bool.false_eq_true]
              · skip
                refine aw_ops zT fun K20 hK20 => ?_
                simp only [amset, amlib, zset, eq_self, ↓reduceIte, reduceCtorEq, Nat.reduceBEq, Nat.reduceEqDiff, Nat.reduceAdd, Nat.reduceMul, Nat.reduceLeDiff, Nat.reduceLT, Nat.reduceSub]
                refine hK20 _ ?_
                clear hK20
                refine aw_cond rfl (fun h7 => ?_) (fun h7 => ?_)
                · skip
                  refine aw_region zT ?_
                  simp only [amset, amlib, zset, eq_self, ↓reduceIte, reduceCtorEq, Nat.reduceBEq, Nat.reduceEqDiff, Nat.reduceAdd, Nat.reduceMul, Nat.reduceLeDiff, Nat.reduceLT, Nat.reduceSub]
                  refine ⟨_, holds152 _, ?_⟩
                  simp only [later]
                  simp only [amset, amlib, zset, eq_self, ↓reduceIte, reduceCtorEq, Nat.reduceBEq, Nat.reduceEqDiff, Nat.reduceAdd, Nat.reduceMul, Nat.reduceLeDiff, Nat.reduceLT, Nat.reduceSub]
                  refine hK4 _ ?_
                  clear hK4
                  refine aw_ops zT fun K21 hK21 => ?_
                  simp only [amset, amlib, zset, eq_self, ↓reduceIte, reduceCtorEq, Nat.reduceBEq, Nat.reduceEqDiff, Nat.reduceAdd, Nat.reduceMul, Nat.reduceLeDiff, Nat.reduceLT, Nat.reduceSub]
                  refine ⟨_, holds151 _, ?_⟩
                  simp only [later]
                  simp only [amset, amlib, zset, eq_self, ↓reduceIte, reduceCtorEq, Nat.reduceBEq, Nat.reduceEqDiff, Nat.reduceAdd, Nat.reduceMul, Nat.reduceLeDiff, Nat.reduceLT, Nat.reduceSub]
                  refine hK21 _ ?_
                  clear hK21
                  refine aw_ret ?_
                  show resOf zG _ [.tmp 6, .tmp 7] = some _
                  simp only [amset, amlib, zset, eq_self, ↓reduceIte, reduceCtorEq, Nat.reduceBEq, Nat.reduceEqDiff, Nat.reduceAdd, Nat.reduceMul, Nat.reduceLeDiff, Nat.reduceLT, Nat.reduceSub]
                  simp only [binW, binX, h0, h1, h2, h3, h4, h5, h6, h7, w16_tr, ↓reduceIte, Bool.false_eq_true]
                · skip
                  refine aw_ops zT fun K22 hK22 => ?_
                  simp only [amset, amlib, zset, eq_self, ↓reduceIte, reduceCtorEq, Nat.reduceBEq, Nat.reduceEqDiff, Nat.reduceAdd, Nat.reduceMul, Nat.reduceLeDiff, Nat.reduceLT, Nat.reduceSub]
                  refine hK22 _ ?_
                  clear hK22
                  refine aw_cond rfl (fun h8 => ?_) (fun h8 => ?_)
                  · skip
                    refine aw_region zT ?_
                    simp only [amset, amlib, zset, eq_self, ↓reduceIte, reduceCtorEq, Nat.reduceBEq, Nat.reduceEqDiff, Nat.reduceAdd, Nat.reduceMul, Nat.reduceLeDiff, Nat.reduceLT, Nat.reduceSub]
                    refine ⟨_, holds152 _, ?_⟩
                    simp only [later]
                    simp only [amset, amlib, zset, eq_self, ↓reduceIte, reduceCtorEq, Nat.reduceBEq, Nat.reduceEqDiff, Nat.reduceAdd, Nat.reduceMul, Nat.reduceLeDiff, Nat.reduceLT, Nat.reduceSub]
                    refine hK4 _ ?_
                    clear hK4
                    refine aw_ops zT fun K23 hK23 => ?_
                    simp only [amset, amlib, zset, eq_self, ↓reduceIte, reduceCtorEq, Nat.reduceBEq, Nat.reduceEqDiff, Nat.reduceAdd, Nat.reduceMul, Nat.reduceLeDiff, Nat.reduceLT, Nat.reduceSub]
                    refine ⟨_, holds151 _, ?_⟩
                    simp only [later]
                    simp only [amset, amlib, zset, eq_self, ↓reduceIte, reduceCtorEq, Nat.reduceBEq, Nat.reduceEqDiff, Nat.reduceAdd, Nat.reduceMul, Nat.reduceLeDiff, Nat.reduceLT, Nat.reduceSub]
                    refine hK23 _ ?_
                    clear hK23
                    refine aw_ret ?_
                    show resOf zG _ [.tmp 6, .tmp 7] = some _
                    simp only [amset, amlib, zset, eq_self, ↓reduceIte, reduceCtorEq, Nat.reduceBEq, Nat.reduceEqDiff, Nat.reduceAdd, Nat.reduceMul, Nat.reduceLeDiff, Nat.reduceLT, Nat.reduceSub]
                    simp only [binW, binX, h0, h1, h2, h3, h4, h5, h6, h7, h8, w16_tr, ↓reduceIte, Bool.false_eq_true]
                  · skip
                    refine aw_ops zT fun K24 hK24 => ?_
                    simp only [amset, amlib, zset, eq_self, ↓reduceIte, reduceCtorEq, Nat.reduceBEq, Nat.reduceEqDiff, Nat.reduceAdd, Nat.reduceMul, Nat.reduceLeDiff, Nat.reduceLT, Nat.reduceSub]
                    refine hK24 _ ?_
                    clear hK24
                    refine aw_cond rfl (fun h9 => ?_) (fun h9 => ?_)
                    · skip
                      refine aw_region zT ?_
                      simp only [amset, amlib, zset, eq_self, ↓reduceIte, reduceCtorEq, Nat.reduceBEq, Nat.reduceEqDiff, Nat.reduceAdd, Nat.reduceMul, Nat.reduceLeDiff, Nat.reduceLT, Nat.reduceSub]
                      refine ⟨_, holds152 _, ?_⟩
                      simp only [later]
                      simp only [amset, amlib, zset, eq_self, ↓reduceIte, reduceCtorEq, Nat.reduceBEq, Nat.reduceEqDiff, Nat.reduceAdd, Nat.reduceMul, Nat.reduceLeDiff, Nat.reduceLT, Nat.reduceSub]
                      refine hK4 _ ?_
                      clear hK4
                      refine aw_ops zT fun K25 hK25 => ?_
                      simp only [amset, amlib, zset, eq_self, ↓reduceIte, reduceCtorEq, Nat.reduceBEq, Nat.reduceEqDiff, Nat.reduceAdd, Nat.reduceMul, Nat.reduceLeDiff, Nat.reduceLT, Nat.reduceSub]
                      refine ⟨_, holds151 _, ?_⟩
                      simp only [later]
                      simp only [amset, amlib, zset, eq_self, ↓reduceIte, reduceCtorEq, Nat.reduceBEq, Nat.reduceEqDiff, Nat.reduceAdd, Nat.reduceMul, Nat.reduceLeDiff, Nat.reduceLT, Nat.reduceSub]
                      refine hK25 _ ?_
                      clear hK25
                      refine aw_ret ?_
                      show resOf zG _ [.tmp 6, .tmp 7] = some _
                      simp only [amset, amlib, zset, eq_self, ↓reduceIte, reduceCtorEq, Nat.reduceBEq, Nat.reduceEqDiff, Nat.reduceAdd, Nat.reduceMul, Nat.reduceLeDiff, Nat.reduceLT, Nat.reduceSub]
                      simp only [binW, binX, h0, h1, h2, h3, h4, h5, h6, h7, h8, h9, w16_tr, ↓reduceIte, Bool.false_eq_true]
                    · skip
                      refine aw_ops zT fun K26 hK26 => ?_
                      simp only [amset, amlib, zset, eq_self, ↓reduceIte, reduceCtorEq, Nat.reduceBEq, Nat.reduceEqDiff, Nat.reduceAdd, Nat.reduceMul, Nat.reduceLeDiff, Nat.reduceLT, Nat.reduceSub]
                      refine hK26 _ ?_
                      clear hK26
                      refine aw_cond rfl (fun h10 => ?_) (fun h10 => ?_)
                      · skip
                        refine aw_region zT ?_
                        simp only [amset, amlib, zset, eq_self, ↓reduceIte, reduceCtorEq, Nat.reduceBEq, Nat.reduceEqDiff, Nat.reduceAdd, Nat.reduceMul, Nat.reduceLeDiff, Nat.reduceLT, Nat.reduceSub]
                        refine ⟨_, holds152 _, ?_⟩
                        simp only [later]
                        simp only [amset, amlib, zset, eq_self, ↓reduceIte, reduceCtorEq, Nat.reduceBEq, Nat.reduceEqDiff, Nat.reduceAdd, Nat.reduceMul, Nat.reduceLeDiff, Nat.reduceLT, Nat.reduceSub]
                        refine hK4 _ ?_
                        clear hK4
                        refine aw_ops zT fun K27 hK27 => ?_
                        simp only [amset, amlib, zset, eq_self, ↓reduceIte, reduceCtorEq, Nat.reduceBEq, Nat.reduceEqDiff, Nat.reduceAdd, Nat.reduceMul, Nat.reduceLeDiff, Nat.reduceLT, Nat.reduceSub]
                        refine ⟨_, holds151 _, ?_⟩
                        simp only [later]
                        simp only [amset, amlib, zset, eq_self, ↓reduceIte, reduceCtorEq, Nat.reduceBEq, Nat.reduceEqDiff, Nat.reduceAdd, Nat.reduceMul, Nat.reduceLeDiff, Nat.reduceLT, Nat.reduceSub]
                        refine hK27 _ ?_
                        clear hK27
                        refine aw_ret ?_
                        show resOf zG _ [.tmp 6, .tmp 7] = some _
                        simp only [amset, amlib, zset, eq_self, ↓reduceIte, reduceCtorEq, Nat.reduceBEq, Nat.reduceEqDiff, Nat.reduceAdd, Nat.reduceMul, Nat.reduceLeDiff, Nat.reduceLT, Nat.reduceSub]
                        simp only [binW, binX, h0, h1, h2, h3, h4, h5, h6, h7, h8, h9, h10, w16_tr, ↓reduceIte, Bool.false_eq_true]
                      · skip
                        refine aw_ops zT fun K28 hK28 => ?_
                        simp only [amset, amlib, zset, eq_self, ↓reduceIte, reduceCtorEq, Nat.reduceBEq, Nat.reduceEqDiff, Nat.reduceAdd, Nat.reduceMul, Nat.reduceLeDiff, Nat.reduceLT, Nat.reduceSub]
                        refine hK28 _ ?_
                        clear hK28
                        refine aw_ret ?_
                        show resOf zG _ [.tmp 6, .tmp 7] = some _
                        simp only [amset, amlib, zset, eq_self, ↓reduceIte, reduceCtorEq, Nat.reduceBEq, Nat.reduceEqDiff, Nat.reduceAdd, Nat.reduceMul, Nat.reduceLeDiff, Nat.reduceLT, Nat.reduceSub]
                        simp only [binW, binX, h0, h1, h2, h3, h4, h5, h6, h7, h8, h9, h10, w16_tr, ↓reduceIte, Bool.false_eq_true]
end Go.Proofs.Am
