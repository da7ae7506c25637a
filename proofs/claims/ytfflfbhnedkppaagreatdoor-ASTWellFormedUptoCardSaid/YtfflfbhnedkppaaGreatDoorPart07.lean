/- Part 7 of a proof that the law holds of every input of the given bulk. -/
import Derived.Test.YtfflfbhnedkppaaGreatDoorPart06
import Derived.Test.YtfflfbhnedkppaaGreatDoorPart04
import Derived.Test.YtfflfbhnedkppaaGreatDoorPart05
import Derived.WalkKit
import Derived.ProofKit
import Derived.Lib.AppendZeros
import Derived.Lib.Walk
import Derived.Test.YtfflfbhnedkppaaGreatDoorPart02
set_option autoImplicit false
set_option linter.unusedSimpArgs false
set_option linter.unusedVariables false
set_option linter.unusedSectionVars false
set_option maxRecDepth 100000
set_option maxHeartbeats 4000000
namespace Go.Proofs.Am
open Nat (reduceEqDiff reduceAdd reduceMul reduceLeDiff reduceLT reduceSub)
def wfT (t : Tk) : Bool := ident t.name && numA t.deadline && numA t.within && numA t.period && wfSs t.body && (if decide (t.period > 0) then t.channel == [] && t.param == [] && t.within == 0 else ident t.channel && ident t.param)
def okC (c : Cn) : Bool := ident c.name && signedA c.value
def okG (g : Gl) : Bool := ident g.name && numA g.len && signedA g.init && !(decide (g.len > 0) && (g.init != 0))
def okH (c : Ch) : Bool := ident c.name && numA c.cap
def wfP (p : Pg) : Bool := p.consts.all okC && p.globals.all okG && (p.sensors ++ p.outputs).all ident && p.channels.all okH && p.tasks.all wfT
theorem tasks_any (l : List Tk) : (!(l.any fun y => !wfT y)) = l.all wfT := by
 induction l with
 | nil => rfl
 | cons y r ih => rw [List.any_cons, List.all_cons, Bool.not_or, ih, Bool.not_not]
theorem prog102 : Tryz.prog.funcs[102]? = some Tryz.f102 := by kernel_rfl
theorem holds102 (t : Tk) : Holds Tryz.prog zG 102 [.agg [.str t.name, .int .i64 t.period, .int .i64 t.deadline, .str t.channel, .str t.param, .int .i64 t.within, .sl 7 (encSs t.body), .int .i64 t.pos]] [.c (.bool (wfT t))] := by
 refine holds_of_body zT prog102 rfl rfl rfl (by simp [Tryz.f102]) ?_
 refine aw_ops zT fun K1 hK1 => ?_
 refine sg ?_
 refine hK1 _ ?_
 clear hK1
 refine aw_seq fun K2 hK2 => ?_
 refine aw_ops zT fun K3 hK3 => ?_
 cases u0 : ident t.name with
 | true =>
  cases u1 : numA t.deadline with
  | true =>
   cases u2 : numA t.within with
   | true =>
    cases u3 : numA t.period with
    | true =>
     cases u4 : wfSs t.body with
     | true =>
      simp only [amset, amlib, zset, u0, u1, u2, u3, u4, eq_self, ↓reduceIte, reduceCtorEq, Nat.reduceBEq, reduceEqDiff, reduceAdd, reduceMul, reduceLeDiff, reduceLT, reduceSub]
      refine ⟨_, holds96 _, ?_⟩
      simp only [later]
      simp only [amset, amlib, zset, u0, u1, u2, u3, u4, eq_self, ↓reduceIte, reduceCtorEq, Nat.reduceBEq, reduceEqDiff, reduceAdd, reduceMul, reduceLeDiff, reduceLT, reduceSub]
      refine ⟨_, holds98 _, ?_⟩
      simp only [later]
      simp only [amset, amlib, zset, u0, u1, u2, u3, u4, eq_self, ↓reduceIte, reduceCtorEq, Nat.reduceBEq, reduceEqDiff, reduceAdd, reduceMul, reduceLeDiff, reduceLT, reduceSub]
      refine ⟨_, holds98 _, ?_⟩
      simp only [later]
      simp only [amset, amlib, zset, u0, u1, u2, u3, u4, eq_self, ↓reduceIte, reduceCtorEq, Nat.reduceBEq, reduceEqDiff, reduceAdd, reduceMul, reduceLeDiff, reduceLT, reduceSub]
      refine ⟨_, holds98 _, ?_⟩
      simp only [later]
      simp only [amset, amlib, zset, u0, u1, u2, u3, u4, eq_self, ↓reduceIte, reduceCtorEq, Nat.reduceBEq, reduceEqDiff, reduceAdd, reduceMul, reduceLeDiff, reduceLT, reduceSub]
      refine ⟨_, holds174 t.body, ?_⟩
      simp only [later]
      simp only [amset, amlib, zset, u0, u1, u2, u3, u4, eq_self, ↓reduceIte, reduceCtorEq, Nat.reduceBEq, reduceEqDiff, reduceAdd, reduceMul, reduceLeDiff, reduceLT, reduceSub]
      refine hK3 _ ?_
      clear hK3
      refine aw_cond (t := false) rfl (fun h => nomatch h) (fun _ => ?_)
      refine aw_skip ?_
      simp only [thenQ, blkQ, if_true, reduceIte, Nat.reduceEqDiff, eq_self]
      refine hK2 _ ?_
      clear hK2
      refine aw_seq fun K4 hK4 => ?_
      refine aw_ops zT fun K5 hK5 => ?_
      refine sg ?_
      refine hK5 _ ?_
      clear hK5
      refine aw_cond rfl (fun h0 => ?_) (fun h0 => ?_)
      ·
       refine aw_ops zT fun K6 hK6 => ?_
       cases v0 : (t.channel == []) with
       | true =>
        cases v1 : (t.param == []) with
        | true =>
         simp only [amset, amlib, zset, u0, u1, u2, u3, u4, v0, v1, eq_self, ↓reduceIte, reduceCtorEq, Nat.reduceBEq, reduceEqDiff, reduceAdd, reduceMul, reduceLeDiff, reduceLT, reduceSub]
         refine hK6 _ ?_
         clear hK6
         refine aw_ret ?_
         show resOf zG _ [.tmp 2] = some _
         simp only [amset, amlib, zset, eq_self, ↓reduceIte, reduceCtorEq, Nat.reduceBEq, reduceEqDiff, reduceAdd, reduceMul, reduceLeDiff, reduceLT, reduceSub]
         simp only [wfT, u0, u1, u2, u3, u4, v0, v1, h0, bools, ↓reduceIte]
        | false =>
         simp only [amset, amlib, zset, u0, u1, u2, u3, u4, v0, v1, eq_self, ↓reduceIte, reduceCtorEq, Nat.reduceBEq, reduceEqDiff, reduceAdd, reduceMul, reduceLeDiff, reduceLT, reduceSub]
         refine hK6 _ ?_
         clear hK6
         refine aw_ret ?_
         show resOf zG _ [.tmp 2] = some _
         simp only [amset, amlib, zset, eq_self, ↓reduceIte, reduceCtorEq, Nat.reduceBEq, reduceEqDiff, reduceAdd, reduceMul, reduceLeDiff, reduceLT, reduceSub]
         simp only [wfT, u0, u1, u2, u3, u4, v0, v1, h0, bools, ↓reduceIte]
       | false =>
        simp only [amset, amlib, zset, u0, u1, u2, u3, u4, v0, eq_self, ↓reduceIte, reduceCtorEq, Nat.reduceBEq, reduceEqDiff, reduceAdd, reduceMul, reduceLeDiff, reduceLT, reduceSub]
        refine hK6 _ ?_
        clear hK6
        refine aw_ret ?_
        show resOf zG _ [.tmp 2] = some _
        simp only [amset, amlib, zset, eq_self, ↓reduceIte, reduceCtorEq, Nat.reduceBEq, reduceEqDiff, reduceAdd, reduceMul, reduceLeDiff, reduceLT, reduceSub]
        simp only [wfT, u0, u1, u2, u3, u4, v0, h0, bools, ↓reduceIte]
      ·
       refine aw_skip ?_
       simp only [thenQ, blkQ, if_true, reduceIte, Nat.reduceEqDiff, eq_self]
       refine hK4 _ ?_
       clear hK4
       refine aw_ops zT fun K7 hK7 => ?_
       cases w0 : ident t.channel with
       | true =>
        simp only [amset, amlib, zset, u0, u1, u2, u3, u4, w0, eq_self, ↓reduceIte, reduceCtorEq, Nat.reduceBEq, reduceEqDiff, reduceAdd, reduceMul, reduceLeDiff, reduceLT, reduceSub]
        refine ⟨_, holds96 _, ?_⟩
        simp only [later]
        simp only [amset, amlib, zset, u0, u1, u2, u3, u4, w0, eq_self, ↓reduceIte, reduceCtorEq, Nat.reduceBEq, reduceEqDiff, reduceAdd, reduceMul, reduceLeDiff, reduceLT, reduceSub]
        refine ⟨_, holds96 _, ?_⟩
        simp only [later]
        simp only [amset, amlib, zset, u0, u1, u2, u3, u4, w0, eq_self, ↓reduceIte, reduceCtorEq, Nat.reduceBEq, reduceEqDiff, reduceAdd, reduceMul, reduceLeDiff, reduceLT, reduceSub]
        refine hK7 _ ?_
        clear hK7
        refine aw_ret ?_
        show resOf zG _ [.tmp 2] = some _
        simp only [amset, amlib, zset, eq_self, ↓reduceIte, reduceCtorEq, Nat.reduceBEq, reduceEqDiff, reduceAdd, reduceMul, reduceLeDiff, reduceLT, reduceSub]
        simp only [wfT, u0, u1, u2, u3, u4, w0, h0, bools, ↓reduceIte]
       | false =>
        simp only [amset, amlib, zset, u0, u1, u2, u3, u4, w0, eq_self, ↓reduceIte, reduceCtorEq, Nat.reduceBEq, reduceEqDiff, reduceAdd, reduceMul, reduceLeDiff, reduceLT, reduceSub]
        refine ⟨_, holds96 _, ?_⟩
        simp only [later]
        simp only [amset, amlib, zset, u0, u1, u2, u3, u4, w0, eq_self, ↓reduceIte, reduceCtorEq, Nat.reduceBEq, reduceEqDiff, reduceAdd, reduceMul, reduceLeDiff, reduceLT, reduceSub]
        refine hK7 _ ?_
        clear hK7
        refine aw_ret ?_
        show resOf zG _ [.tmp 2] = some _
        simp only [amset, amlib, zset, eq_self, ↓reduceIte, reduceCtorEq, Nat.reduceBEq, reduceEqDiff, reduceAdd, reduceMul, reduceLeDiff, reduceLT, reduceSub]
        simp only [wfT, u0, u1, u2, u3, u4, w0, h0, bools, ↓reduceIte]
     | false =>
      simp only [amset, amlib, zset, u0, u1, u2, u3, u4, eq_self, ↓reduceIte, reduceCtorEq, Nat.reduceBEq, reduceEqDiff, reduceAdd, reduceMul, reduceLeDiff, reduceLT, reduceSub]
      refine ⟨_, holds96 _, ?_⟩
      simp only [later]
      simp only [amset, amlib, zset, u0, u1, u2, u3, u4, eq_self, ↓reduceIte, reduceCtorEq, Nat.reduceBEq, reduceEqDiff, reduceAdd, reduceMul, reduceLeDiff, reduceLT, reduceSub]
      refine ⟨_, holds98 _, ?_⟩
      simp only [later]
      simp only [amset, amlib, zset, u0, u1, u2, u3, u4, eq_self, ↓reduceIte, reduceCtorEq, Nat.reduceBEq, reduceEqDiff, reduceAdd, reduceMul, reduceLeDiff, reduceLT, reduceSub]
      refine ⟨_, holds98 _, ?_⟩
      simp only [later]
      simp only [amset, amlib, zset, u0, u1, u2, u3, u4, eq_self, ↓reduceIte, reduceCtorEq, Nat.reduceBEq, reduceEqDiff, reduceAdd, reduceMul, reduceLeDiff, reduceLT, reduceSub]
      refine ⟨_, holds98 _, ?_⟩
      simp only [later]
      simp only [amset, amlib, zset, u0, u1, u2, u3, u4, eq_self, ↓reduceIte, reduceCtorEq, Nat.reduceBEq, reduceEqDiff, reduceAdd, reduceMul, reduceLeDiff, reduceLT, reduceSub]
      refine ⟨_, holds174 t.body, ?_⟩
      simp only [later]
      simp only [amset, amlib, zset, u0, u1, u2, u3, u4, eq_self, ↓reduceIte, reduceCtorEq, Nat.reduceBEq, reduceEqDiff, reduceAdd, reduceMul, reduceLeDiff, reduceLT, reduceSub]
      refine hK3 _ ?_
      clear hK3
      refine aw_cond (t := true) rfl (fun _ => ?_) (fun h => nomatch h)
      refine aw_ops zT fun K8 hK8 => ?_
      refine sg ?_
      refine hK8 _ ?_
      clear hK8
      refine aw_ret ?_
      show resOf zG _ [.tmp 2] = some _
      simp only [amset, amlib, zset, eq_self, ↓reduceIte, reduceCtorEq, Nat.reduceBEq, reduceEqDiff, reduceAdd, reduceMul, reduceLeDiff, reduceLT, reduceSub]
      simp only [wfT, u0, u1, u2, u3, u4, bools, ↓reduceIte]
    | false =>
     simp only [amset, amlib, zset, u0, u1, u2, u3, eq_self, ↓reduceIte, reduceCtorEq, Nat.reduceBEq, reduceEqDiff, reduceAdd, reduceMul, reduceLeDiff, reduceLT, reduceSub]
     refine ⟨_, holds96 _, ?_⟩
     simp only [later]
     simp only [amset, amlib, zset, u0, u1, u2, u3, eq_self, ↓reduceIte, reduceCtorEq, Nat.reduceBEq, reduceEqDiff, reduceAdd, reduceMul, reduceLeDiff, reduceLT, reduceSub]
     refine ⟨_, holds98 _, ?_⟩
     simp only [later]
     simp only [amset, amlib, zset, u0, u1, u2, u3, eq_self, ↓reduceIte, reduceCtorEq, Nat.reduceBEq, reduceEqDiff, reduceAdd, reduceMul, reduceLeDiff, reduceLT, reduceSub]
     refine ⟨_, holds98 _, ?_⟩
     simp only [later]
     simp only [amset, amlib, zset, u0, u1, u2, u3, eq_self, ↓reduceIte, reduceCtorEq, Nat.reduceBEq, reduceEqDiff, reduceAdd, reduceMul, reduceLeDiff, reduceLT, reduceSub]
     refine ⟨_, holds98 _, ?_⟩
     simp only [later]
     simp only [amset, amlib, zset, u0, u1, u2, u3, eq_self, ↓reduceIte, reduceCtorEq, Nat.reduceBEq, reduceEqDiff, reduceAdd, reduceMul, reduceLeDiff, reduceLT, reduceSub]
     refine hK3 _ ?_
     clear hK3
     refine aw_cond (t := true) rfl (fun _ => ?_) (fun h => nomatch h)
     refine aw_ops zT fun K9 hK9 => ?_
     refine sg ?_
     refine hK9 _ ?_
     clear hK9
     refine aw_ret ?_
     show resOf zG _ [.tmp 2] = some _
     simp only [amset, amlib, zset, eq_self, ↓reduceIte, reduceCtorEq, Nat.reduceBEq, reduceEqDiff, reduceAdd, reduceMul, reduceLeDiff, reduceLT, reduceSub]
     simp only [wfT, u0, u1, u2, u3, bools, ↓reduceIte]
   | false =>
    simp only [amset, amlib, zset, u0, u1, u2, eq_self, ↓reduceIte, reduceCtorEq, Nat.reduceBEq, reduceEqDiff, reduceAdd, reduceMul, reduceLeDiff, reduceLT, reduceSub]
    refine ⟨_, holds96 _, ?_⟩
    simp only [later]
    simp only [amset, amlib, zset, u0, u1, u2, eq_self, ↓reduceIte, reduceCtorEq, Nat.reduceBEq, reduceEqDiff, reduceAdd, reduceMul, reduceLeDiff, reduceLT, reduceSub]
    refine ⟨_, holds98 _, ?_⟩
    simp only [later]
    simp only [amset, amlib, zset, u0, u1, u2, eq_self, ↓reduceIte, reduceCtorEq, Nat.reduceBEq, reduceEqDiff, reduceAdd, reduceMul, reduceLeDiff, reduceLT, reduceSub]
    refine ⟨_, holds98 _, ?_⟩
    simp only [later]
    simp only [amset, amlib, zset, u0, u1, u2, eq_self, ↓reduceIte, reduceCtorEq, Nat.reduceBEq, reduceEqDiff, reduceAdd, reduceMul, reduceLeDiff, reduceLT, reduceSub]
    refine hK3 _ ?_
    clear hK3
    refine aw_cond (t := true) rfl (fun _ => ?_) (fun h => nomatch h)
    refine aw_ops zT fun K10 hK10 => ?_
    refine sg ?_
    refine hK10 _ ?_
    clear hK10
    refine aw_ret ?_
    show resOf zG _ [.tmp 2] = some _
    simp only [amset, amlib, zset, eq_self, ↓reduceIte, reduceCtorEq, Nat.reduceBEq, reduceEqDiff, reduceAdd, reduceMul, reduceLeDiff, reduceLT, reduceSub]
    simp only [wfT, u0, u1, u2, bools, ↓reduceIte]
  | false =>
   simp only [amset, amlib, zset, u0, u1, eq_self, ↓reduceIte, reduceCtorEq, Nat.reduceBEq, reduceEqDiff, reduceAdd, reduceMul, reduceLeDiff, reduceLT, reduceSub]
   refine ⟨_, holds96 _, ?_⟩
   simp only [later]
   simp only [amset, amlib, zset, u0, u1, eq_self, ↓reduceIte, reduceCtorEq, Nat.reduceBEq, reduceEqDiff, reduceAdd, reduceMul, reduceLeDiff, reduceLT, reduceSub]
   refine ⟨_, holds98 _, ?_⟩
   simp only [later]
   simp only [amset, amlib, zset, u0, u1, eq_self, ↓reduceIte, reduceCtorEq, Nat.reduceBEq, reduceEqDiff, reduceAdd, reduceMul, reduceLeDiff, reduceLT, reduceSub]
   refine hK3 _ ?_
   clear hK3
   refine aw_cond (t := true) rfl (fun _ => ?_) (fun h => nomatch h)
   refine aw_ops zT fun K11 hK11 => ?_
   refine sg ?_
   refine hK11 _ ?_
   clear hK11
   refine aw_ret ?_
   show resOf zG _ [.tmp 2] = some _
   simp only [amset, amlib, zset, eq_self, ↓reduceIte, reduceCtorEq, Nat.reduceBEq, reduceEqDiff, reduceAdd, reduceMul, reduceLeDiff, reduceLT, reduceSub]
   simp only [wfT, u0, u1, bools, ↓reduceIte]
 | false =>
  simp only [amset, amlib, zset, u0, eq_self, ↓reduceIte, reduceCtorEq, Nat.reduceBEq, reduceEqDiff, reduceAdd, reduceMul, reduceLeDiff, reduceLT, reduceSub]
  refine ⟨_, holds96 _, ?_⟩
  simp only [later]
  simp only [amset, amlib, zset, u0, eq_self, ↓reduceIte, reduceCtorEq, Nat.reduceBEq, reduceEqDiff, reduceAdd, reduceMul, reduceLeDiff, reduceLT, reduceSub]
  refine hK3 _ ?_
  clear hK3
  refine aw_cond (t := true) rfl (fun _ => ?_) (fun h => nomatch h)
  refine aw_ops zT fun K12 hK12 => ?_
  refine sg ?_
  refine hK12 _ ?_
  clear hK12
  refine aw_ret ?_
  show resOf zG _ [.tmp 2] = some _
  simp only [amset, amlib, zset, eq_self, ↓reduceIte, reduceCtorEq, Nat.reduceBEq, reduceEqDiff, reduceAdd, reduceMul, reduceLeDiff, reduceLT, reduceSub]
  simp only [wfT, u0, bools, ↓reduceIte]
theorem prog101 : Tryz.prog.funcs[101]? = some Tryz.f101 := by kernel_rfl
theorem holds101 (t : Tk) : Holds Tryz.prog zG 101 [.agg [.str t.name, .int .i64 t.period, .int .i64 t.deadline, .str t.channel, .str t.param, .int .i64 t.within, .sl 7 (encSs t.body), .int .i64 t.pos]] [.c (.bool (!wfT t))] := by
 refine holds_of_body zT prog101 rfl rfl rfl (by simp [Tryz.f101]) ?_
 refine aw_ops zT fun K1 hK1 => ?_
 refine sg ?_
 refine hK1 _ ?_
 clear hK1
 refine aw_ops zT fun K2 hK2 => ?_
 refine sg ?_
 refine ⟨_, holds102 t, ?_⟩
 refine sgl ?_
 refine hK2 _ ?_
 clear hK2
 refine aw_ret ?_
 show resOf zG _ [.tmp 2] = some _
 simp only [amset, amlib, zset, eq_self, ↓reduceIte, reduceCtorEq, Nat.reduceBEq, reduceEqDiff, reduceAdd, reduceMul, reduceLeDiff, reduceLT, reduceSub]
theorem prog36 : Tryz.prog.funcs[36]? = some Tryz.f36 := by kernel_rfl
end Go.Proofs.Am
set_option maxRecDepth 100000
set_option maxHeartbeats 4000000
namespace Go.Proofs.Am
open Nat (reduceEqDiff reduceAdd reduceMul reduceLeDiff reduceLT reduceSub)
def cnA (c : Cn) : List UInt8 := [99, 111, 110, 115, 116, 32] ++ c.name ++ [32, 61, 32] ++ Lib.itoa c.value ++ [59, 10]
def snA (s : List UInt8) : List UInt8 := [115, 101, 110, 115, 111, 114, 32] ++ s ++ [59, 10]
def ouA (s : List UInt8) : List UInt8 := [111, 117, 116, 112, 117, 116, 32] ++ s ++ [59, 10]
def chA (c : Ch) : List UInt8 := [99, 104, 97, 110, 110, 101, 108, 32] ++ c.name ++ [91] ++ Lib.itoa c.cap ++ [93, 59, 10]
def tkH (t : Tk) : List UInt8 := if decide (t.period > 0) then [32, 101, 118, 101, 114, 121, 32] ++ Lib.itoa t.period else [32, 111, 110, 32] ++ t.channel ++ [40] ++ t.param ++ [41]
def tkA (t : Tk) : List UInt8 := [116, 97, 115, 107, 32] ++ t.name ++ (tkH t ++ (optA [119, 105, 116, 104, 105, 110] t.within ++ optA [100, 101, 97, 100, 108, 105, 110, 101] t.deadline ++ [32, 123, 10] ++ (lnsA t.body [32, 32, 32, 32] ++ [125, 10])))
def fmtA (p : Pg) : List UInt8 := p.consts.flatMap cnA ++ (p.globals.flatMap varA ++ (p.sensors.flatMap snA ++ (p.outputs.flatMap ouA ++ (p.channels.flatMap chA ++ p.tasks.flatMap tkA))))
theorem zero117 : ∃ i, Tryz.prog.info? 117 = some i ∧ i.zero = some (.agg #[.pointer none, .slice none 0 0]) := by
 have h : (Tryz.prog.info? 117).map (·.zero) = some (some (.agg #[.pointer none, .slice none 0 0])) := by kernel_rfl
 obtain ⟨i, hi, hz⟩ := Option.map_eq_some_iff.1 h
 exact ⟨i, hi, hz⟩
theorem bld_new (b : Nat) (w : World) (F fp : Nat → Prop) (h : w.heap[b]? = some (.cells (Value.agg #[.pointer none, .slice none 0 0]).cells 117 (0, 0))) (hfp : ∀ x, fp x ↔ x = b) : bldP b [] F w fp :=
 ⟨.pointer none, .slice none 0 0, ⟨.inl rfl, h, ⟨rfl, .inl ⟨rfl, rfl⟩⟩, (by simp [Value.ownBlock]), fun _ => rfl⟩, fun x => by rw [hfp]; simp [Value.ownBlock]⟩
theorem flat_len {α : Type} {f : α → List UInt8} {l a b : List α} {y : α} (h : l = a ++ y :: b) : (l.flatMap f).length = (a.flatMap f).length + (f y).length + (b.flatMap f).length := by
 rw [h, List.flatMap_append, List.flatMap_cons]
 simp only [List.length_append]
 omega
theorem wfS_facts {x : St} (h : wfS x = true) : (1 ≤ x.kind ∧ x.kind ≤ 13) ∧ agOK x ∧ (∀ y ∈ x.args, wfA y = true) ∧ (0 ≤ x.n ∧ x.n ≤ 32767) ∧ wfSs x.body = true ∧ wfSs x.els = true := by
 have hn : (!wfS x) = false := by rw [h]; rfl
 rw [wfS_not] at hn
 simp only [bdA, Bool.or_eq_false_iff, Bool.not_eq_false', decide_eq_false_iff_not, bne_eq_false_iff_eq, List.any_eq_false, Bool.not_eq_true] at hn
 obtain ⟨⟨⟨⟨⟨⟨⟨⟨h1, h2⟩, h3⟩, h4⟩, h5⟩, h6⟩, h7⟩, h8⟩, h9⟩ := hn
 have hk : 1 ≤ x.kind ∧ x.kind ≤ 13 := by omega
 have hnum : 0 ≤ x.n ∧ x.n ≤ 32767 := by
  unfold nuA at h4
  cases hi : sI x.kind with
  | true => rw [hi] at h4; simp [numA] at h4; omega
  | false => rw [hi] at h4; simp at h4; omega
 refine ⟨hk, ?_, fun y hy => by simpa using h7 y hy, hnum, h8, h9⟩
 obtain ⟨k1, k2⟩ := hk
 have hc : x.kind = 1 ∨ x.kind = 2 ∨ x.kind = 3 ∨ x.kind = 4 ∨ x.kind = 5 ∨ x.kind = 6 ∨ x.kind = 7 ∨ x.kind = 8 ∨ x.kind = 9 ∨ x.kind = 10 ∨ x.kind = 11 ∨ x.kind = 12 ∨ x.kind = 13 := by omega
 unfold agOK
 rcases hc with e | e | e | e | e | e | e | e | e | e | e | e | e <;> rw [e] at h6 ⊢ <;> simp [sC, stR, stTab] at h6 ⊢ <;> omega
mutual
theorem wf_stmS : ∀ x : St, wfS x = true → ∀ z ∈ stmS x, wfS z = true
 | .mk k n v a b e p, h, z, hz => by
  rw [stmS_eq] at hz
  have hf := wfS_facts h
  simp only [List.mem_cons, List.mem_append] at hz
  rcases hz with rfl | hz | hz
  ·
   exact h
  ·
   exact wf_stmL b hf.2.2.2.2.1 z hz
  ·
   exact wf_stmL e hf.2.2.2.2.2 z hz
theorem wf_stmL : ∀ l : List St, wfSs l = true → ∀ z ∈ stmL l, wfS z = true
 | [], _, z, hz => by cases hz
 | x :: r, h, z, hz => by
  rw [wfSs, Bool.and_eq_true] at h
  rw [stmL, List.mem_append] at hz
  rcases hz with hz | hz
  ·
   exact wf_stmS x h.1 z hz
  ·
   exact wf_stmL r h.2 z hz
end
/-- What the statements of a program are asked beside being well-formed. -/
def sized (l : List St) : Prop := ∀ z ∈ stmL l, wdL z.args ∧ (subL z.args).length ≤ 1000000000000
theorem okSt_of {l : List St} (h : wfSs l = true) (hs : sized l) : ∀ z ∈ stmL l, okSt z := fun z hz =>
 have hf := wfS_facts (wf_stmL l h z hz)
 ⟨hf.1, hf.2.1, hf.2.2.1, (hs z hz).1, (hs z hz).2, hf.2.2.2.1⟩
structure WfP (p : Pg) : Prop where
 c : ∀ c ∈ p.consts, okC c = true
 g : ∀ c ∈ p.globals, okG c = true
 s : ∀ s ∈ p.sensors, ident s = true
 o : ∀ s ∈ p.outputs, ident s = true
 h : ∀ c ∈ p.channels, okH c = true
 t : ∀ t ∈ p.tasks, wfT t = true
theorem wfP_facts {p : Pg} (h : wfP p = true) : WfP p := by
 simp only [wfP, Bool.and_eq_true, List.all_eq_true, List.mem_append] at h
 exact ⟨h.1.1.1.1, h.1.1.1.2, fun s hs => h.1.1.2 s (.inl hs), fun s hs => h.1.1.2 s (.inr hs), h.1.2, h.2⟩
theorem varA_ne (g : Gl) : varA g ≠ [] := by
 unfold varA
 split
 ·
  simp
 ·
  split <;> simp
theorem optA_len (w : List UInt8) (n : Int) (h : 0 ≤ n ∧ n ≤ 32767) : (optA w n).length ≤ w.length + 40 := by
 have := i64_itoa n h
 unfold optA
 split
 ·
  simp
 ·
  simp only [List.length_append, List.length_cons, List.length_nil]; omega
theorem prog32 : Tryz.prog.funcs[32]? = some Tryz.f32 := by kernel_rfl
theorem holds32 (p : Pg) (h36 : Holds Tryz.prog zG 36 [.agg [.sl 3 (encCs p.consts), .sl 4 (encGs p.globals), .sl 1 (encStrs p.sensors), .sl 1 (encStrs p.outputs), .sl 3 (encHs p.channels), .sl 8 (encTs p.tasks)]] [.c (.bool (wfP p))]) (hst : ∀ t ∈ p.tasks, sized t.body) (hd : depT p.tasks ≤ 100000000000) (hci : ∀ c ∈ p.consts, i16r c.value) (hgi : ∀ g ∈ p.globals, i16r g.init) (hl : wfP p = true → (fmtA p).length ≤ 1000000000000) : HoldsO Tryz.prog zG 32 [.agg [.sl 3 (encCs p.consts), .sl 4 (encGs p.globals), .sl 1 (encStrs p.sensors), .sl 1 (encStrs p.outputs), .sl 3 (encHs p.channels), .sl 8 (encTs p.tasks)]] (empP) (some [.c (.str (if wfP p then fmtA p else []))]) (if wfP p then spentP else empP) := by
 refine holdsO_of_body zT prog32 rfl rfl rfl (by simp [Tryz.f32]) (Stab.emp) (by split; exact Stab.spent; exact Stab.emp) ?_
 refine aw_ops zT fun K1 hK1 => ?_
 refine sg ?_
 refine hK1 _ ?_
 clear hK1
 refine aw_seq fun K2 hK2 => ?_
 refine aw_ops zT fun K3 hK3 => ?_
 refine sg ?_
 refine ⟨_, h36, ?_⟩
 refine sgl ?_
 refine hK3 _ ?_
 clear hK3
 refine aw_cond rfl (fun h0 => ?_) (fun h0 => ?_)
 ·
  refine aw_ops zT fun K4 hK4 => ?_
  refine sg ?_
  refine hK4 _ ?_
  clear hK4
  refine aw_ret ?_
  try show resOf zG _ [.tmp 2] = some _ ∧ _ ∧ _
  refine sg ?_
  have hw0 : wfP p = false := by simpa using h0
  simp [hw0]
 ·
  refine aw_skip ?_
  simp only [thenQ, blkQ, if_true, reduceIte, Nat.reduceEqDiff, eq_self]
  refine hK2 _ ?_
  clear hK2
  have hwp : wfP p = true := by simpa using h0
  have hwf := wfP_facts hwp
  have hl := hl hwp
  simp only [fmtA, List.length_append, List.length_cons, List.length_nil] at hl
  refine aw_newobj rfl rfl rfl zero117 (q := fun b => bldP b []) (fun b => Stab.bld) (fun b w F fp h1 h2 => bld_new b w F fp h1 h2) tsg tsg fun b => ?_
  refine aw_seq fun K6 hK6 => ?_
  refine aw_ops zT fun K7 hK7 => ?_
  refine sg ?_
  intros
  refine hK7 _ ?_
  clear hK7
  refine aw_block ?_
  refine aw_range (α := Cn) (p.consts) (fun dn => True) (fun dn => [(22, .cell (.c (.int .i64 dn.length)))]) (fun dn => [(1000000, [.objst (bldP b (dn.flatMap cnA))])]) [] [5, 22, 23, 24, 25, 26, 27, 28, 29, 30, 31, 32, 33, 34, 35, 36, 37] [5, 1000000] trivial ?_ ?_ ?_ ?_
  ·
   simp only [amset, amlib, zset, eq_self, ↓reduceIte, reduceCtorEq, Nat.reduceBEq, reduceEqDiff, reduceAdd, reduceMul, reduceLeDiff, reduceLT, reduceSub] <;> simp [List.flatMap_nil, List.flatMap_append, List.flatMap_cons, List.append_nil, List.nil_append, List.append_assoc, List.cons_append, cnA, varA, snA, ouA, chA, tkA, tkH, h0]
  ·
   simp only [amset, amlib, zset, eq_self, ↓reduceIte, reduceCtorEq, Nat.reduceBEq, reduceEqDiff, reduceAdd, reduceMul, reduceLeDiff, reduceLT, reduceSub] <;> simp [List.flatMap_nil, List.flatMap_append, List.flatMap_cons, List.append_nil, List.nil_append, List.append_assoc, List.cons_append, cnA, varA, snA, ouA, chA, tkA, tkH, h0]
  ·
   intro hI R
   refine aw_nm ?_
   refine aw_ops zT fun K8 hK8 => ?_
   refine sg ?_
   refine hK8 _ ?_
   clear hK8
   refine aw_seq fun K9 hK9 => ?_
   refine aw_cond (t := false) (by simp [evalO, S.get, amLook]) (fun h => nomatch h) (fun _ => ?_)
   refine aw_exit ?_
   simp only [thenQ, blkQ, if_true, reduceIte, Nat.reduceEqDiff, eq_self]
   refine hK6 _ ?_
   clear hK6
   refine aw_seq fun K10 hK10 => ?_
   refine aw_ops zT fun K11 hK11 => ?_
   refine sg ?_
   intros
   refine hK11 _ ?_
   clear hK11
   refine aw_block ?_
   refine aw_range (α := Gl) (p.globals) (fun dn1 => True) (fun dn1 => [(41, .cell (.c (.int .i64 dn1.length)))]) (fun dn1 => [(1000000, [.objst (bldP b (p.consts.flatMap cnA ++ (dn1.flatMap varA)))])]) [] [7, 41, 42, 43, 44, 45, 46, 47, 48] [7, 1000000] trivial ?_ ?_ ?_ ?_
   ·
    simp only [amset, amlib, zset, eq_self, ↓reduceIte, reduceCtorEq, Nat.reduceBEq, reduceEqDiff, reduceAdd, reduceMul, reduceLeDiff, reduceLT, reduceSub] <;> simp [List.flatMap_nil, List.flatMap_append, List.flatMap_cons, List.append_nil, List.nil_append, List.append_assoc, List.cons_append, cnA, varA, snA, ouA, chA, tkA, tkH, h0]
   ·
    simp only [amset, amlib, zset, eq_self, ↓reduceIte, reduceCtorEq, Nat.reduceBEq, reduceEqDiff, reduceAdd, reduceMul, reduceLeDiff, reduceLT, reduceSub] <;> simp [List.flatMap_nil, List.flatMap_append, List.flatMap_cons, List.append_nil, List.nil_append, List.append_assoc, List.cons_append, cnA, varA, snA, ouA, chA, tkA, tkH, h0]
   ·
    intro hI1 R1
    refine aw_nm ?_
    refine aw_ops zT fun K12 hK12 => ?_
    refine sg ?_
    refine hK12 _ ?_
    clear hK12
    refine aw_seq fun K13 hK13 => ?_
    refine aw_cond (t := false) (by simp [evalO, S.get, amLook]) (fun h => nomatch h) (fun _ => ?_)
    refine aw_exit ?_
    simp only [thenQ, blkQ, if_true, reduceIte, Nat.reduceEqDiff, eq_self]
    refine hK10 _ ?_
    clear hK10
    refine aw_seq fun K14 hK14 => ?_
    refine aw_ops zT fun K15 hK15 => ?_
    refine sg ?_
    intros
    refine hK15 _ ?_
    clear hK15
    refine aw_block ?_
    refine aw_range (α := (List UInt8)) (p.sensors) (fun dn2 => True) (fun dn2 => [(52, .cell (.c (.int .i64 dn2.length)))]) (fun dn2 => [(1000000, [.objst (bldP b (p.consts.flatMap cnA ++ p.globals.flatMap varA ++ (dn2.flatMap snA)))])]) [] [9, 52, 53, 54, 55, 56, 57, 58, 59, 60] [1000000] trivial ?_ ?_ ?_ ?_
    ·
     simp only [amset, amlib, zset, eq_self, ↓reduceIte, reduceCtorEq, Nat.reduceBEq, reduceEqDiff, reduceAdd, reduceMul, reduceLeDiff, reduceLT, reduceSub] <;> simp [List.flatMap_nil, List.flatMap_append, List.flatMap_cons, List.append_nil, List.nil_append, List.append_assoc, List.cons_append, cnA, varA, snA, ouA, chA, tkA, tkH, h0]
    ·
     simp only [amset, amlib, zset, eq_self, ↓reduceIte, reduceCtorEq, Nat.reduceBEq, reduceEqDiff, reduceAdd, reduceMul, reduceLeDiff, reduceLT, reduceSub] <;> simp [List.flatMap_nil, List.flatMap_append, List.flatMap_cons, List.append_nil, List.nil_append, List.append_assoc, List.cons_append, cnA, varA, snA, ouA, chA, tkA, tkH, h0]
    ·
     intro hI2 R2
     refine aw_nm ?_
     refine aw_ops zT fun K16 hK16 => ?_
     refine sg ?_
     refine hK16 _ ?_
     clear hK16
     refine aw_seq fun K17 hK17 => ?_
     refine aw_cond (t := false) (by simp [evalO, S.get, amLook]) (fun h => nomatch h) (fun _ => ?_)
     refine aw_exit ?_
     simp only [thenQ, blkQ, if_true, reduceIte, Nat.reduceEqDiff, eq_self]
     refine hK14 _ ?_
     clear hK14
     refine aw_seq fun K18 hK18 => ?_
     refine aw_ops zT fun K19 hK19 => ?_
     refine sg ?_
     intros
     refine hK19 _ ?_
     clear hK19
     refine aw_block ?_
     refine aw_range (α := (List UInt8)) (p.outputs) (fun dn3 => True) (fun dn3 => [(64, .cell (.c (.int .i64 dn3.length)))]) (fun dn3 => [(1000000, [.objst (bldP b (p.consts.flatMap cnA ++ p.globals.flatMap varA ++ p.sensors.flatMap snA ++ (dn3.flatMap ouA)))])]) [] [11, 64, 65, 66, 67, 68, 69, 70, 71, 72] [1000000] trivial ?_ ?_ ?_ ?_
     ·
      simp only [amset, amlib, zset, eq_self, ↓reduceIte, reduceCtorEq, Nat.reduceBEq, reduceEqDiff, reduceAdd, reduceMul, reduceLeDiff, reduceLT, reduceSub] <;> simp [List.flatMap_nil, List.flatMap_append, List.flatMap_cons, List.append_nil, List.nil_append, List.append_assoc, List.cons_append, cnA, varA, snA, ouA, chA, tkA, tkH, h0]
     ·
      simp only [amset, amlib, zset, eq_self, ↓reduceIte, reduceCtorEq, Nat.reduceBEq, reduceEqDiff, reduceAdd, reduceMul, reduceLeDiff, reduceLT, reduceSub] <;> simp [List.flatMap_nil, List.flatMap_append, List.flatMap_cons, List.append_nil, List.nil_append, List.append_assoc, List.cons_append, cnA, varA, snA, ouA, chA, tkA, tkH, h0]
     ·
      intro hI3 R3
      refine aw_nm ?_
      refine aw_ops zT fun K20 hK20 => ?_
      refine sg ?_
      refine hK20 _ ?_
      clear hK20
      refine aw_seq fun K21 hK21 => ?_
      refine aw_cond (t := false) (by simp [evalO, S.get, amLook]) (fun h => nomatch h) (fun _ => ?_)
      refine aw_exit ?_
      simp only [thenQ, blkQ, if_true, reduceIte, Nat.reduceEqDiff, eq_self]
      refine hK18 _ ?_
      clear hK18
      refine aw_seq fun K22 hK22 => ?_
      refine aw_ops zT fun K23 hK23 => ?_
      refine sg ?_
      intros
      refine hK23 _ ?_
      clear hK23
      refine aw_block ?_
      refine aw_range (α := Ch) (p.channels) (fun dn4 => True) (fun dn4 => [(76, .cell (.c (.int .i64 dn4.length)))]) (fun dn4 => [(1000000, [.objst (bldP b (p.consts.flatMap cnA ++ p.globals.flatMap varA ++ p.sensors.flatMap snA ++ p.outputs.flatMap ouA ++ (dn4.flatMap chA)))])]) [] [13, 76, 77, 78, 79, 80, 81, 82, 83, 84, 85, 86, 87, 88, 89, 90] [13, 1000000] trivial ?_ ?_ ?_ ?_
      ·
       simp only [amset, amlib, zset, eq_self, ↓reduceIte, reduceCtorEq, Nat.reduceBEq, reduceEqDiff, reduceAdd, reduceMul, reduceLeDiff, reduceLT, reduceSub] <;> simp [List.flatMap_nil, List.flatMap_append, List.flatMap_cons, List.append_nil, List.nil_append, List.append_assoc, List.cons_append, cnA, varA, snA, ouA, chA, tkA, tkH, h0]
      ·
       simp only [amset, amlib, zset, eq_self, ↓reduceIte, reduceCtorEq, Nat.reduceBEq, reduceEqDiff, reduceAdd, reduceMul, reduceLeDiff, reduceLT, reduceSub] <;> simp [List.flatMap_nil, List.flatMap_append, List.flatMap_cons, List.append_nil, List.nil_append, List.append_assoc, List.cons_append, cnA, varA, snA, ouA, chA, tkA, tkH, h0]
      ·
       intro hI4 R4
       refine aw_nm ?_
       refine aw_ops zT fun K24 hK24 => ?_
       refine sg ?_
       refine hK24 _ ?_
       clear hK24
       refine aw_seq fun K25 hK25 => ?_
       refine aw_cond (t := false) (by simp [evalO, S.get, amLook]) (fun h => nomatch h) (fun _ => ?_)
       refine aw_exit ?_
       simp only [thenQ, blkQ, if_true, reduceIte, Nat.reduceEqDiff, eq_self]
       refine hK22 _ ?_
       clear hK22
       refine aw_seq fun K26 hK26 => ?_
       refine aw_ops zT fun K27 hK27 => ?_
       refine sg ?_
       intros
       refine hK27 _ ?_
       clear hK27
       refine aw_block ?_
       refine aw_range (α := Tk) (p.tasks) (fun dn5 => True) (fun dn5 => [(94, .cell (.c (.int .i64 dn5.length)))]) (fun dn5 => [(1000000, [.objst (bldP b (p.consts.flatMap cnA ++ p.globals.flatMap varA ++ p.sensors.flatMap snA ++ p.outputs.flatMap ouA ++ p.channels.flatMap chA ++ (dn5.flatMap tkA)))])]) [] [15, 94, 95, 96, 97, 98, 99, 100, 101, 102, 103, 104, 105, 106, 107, 108, 109, 110, 111, 112, 113, 114, 115, 116, 117, 118, 119, 120, 121, 122, 123, 124, 125, 126, 127, 128, 129, 130, 131, 132] [15, 1000000] trivial ?_ ?_ ?_ ?_
       ·
        simp only [amset, amlib, zset, eq_self, ↓reduceIte, reduceCtorEq, Nat.reduceBEq, reduceEqDiff, reduceAdd, reduceMul, reduceLeDiff, reduceLT, reduceSub] <;> simp [List.flatMap_nil, List.flatMap_append, List.flatMap_cons, List.append_nil, List.nil_append, List.append_assoc, List.cons_append, cnA, varA, snA, ouA, chA, tkA, tkH, h0]
       ·
        simp only [amset, amlib, zset, eq_self, ↓reduceIte, reduceCtorEq, Nat.reduceBEq, reduceEqDiff, reduceAdd, reduceMul, reduceLeDiff, reduceLT, reduceSub] <;> simp [List.flatMap_nil, List.flatMap_append, List.flatMap_cons, List.append_nil, List.nil_append, List.append_assoc, List.cons_append, cnA, varA, snA, ouA, chA, tkA, tkH, h0]
       ·
        intro hI5 R5
        refine aw_nm ?_
        refine aw_ops zT fun K28 hK28 => ?_
        refine sg ?_
        refine hK28 _ ?_
        clear hK28
        refine aw_seq fun K29 hK29 => ?_
        refine aw_cond (t := false) (by simp [evalO, S.get, amLook]) (fun h => nomatch h) (fun _ => ?_)
        refine aw_exit ?_
        simp only [thenQ, blkQ, if_true, reduceIte, Nat.reduceEqDiff, eq_self]
        refine hK26 _ ?_
        clear hK26
        refine aw_ops zT fun K30 hK30 => ?_
        refine sg ?_
        refine ⟨_, _, holds90 _ _, ?_⟩
        refine sgl ?_
        refine hK30 _ ?_
        clear hK30
        refine aw_ret ?_
        try show resOf zG _ [.tmp 2] = some _ ∧ _ ∧ _
        simp only [amset, amlib, zset, eq_self, ↓reduceIte, reduceCtorEq, Nat.reduceBEq, reduceEqDiff, reduceAdd, reduceMul, reduceLeDiff, reduceLT, reduceSub]
        simp [hwp, fmtA]
       ·
        intro dn5 y5 td5 harg5 hI5 R5 hR5
        have hl5 : (p.tasks).length = dn5.length + (td5.length + 1) := by rw [harg5]; simp
        have hmem5 : y5 ∈ p.tasks := by rw [harg5]; simp
        refine aw_nm ?_
        have hget5 : (encTs (p.tasks)).getD dn5.length [] = encT y5 := by rw [harg5]; exact encTs_mid dn5 td5 y5
        have hlen5 := flat_len (f := tkA) harg5
        have hwy5 := hwf.t y5 hmem5
        refine aw_ops zT fun K31 hK31 => ?_
        refine sg ?_
        refine hK31 _ ?_
        clear hK31
        refine aw_seq fun K32 hK32 => ?_
        refine aw_cond (t := true) (by simp [evalO, S.get, amLook]; omega) (fun _ => ?_) (fun h => nomatch h)
        refine aw_skip ?_
        simp only [thenQ, blkQ, if_true, reduceIte, Nat.reduceEqDiff, eq_self]
        refine hK32 _ ?_
        clear hK32
        refine aw_seq fun K33 hK33 => ?_
        refine aw_block ?_
        refine aw_ops zT fun K34 hK34 => ?_
        simp only [amset, amlib, zset, hget5, eq_self, ↓reduceIte, reduceCtorEq, Nat.reduceBEq, reduceEqDiff, reduceAdd, reduceMul, reduceLeDiff, reduceLT, reduceSub]
        refine ⟨⟨by omega, by omega⟩, ?_⟩
        refine hK34 _ ?_
        clear hK34
        simp only [wfT, Bool.and_eq_true] at hwy5
        have htn := ident_len hwy5.1.1.1.1.1
        have hdl : 0 ≤ y5.deadline ∧ y5.deadline ≤ 32767 := by have := hwy5.1.1.1.1.2; simp [numA] at this; omega
        have hwi : 0 ≤ y5.within ∧ y5.within ≤ 32767 := by have := hwy5.1.1.1.2; simp [numA] at this; omega
        have hpe : 0 ≤ y5.period ∧ y5.period ≤ 32767 := by have := hwy5.1.1.2; simp [numA] at this; omega
        have hbd := hwy5.1.2
        have hpi := i64_itoa y5.period hpe
        have ho1 : (optA [119, 105, 116, 104, 105, 110] y5.within).length ≤ 60 := Nat.le_trans (optA_len _ _ hwi) (by decide)
        have ho2 : (optA [100, 101, 97, 100, 108, 105, 110, 101] y5.deadline).length ≤ 60 := Nat.le_trans (optA_len _ _ hdl) (by decide)
        refine aw_ops zT fun K35 hK35 => ?_
        refine sg ?_
        refine ⟨by omega, ?_⟩
        refine ⟨_, _, holds85 _ _ _ (by simp only [tkA, tkH, List.length_append, List.length_cons, List.length_nil] at hlen5 ⊢; (try simp only [h0, ↓reduceIte, Bool.false_eq_true, List.length_append, List.length_cons, List.length_nil] at hlen5); omega) (by simp), ?_⟩
        refine sgl ?_
        refine hK35 _ ?_
        clear hK35
        refine aw_seq fun K36 hK36 => ?_
        refine aw_ops zT fun K37 hK37 => ?_
        refine sg ?_
        refine hK37 _ ?_
        clear hK37
        refine aw_cond rfl (fun h1 => ?_) (fun h1 => ?_)
        ·
         refine aw_region zT ?_
         refine sg ?_
         refine ⟨_, holds86 y5.period (by omega) (by omega), ?_⟩
         refine sgl ?_
         refine ⟨by omega, ?_⟩
         refine ⟨_, _, holds85 _ _ _ (by simp only [tkA, tkH, List.length_append, List.length_cons, List.length_nil] at hlen5 ⊢; (try simp only [h0, h1, ↓reduceIte, Bool.false_eq_true, List.length_append, List.length_cons, List.length_nil] at hlen5); omega) (by simp), ?_⟩
         refine sgl ?_
         refine hK36 _ ?_
         clear hK36
         refine aw_draw zT prog_mixed fun K38 hK38 => ?_
         refine sg ?_
         refine ⟨_, holds88 _ y5.within hwi (by decide), ?_⟩
         refine sgl ?_
         refine ⟨_, holds88 _ y5.deadline hdl (by decide), ?_⟩
         refine sgl ?_
         refine ⟨by omega, ?_⟩
         refine ⟨by omega, ?_⟩
         refine ⟨_, _, holds85 _ _ _ (by simp only [tkA, tkH, List.length_append, List.length_cons, List.length_nil] at hlen5 ⊢; (try simp only [h0, h1, ↓reduceIte, Bool.false_eq_true, List.length_append, List.length_cons, List.length_nil] at hlen5); omega) (by simp), ?_⟩
         refine sgl ?_
         refine ⟨by kernel_rfl, ?_⟩
         refine hK38 _ ?_
         clear hK38
         refine aw_ops zT fun K39 hK39 => ?_
         refine sg ?_
         refine ⟨_, _, holds89 _ _ _ _ (okSt_of hbd (hst y5 hmem5)) (by have := depT_mem hmem5; simp only [List.length_append, List.length_cons, List.length_nil]; omega) (by simp) (by simp only [tkA, tkH, List.length_append, List.length_cons, List.length_nil] at hlen5 ⊢; (try simp only [h0, h1, ↓reduceIte, Bool.false_eq_true, List.length_append, List.length_cons, List.length_nil] at hlen5); omega), ?_⟩
         refine sgl ?_
         refine hK39 _ ?_
         clear hK39
         refine aw_region zT ?_
         refine sg ?_
         refine ⟨_, _, holds85 _ _ _ (by simp only [tkA, tkH, List.length_append, List.length_cons, List.length_nil] at hlen5 ⊢; (try simp only [h0, h1, ↓reduceIte, Bool.false_eq_true, List.length_append, List.length_cons, List.length_nil] at hlen5); omega) (by simp), ?_⟩
         refine sgl ?_
         refine hK33 _ ?_
         clear hK33
         refine aw_region zT ?_
         refine sg ?_
         refine ⟨⟨by omega, by omega⟩, ?_⟩
         refine hR5 _ trivial ?_
         refine Reach.to ?_ ?_
         ·
          simp only [amset, amlib, zset, eq_self, ↓reduceIte, reduceCtorEq, Nat.reduceBEq, reduceEqDiff, reduceAdd, reduceMul, reduceLeDiff, reduceLT, reduceSub] <;> simp [List.flatMap_nil, List.flatMap_append, List.flatMap_cons, List.append_nil, List.nil_append, List.append_assoc, List.cons_append, cnA, varA, snA, ouA, chA, tkA, tkH, h0, h1]
         ·
          simp only [amset, amlib, zset, eq_self, ↓reduceIte, reduceCtorEq, Nat.reduceBEq, reduceEqDiff, reduceAdd, reduceMul, reduceLeDiff, reduceLT, reduceSub] <;> simp [List.flatMap_nil, List.flatMap_append, List.flatMap_cons, List.append_nil, List.nil_append, List.append_assoc, List.cons_append, cnA, varA, snA, ouA, chA, tkA, tkH, h0, h1]
        ·
         have hcp : ident y5.channel = true ∧ ident y5.param = true := by have := hwy5.2; simp only [h0, h1, Bool.false_eq_true, ↓reduceIte, Bool.and_eq_true] at this; exact this
         have hc1 := ident_len hcp.1
         have hc2 := ident_len hcp.2
         refine aw_region zT ?_
         refine sg ?_
         refine ⟨by omega, ?_⟩
         refine ⟨by omega, ?_⟩
         refine ⟨by omega, ?_⟩
         refine ⟨by omega, ?_⟩
         refine ⟨_, _, holds85 _ _ _ (by simp only [tkA, tkH, List.length_append, List.length_cons, List.length_nil] at hlen5 ⊢; (try simp only [h0, h1, ↓reduceIte, Bool.false_eq_true, List.length_append, List.length_cons, List.length_nil] at hlen5); omega) (by simp), ?_⟩
         refine sgl ?_
         refine hK36 _ ?_
         clear hK36
         refine aw_draw zT prog_mixed fun K40 hK40 => ?_
         refine sg ?_
         refine ⟨_, holds88 _ y5.within hwi (by decide), ?_⟩
         refine sgl ?_
         refine ⟨_, holds88 _ y5.deadline hdl (by decide), ?_⟩
         refine sgl ?_
         refine ⟨by omega, ?_⟩
         refine ⟨by omega, ?_⟩
         refine ⟨_, _, holds85 _ _ _ (by simp only [tkA, tkH, List.length_append, List.length_cons, List.length_nil] at hlen5 ⊢; (try simp only [h0, h1, ↓reduceIte, Bool.false_eq_true, List.length_append, List.length_cons, List.length_nil] at hlen5); omega) (by simp), ?_⟩
         refine sgl ?_
         refine ⟨by kernel_rfl, ?_⟩
         refine hK40 _ ?_
         clear hK40
         refine aw_ops zT fun K41 hK41 => ?_
         refine sg ?_
         refine ⟨_, _, holds89 _ _ _ _ (okSt_of hbd (hst y5 hmem5)) (by have := depT_mem hmem5; simp only [List.length_append, List.length_cons, List.length_nil]; omega) (by simp) (by simp only [tkA, tkH, List.length_append, List.length_cons, List.length_nil] at hlen5 ⊢; (try simp only [h0, h1, ↓reduceIte, Bool.false_eq_true, List.length_append, List.length_cons, List.length_nil] at hlen5); omega), ?_⟩
         refine sgl ?_
         refine hK41 _ ?_
         clear hK41
         refine aw_region zT ?_
         refine sg ?_
         refine ⟨_, _, holds85 _ _ _ (by simp only [tkA, tkH, List.length_append, List.length_cons, List.length_nil] at hlen5 ⊢; (try simp only [h0, h1, ↓reduceIte, Bool.false_eq_true, List.length_append, List.length_cons, List.length_nil] at hlen5); omega) (by simp), ?_⟩
         refine sgl ?_
         refine hK33 _ ?_
         clear hK33
         refine aw_region zT ?_
         refine sg ?_
         refine ⟨⟨by omega, by omega⟩, ?_⟩
         refine hR5 _ trivial ?_
         refine Reach.to ?_ ?_
         ·
          simp only [amset, amlib, zset, eq_self, ↓reduceIte, reduceCtorEq, Nat.reduceBEq, reduceEqDiff, reduceAdd, reduceMul, reduceLeDiff, reduceLT, reduceSub] <;> simp [List.flatMap_nil, List.flatMap_append, List.flatMap_cons, List.append_nil, List.nil_append, List.append_assoc, List.cons_append, cnA, varA, snA, ouA, chA, tkA, tkH, h0, h1]
         ·
          simp only [amset, amlib, zset, eq_self, ↓reduceIte, reduceCtorEq, Nat.reduceBEq, reduceEqDiff, reduceAdd, reduceMul, reduceLeDiff, reduceLT, reduceSub] <;> simp [List.flatMap_nil, List.flatMap_append, List.flatMap_cons, List.append_nil, List.nil_append, List.append_assoc, List.cons_append, cnA, varA, snA, ouA, chA, tkA, tkH, h0, h1]
      ·
       intro dn4 y4 td4 harg4 hI4 R4 hR4
       have hl4 : (p.channels).length = dn4.length + (td4.length + 1) := by rw [harg4]; simp
       have hmem4 : y4 ∈ p.channels := by rw [harg4]; simp
       refine aw_nm ?_
       have hget4 : (encHs (p.channels)).getD dn4.length [] = encH y4 := by rw [harg4]; exact encHs_mid dn4 td4 y4
       have hlen4 := flat_len (f := chA) harg4
       have hwy4 := hwf.h y4 hmem4
       refine aw_ops zT fun K42 hK42 => ?_
       refine sg ?_
       refine hK42 _ ?_
       clear hK42
       refine aw_seq fun K43 hK43 => ?_
       refine aw_cond (t := true) (by simp [evalO, S.get, amLook]; omega) (fun _ => ?_) (fun h => nomatch h)
       refine aw_skip ?_
       simp only [thenQ, blkQ, if_true, reduceIte, Nat.reduceEqDiff, eq_self]
       refine hK43 _ ?_
       clear hK43
       refine aw_seq fun K44 hK44 => ?_
       refine aw_block ?_
       refine aw_ops zT fun K45 hK45 => ?_
       simp only [amset, amlib, zset, hget4, eq_self, ↓reduceIte, reduceCtorEq, Nat.reduceBEq, reduceEqDiff, reduceAdd, reduceMul, reduceLeDiff, reduceLT, reduceSub]
       refine ⟨⟨by omega, by omega⟩, ?_⟩
       refine hK45 _ ?_
       clear hK45
       simp only [okH, Bool.and_eq_true] at hwy4
       have hnl := ident_len hwy4.1
       have hcp : 0 ≤ y4.cap ∧ y4.cap ≤ 32767 := by have := hwy4.2; simp [numA] at this; omega
       have hci4 := i64_itoa y4.cap hcp
       refine aw_draw_region zT prog_mixed ?_
       refine sg ?_
       refine ⟨by omega, ?_⟩
       refine ⟨by omega, ?_⟩
       refine ⟨_, holds86 y4.cap (by omega) (by omega), ?_⟩
       refine sgl ?_
       refine ⟨by omega, ?_⟩
       refine ⟨by omega, ?_⟩
       refine ⟨_, _, holds85 _ _ _ (by simp only [chA, List.length_append, List.length_cons, List.length_nil] at hlen4 ⊢; omega) (by simp), ?_⟩
       refine sgl ?_
       refine ⟨by kernel_rfl, ?_⟩
       refine hK44 _ ?_
       clear hK44
       refine aw_region zT ?_
       refine sg ?_
       refine ⟨⟨by omega, by omega⟩, ?_⟩
       refine hR4 _ trivial ?_
       refine Reach.to ?_ ?_
       ·
        simp only [amset, amlib, zset, eq_self, ↓reduceIte, reduceCtorEq, Nat.reduceBEq, reduceEqDiff, reduceAdd, reduceMul, reduceLeDiff, reduceLT, reduceSub] <;> simp [List.flatMap_nil, List.flatMap_append, List.flatMap_cons, List.append_nil, List.nil_append, List.append_assoc, List.cons_append, cnA, varA, snA, ouA, chA, tkA, tkH, h0]
       ·
        simp only [amset, amlib, zset, eq_self, ↓reduceIte, reduceCtorEq, Nat.reduceBEq, reduceEqDiff, reduceAdd, reduceMul, reduceLeDiff, reduceLT, reduceSub] <;> simp [List.flatMap_nil, List.flatMap_append, List.flatMap_cons, List.append_nil, List.nil_append, List.append_assoc, List.cons_append, cnA, varA, snA, ouA, chA, tkA, tkH, h0]
     ·
      intro dn3 y3 td3 harg3 hI3 R3 hR3
      have hl3 : (p.outputs).length = dn3.length + (td3.length + 1) := by rw [harg3]; simp
      have hmem3 : y3 ∈ p.outputs := by rw [harg3]; simp
      refine aw_nm ?_
      have hget3 : (encStrs (p.outputs)).getD dn3.length [] = encStr y3 := by rw [harg3]; exact encStrs_mid dn3 td3 y3
      have hlen3 := flat_len (f := ouA) harg3
      have hwy3 := hwf.o y3 hmem3
      refine aw_ops zT fun K46 hK46 => ?_
      refine sg ?_
      refine hK46 _ ?_
      clear hK46
      refine aw_seq fun K47 hK47 => ?_
      refine aw_cond (t := true) (by simp [evalO, S.get, amLook]; omega) (fun _ => ?_) (fun h => nomatch h)
      refine aw_skip ?_
      simp only [thenQ, blkQ, if_true, reduceIte, Nat.reduceEqDiff, eq_self]
      refine hK47 _ ?_
      clear hK47
      refine aw_seq fun K48 hK48 => ?_
      refine aw_block ?_
      refine aw_ops zT fun K49 hK49 => ?_
      simp only [amset, amlib, zset, hget3, eq_self, ↓reduceIte, reduceCtorEq, Nat.reduceBEq, reduceEqDiff, reduceAdd, reduceMul, reduceLeDiff, reduceLT, reduceSub]
      refine ⟨⟨by omega, by omega⟩, ?_⟩
      refine hK49 _ ?_
      clear hK49
      have hnl := ident_len hwy3
      refine aw_region zT ?_
      refine sg ?_
      refine ⟨by omega, ?_⟩
      refine ⟨by omega, ?_⟩
      refine ⟨_, _, holds85 _ _ _ (by simp only [ouA, List.length_append, List.length_cons, List.length_nil] at hlen3 ⊢; omega) (by simp), ?_⟩
      refine sgl ?_
      refine hK48 _ ?_
      clear hK48
      refine aw_region zT ?_
      refine sg ?_
      refine ⟨⟨by omega, by omega⟩, ?_⟩
      refine hR3 _ trivial ?_
      refine Reach.to ?_ ?_
      ·
       simp only [amset, amlib, zset, eq_self, ↓reduceIte, reduceCtorEq, Nat.reduceBEq, reduceEqDiff, reduceAdd, reduceMul, reduceLeDiff, reduceLT, reduceSub] <;> simp [List.flatMap_nil, List.flatMap_append, List.flatMap_cons, List.append_nil, List.nil_append, List.append_assoc, List.cons_append, cnA, varA, snA, ouA, chA, tkA, tkH, h0]
      ·
       simp only [amset, amlib, zset, eq_self, ↓reduceIte, reduceCtorEq, Nat.reduceBEq, reduceEqDiff, reduceAdd, reduceMul, reduceLeDiff, reduceLT, reduceSub] <;> simp [List.flatMap_nil, List.flatMap_append, List.flatMap_cons, List.append_nil, List.nil_append, List.append_assoc, List.cons_append, cnA, varA, snA, ouA, chA, tkA, tkH, h0]
    ·
     intro dn2 y2 td2 harg2 hI2 R2 hR2
     have hl2 : (p.sensors).length = dn2.length + (td2.length + 1) := by rw [harg2]; simp
     have hmem2 : y2 ∈ p.sensors := by rw [harg2]; simp
     refine aw_nm ?_
     have hget2 : (encStrs (p.sensors)).getD dn2.length [] = encStr y2 := by rw [harg2]; exact encStrs_mid dn2 td2 y2
     have hlen2 := flat_len (f := snA) harg2
     have hwy2 := hwf.s y2 hmem2
     refine aw_ops zT fun K50 hK50 => ?_
     refine sg ?_
     refine hK50 _ ?_
     clear hK50
     refine aw_seq fun K51 hK51 => ?_
     refine aw_cond (t := true) (by simp [evalO, S.get, amLook]; omega) (fun _ => ?_) (fun h => nomatch h)
     refine aw_skip ?_
     simp only [thenQ, blkQ, if_true, reduceIte, Nat.reduceEqDiff, eq_self]
     refine hK51 _ ?_
     clear hK51
     refine aw_seq fun K52 hK52 => ?_
     refine aw_block ?_
     refine aw_ops zT fun K53 hK53 => ?_
     simp only [amset, amlib, zset, hget2, eq_self, ↓reduceIte, reduceCtorEq, Nat.reduceBEq, reduceEqDiff, reduceAdd, reduceMul, reduceLeDiff, reduceLT, reduceSub]
     refine ⟨⟨by omega, by omega⟩, ?_⟩
     refine hK53 _ ?_
     clear hK53
     have hnl := ident_len hwy2
     refine aw_region zT ?_
     refine sg ?_
     refine ⟨by omega, ?_⟩
     refine ⟨by omega, ?_⟩
     refine ⟨_, _, holds85 _ _ _ (by simp only [snA, List.length_append, List.length_cons, List.length_nil] at hlen2 ⊢; omega) (by simp), ?_⟩
     refine sgl ?_
     refine hK52 _ ?_
     clear hK52
     refine aw_region zT ?_
     refine sg ?_
     refine ⟨⟨by omega, by omega⟩, ?_⟩
     refine hR2 _ trivial ?_
     refine Reach.to ?_ ?_
     ·
      simp only [amset, amlib, zset, eq_self, ↓reduceIte, reduceCtorEq, Nat.reduceBEq, reduceEqDiff, reduceAdd, reduceMul, reduceLeDiff, reduceLT, reduceSub] <;> simp [List.flatMap_nil, List.flatMap_append, List.flatMap_cons, List.append_nil, List.nil_append, List.append_assoc, List.cons_append, cnA, varA, snA, ouA, chA, tkA, tkH, h0]
     ·
      simp only [amset, amlib, zset, eq_self, ↓reduceIte, reduceCtorEq, Nat.reduceBEq, reduceEqDiff, reduceAdd, reduceMul, reduceLeDiff, reduceLT, reduceSub] <;> simp [List.flatMap_nil, List.flatMap_append, List.flatMap_cons, List.append_nil, List.nil_append, List.append_assoc, List.cons_append, cnA, varA, snA, ouA, chA, tkA, tkH, h0]
   ·
    intro dn1 y1 td1 harg1 hI1 R1 hR1
    have hl1 : (p.globals).length = dn1.length + (td1.length + 1) := by rw [harg1]; simp
    have hmem1 : y1 ∈ p.globals := by rw [harg1]; simp
    refine aw_nm ?_
    have hget1 : (encGs (p.globals)).getD dn1.length [] = encG y1 := by rw [harg1]; exact encGs_mid dn1 td1 y1
    have hlen1 := flat_len (f := varA) harg1
    have hwy1 := hwf.g y1 hmem1
    refine aw_ops zT fun K54 hK54 => ?_
    refine sg ?_
    refine hK54 _ ?_
    clear hK54
    refine aw_seq fun K55 hK55 => ?_
    refine aw_cond (t := true) (by simp [evalO, S.get, amLook]; omega) (fun _ => ?_) (fun h => nomatch h)
    refine aw_skip ?_
    simp only [thenQ, blkQ, if_true, reduceIte, Nat.reduceEqDiff, eq_self]
    refine hK55 _ ?_
    clear hK55
    refine aw_seq fun K56 hK56 => ?_
    refine aw_block ?_
    refine aw_ops zT fun K57 hK57 => ?_
    simp only [amset, amlib, zset, hget1, eq_self, ↓reduceIte, reduceCtorEq, Nat.reduceBEq, reduceEqDiff, reduceAdd, reduceMul, reduceLeDiff, reduceLT, reduceSub]
    refine ⟨⟨by omega, by omega⟩, ?_⟩
    refine hK57 _ ?_
    clear hK57
    have hr0 := hgi y1 hmem1
    unfold i16r at hr0
    simp only [okG, Bool.and_eq_true] at hwy1
    have hnl := ident_len hwy1.1.1.1
    have hln : y1.len ≤ 32767 := by have := hwy1.1.1.2; simp [numA] at this; omega
    refine aw_region zT ?_
    refine sg ?_
    refine ⟨_, holds87 y1 (by omega) hln hr0, ?_⟩
    refine sgl ?_
    refine ⟨_, _, holds85 _ _ _ (by simp only [List.length_append, List.length_cons, List.length_nil] at hlen1 ⊢; omega) (varA_ne y1), ?_⟩
    refine sgl ?_
    refine hK56 _ ?_
    clear hK56
    refine aw_region zT ?_
    refine sg ?_
    refine ⟨⟨by omega, by omega⟩, ?_⟩
    refine hR1 _ trivial ?_
    refine Reach.to ?_ ?_
    ·
     simp only [amset, amlib, zset, eq_self, ↓reduceIte, reduceCtorEq, Nat.reduceBEq, reduceEqDiff, reduceAdd, reduceMul, reduceLeDiff, reduceLT, reduceSub] <;> simp [List.flatMap_nil, List.flatMap_append, List.flatMap_cons, List.append_nil, List.nil_append, List.append_assoc, List.cons_append, cnA, varA, snA, ouA, chA, tkA, tkH, h0]
    ·
     simp only [amset, amlib, zset, eq_self, ↓reduceIte, reduceCtorEq, Nat.reduceBEq, reduceEqDiff, reduceAdd, reduceMul, reduceLeDiff, reduceLT, reduceSub] <;> simp [List.flatMap_nil, List.flatMap_append, List.flatMap_cons, List.append_nil, List.nil_append, List.append_assoc, List.cons_append, cnA, varA, snA, ouA, chA, tkA, tkH, h0]
  ·
   intro dn y td harg hI R hR
   have hl : (p.consts).length = dn.length + (td.length + 1) := by rw [harg]; simp
   have hmem : y ∈ p.consts := by rw [harg]; simp
   refine aw_nm ?_
   have hget : (encCs (p.consts)).getD dn.length [] = encC y := by rw [harg]; exact encCs_mid dn td y
   have hlen := flat_len (f := cnA) harg
   have hwy := hwf.c y hmem
   refine aw_ops zT fun K58 hK58 => ?_
   refine sg ?_
   refine hK58 _ ?_
   clear hK58
   refine aw_seq fun K59 hK59 => ?_
   refine aw_cond (t := true) (by simp [evalO, S.get, amLook]; omega) (fun _ => ?_) (fun h => nomatch h)
   refine aw_skip ?_
   simp only [thenQ, blkQ, if_true, reduceIte, Nat.reduceEqDiff, eq_self]
   refine hK59 _ ?_
   clear hK59
   refine aw_seq fun K60 hK60 => ?_
   refine aw_block ?_
   refine aw_ops zT fun K61 hK61 => ?_
   simp only [amset, amlib, zset, hget, eq_self, ↓reduceIte, reduceCtorEq, Nat.reduceBEq, reduceEqDiff, reduceAdd, reduceMul, reduceLeDiff, reduceLT, reduceSub]
   refine ⟨⟨by omega, by omega⟩, ?_⟩
   refine hK61 _ ?_
   clear hK61
   have hr0 := hci y hmem
   unfold i16r at hr0
   have hit := Lib.itoa_length_le y.value (by omega) (by omega)
   have ev := i64_same (n := y.value) (by omega)
   simp only [okC, Bool.and_eq_true] at hwy
   have hnl := ident_len hwy.1
   refine aw_draw_region zT prog_mixed ?_
   simp only [amset, amlib, zset, ev, eq_self, ↓reduceIte, reduceCtorEq, Nat.reduceBEq, reduceEqDiff, reduceAdd, reduceMul, reduceLeDiff, reduceLT, reduceSub]
   refine ⟨by omega, ?_⟩
   refine ⟨by omega, ?_⟩
   refine ⟨_, holds86 y.value (by omega) (by omega), ?_⟩
   simp only [later]
   simp only [amset, amlib, zset, ev, eq_self, ↓reduceIte, reduceCtorEq, Nat.reduceBEq, reduceEqDiff, reduceAdd, reduceMul, reduceLeDiff, reduceLT, reduceSub]
   refine ⟨by omega, ?_⟩
   refine ⟨by omega, ?_⟩
   refine ⟨_, _, holds85 _ _ _ (by simp only [cnA, List.length_append, List.length_cons, List.length_nil] at hlen ⊢; omega) (by simp), ?_⟩
   simp only [later]
   simp only [amset, amlib, zset, ev, eq_self, ↓reduceIte, reduceCtorEq, Nat.reduceBEq, reduceEqDiff, reduceAdd, reduceMul, reduceLeDiff, reduceLT, reduceSub]
   refine ⟨by kernel_rfl, ?_⟩
   refine hK60 _ ?_
   clear hK60
   refine aw_region zT ?_
   refine sg ?_
   refine ⟨⟨by omega, by omega⟩, ?_⟩
   refine hR _ trivial ?_
   refine Reach.to ?_ ?_
   ·
    simp only [amset, amlib, zset, eq_self, ↓reduceIte, reduceCtorEq, Nat.reduceBEq, reduceEqDiff, reduceAdd, reduceMul, reduceLeDiff, reduceLT, reduceSub] <;> simp [List.flatMap_nil, List.flatMap_append, List.flatMap_cons, List.append_nil, List.nil_append, List.append_assoc, List.cons_append, cnA, varA, snA, ouA, chA, tkA, tkH, h0]
   ·
    simp only [amset, amlib, zset, eq_self, ↓reduceIte, reduceCtorEq, Nat.reduceBEq, reduceEqDiff, reduceAdd, reduceMul, reduceLeDiff, reduceLT, reduceSub] <;> simp [List.flatMap_nil, List.flatMap_append, List.flatMap_cons, List.append_nil, List.nil_append, List.append_assoc, List.cons_append, cnA, varA, snA, ouA, chA, tkA, tkH, h0]
theorem holdsFmt (p : Pg) (h36 : Holds Tryz.prog zG 36 [.agg [.sl 3 (encCs p.consts), .sl 4 (encGs p.globals), .sl 1 (encStrs p.sensors), .sl 1 (encStrs p.outputs), .sl 3 (encHs p.channels), .sl 8 (encTs p.tasks)]] [.c (.bool (wfP p))]) (hst : ∀ t ∈ p.tasks, sized t.body) (hd : depT p.tasks ≤ 100000000000) (hci : ∀ c ∈ p.consts, i16r c.value) (hgi : ∀ g ∈ p.globals, i16r g.init) (hl : wfP p = true → (fmtA p).length ≤ 1000000000000) : Holds Tryz.prog zG 32 [.agg [.sl 3 (encCs p.consts), .sl 4 (encGs p.globals), .sl 1 (encStrs p.sensors), .sl 1 (encStrs p.outputs), .sl 3 (encHs p.channels), .sl 8 (encTs p.tasks)]] [.c (.str (if wfP p then fmtA p else []))] := Holds.of_emp (holds32 p h36 hst hd hci hgi hl)
end Go.Proofs.Am
set_option maxRecDepth 100000
set_option maxHeartbeats 4000000
namespace Go.Proofs.Am
open Nat (reduceEqDiff reduceAdd reduceMul reduceLeDiff reduceLT reduceSub)
theorem optA_zero (w : List UInt8) : optA w 0 = [] := rfl
theorem prog92 : Tryz.prog.funcs[92]? = some Tryz.f92 := by kernel_rfl
theorem holds92 (t : Tk) (hw : wfT t = true) (hok : ∀ z ∈ stmL t.body, okSt z) (hd : depM t.body ≤ 100000000000) (hl : (tkA t).length ≤ 1000000000000) : Holds Tryz.prog zG 92 [.agg [.str t.name, .int .i64 t.period, .int .i64 t.deadline, .str t.channel, .str t.param, .int .i64 t.within, .sl 7 (encSs t.body), .int .i64 t.pos]] [.c (.str (tkA t))] := by
 refine holds_of_body zT prog92 rfl rfl rfl (by simp [Tryz.f92]) ?_
 simp only [wfT, Bool.and_eq_true] at hw
 have htn := ident_len hw.1.1.1.1.1
 have hdl : 0 ≤ t.deadline ∧ t.deadline ≤ 32767 := by have := hw.1.1.1.1.2; simp [numA] at this; omega
 have hwi : 0 ≤ t.within ∧ t.within ≤ 32767 := by have := hw.1.1.1.2; simp [numA] at this; omega
 have hpe : 0 ≤ t.period ∧ t.period ≤ 32767 := by have := hw.1.1.2; simp [numA] at this; omega
 have hpi := i64_itoa t.period hpe
 have ho1 : (optA [119, 105, 116, 104, 105, 110] t.within).length ≤ 60 := Nat.le_trans (optA_len _ _ hwi) (by decide)
 have ho2 : (optA [100, 101, 97, 100, 108, 105, 110, 101] t.deadline).length ≤ 60 := Nat.le_trans (optA_len _ _ hdl) (by decide)
 simp only [tkA, tkH, List.length_append, List.length_cons, List.length_nil] at hl
 refine aw_ops zT fun K1 hK1 => ?_
 refine sg ?_
 refine hK1 _ ?_
 clear hK1
 refine aw_ops zT fun K2 hK2 => ?_
 refine sg ?_
 refine ⟨by omega, ?_⟩
 refine hK2 _ ?_
 clear hK2
 refine aw_seq fun K3 hK3 => ?_
 refine aw_ops zT fun K4 hK4 => ?_
 refine sg ?_
 refine hK4 _ ?_
 clear hK4
 refine aw_cond rfl (fun h0 => ?_) (fun h0 => ?_)
 ·
  have hpos : decide (t.period > 0) = true := by simp at h0 ⊢; omega
  have h2 := hw.2
  simp only [hpos, ↓reduceIte, Bool.and_eq_true, beq_iff_eq] at h2
  simp only [hpos, ↓reduceIte, List.length_append, List.length_cons, List.length_nil] at hl
  refine aw_region zT ?_
  refine sg ?_
  refine ⟨by (try simp only [List.length_append, List.length_cons, List.length_nil]); omega, ?_⟩
  refine ⟨_, holds91i t.period (by omega), ?_⟩
  refine sgl ?_
  refine ⟨by (try simp only [List.length_append, List.length_cons, List.length_nil]); omega, ?_⟩
  refine hK3 _ ?_
  clear hK3
  refine aw_draw zT prog_mixed fun K5 hK5 => ?_
  refine sg ?_
  refine ⟨_, holds161 _ t.deadline hdl (by decide), ?_⟩
  refine sgl ?_
  refine ⟨by (try simp only [List.length_append, List.length_cons, List.length_nil]); omega, ?_⟩
  refine ⟨by (try simp only [List.length_append, List.length_cons, List.length_nil]); omega, ?_⟩
  refine ⟨_, holds162 t.body _ hok (by (try simp only [List.length_append, List.length_cons, List.length_nil]); omega) (by omega), ?_⟩
  refine sgl ?_
  refine ⟨by (try simp only [List.length_append, List.length_cons, List.length_nil]); omega, ?_⟩
  refine ⟨by (try simp only [List.length_append, List.length_cons, List.length_nil]); omega, ?_⟩
  refine ⟨by kernel_rfl, ?_⟩
  refine hK5 _ ?_
  clear hK5
  refine aw_ret ?_
  show resOf zG _ [.tmp 2] = some _
  simp only [amset, amlib, zset, eq_self, ↓reduceIte, reduceCtorEq, Nat.reduceBEq, reduceEqDiff, reduceAdd, reduceMul, reduceLeDiff, reduceLT, reduceSub]
  simp only [tkA, tkH, hpos, h2.2, optA_zero, ↓reduceIte, Bool.false_eq_true, List.append_assoc, List.cons_append, List.nil_append]
 ·
  have hpos : decide (t.period > 0) = false := by simp at h0 ⊢; omega
  have h2 := hw.2
  simp only [hpos, ↓reduceIte, Bool.false_eq_true, Bool.and_eq_true] at h2
  have hc1 := ident_len h2.1
  have hc2 := ident_len h2.2
  simp only [hpos, ↓reduceIte, Bool.false_eq_true, List.length_append, List.length_cons, List.length_nil] at hl
  refine aw_draw_region zT prog_mixed ?_
  refine sg ?_
  refine ⟨by (try simp only [List.length_append, List.length_cons, List.length_nil]); omega, ?_⟩
  refine ⟨by (try simp only [List.length_append, List.length_cons, List.length_nil]); omega, ?_⟩
  refine ⟨by (try simp only [List.length_append, List.length_cons, List.length_nil]); omega, ?_⟩
  refine ⟨by (try simp only [List.length_append, List.length_cons, List.length_nil]); omega, ?_⟩
  refine ⟨by (try simp only [List.length_append, List.length_cons, List.length_nil]); omega, ?_⟩
  refine ⟨_, holds161 _ t.within hwi (by decide), ?_⟩
  refine sgl ?_
  refine ⟨by (try simp only [List.length_append, List.length_cons, List.length_nil]); omega, ?_⟩
  refine ⟨by kernel_rfl, ?_⟩
  refine hK3 _ ?_
  clear hK3
  refine aw_draw zT prog_mixed fun K6 hK6 => ?_
  refine sg ?_
  refine ⟨_, holds161 _ t.deadline hdl (by decide), ?_⟩
  refine sgl ?_
  refine ⟨by (try simp only [List.length_append, List.length_cons, List.length_nil]); omega, ?_⟩
  refine ⟨by (try simp only [List.length_append, List.length_cons, List.length_nil]); omega, ?_⟩
  refine ⟨_, holds162 t.body _ hok (by (try simp only [List.length_append, List.length_cons, List.length_nil]); omega) (by omega), ?_⟩
  refine sgl ?_
  refine ⟨by (try simp only [List.length_append, List.length_cons, List.length_nil]); omega, ?_⟩
  refine ⟨by (try simp only [List.length_append, List.length_cons, List.length_nil]); omega, ?_⟩
  refine ⟨by kernel_rfl, ?_⟩
  refine hK6 _ ?_
  clear hK6
  refine aw_ret ?_
  show resOf zG _ [.tmp 2] = some _
  simp only [amset, amlib, zset, eq_self, ↓reduceIte, reduceCtorEq, Nat.reduceBEq, reduceEqDiff, reduceAdd, reduceMul, reduceLeDiff, reduceLT, reduceSub]
  simp only [tkA, tkH, hpos, ↓reduceIte, Bool.false_eq_true, List.append_assoc, List.cons_append, List.nil_append]
theorem prog33 : Tryz.prog.funcs[33]? = some Tryz.f33 := by kernel_rfl
theorem holds33 (p : Pg) (h37 : Holds Tryz.prog zG 37 [.agg [.sl 3 (encCs p.consts), .sl 4 (encGs p.globals), .sl 1 (encStrs p.sensors), .sl 1 (encStrs p.outputs), .sl 3 (encHs p.channels), .sl 8 (encTs p.tasks)]] [.c (.bool (wfP p))]) (hst : ∀ t ∈ p.tasks, sized t.body) (hd : depT p.tasks ≤ 100000000000) (hci : ∀ c ∈ p.consts, i16r c.value) (hgi : ∀ g ∈ p.globals, i16r g.init) (hl : wfP p = true → (fmtA p).length ≤ 1000000000000) : Holds Tryz.prog zG 33 [.agg [.sl 3 (encCs p.consts), .sl 4 (encGs p.globals), .sl 1 (encStrs p.sensors), .sl 1 (encStrs p.outputs), .sl 3 (encHs p.channels), .sl 8 (encTs p.tasks)]] [.c (.str (if wfP p then fmtA p else []))] := by
 refine holds_of_body zT prog33 rfl rfl rfl (by simp [Tryz.f33]) ?_
 refine aw_ops zT fun K1 hK1 => ?_
 refine sg ?_
 refine hK1 _ ?_
 clear hK1
 refine aw_seq fun K2 hK2 => ?_
 refine aw_ops zT fun K3 hK3 => ?_
 refine sg ?_
 refine ⟨_, h37, ?_⟩
 refine sgl ?_
 refine hK3 _ ?_
 clear hK3
 refine aw_cond rfl (fun h0 => ?_) (fun h0 => ?_)
 ·
  refine aw_ops zT fun K4 hK4 => ?_
  refine sg ?_
  refine hK4 _ ?_
  clear hK4
  refine aw_ret ?_
  show resOf zG _ [.tmp 2] = some _
  refine sg ?_
  have hw0 : wfP p = false := by simpa using h0
  simp [hw0]
 ·
  refine aw_skip ?_
  simp only [thenQ, blkQ, if_true, reduceIte, Nat.reduceEqDiff, eq_self]
  refine hK2 _ ?_
  clear hK2
  have hwp : wfP p = true := by simpa using h0
  have hwf := wfP_facts hwp
  have hl := hl hwp
  simp only [fmtA, List.length_append, List.length_cons, List.length_nil] at hl
  refine aw_ops zT fun K5 hK5 => ?_
  refine sg ?_
  refine hK5 _ ?_
  clear hK5
  refine aw_seq fun K6 hK6 => ?_
  refine aw_ops zT fun K7 hK7 => ?_
  refine sg ?_
  intros
  refine hK7 _ ?_
  clear hK7
  refine aw_block ?_
  refine aw_range (α := Cn) (p.consts) (fun dn => True) (fun dn => [(3, .cell (.c (.str (dn.flatMap cnA)))), (22, .cell (.c (.int .i64 dn.length)))]) (fun dn => []) [] [3, 5, 22, 23, 24, 25, 26, 27, 28, 29, 30, 31, 32, 33, 34, 35, 36, 37, 38] [5] trivial ?_ ?_ ?_ ?_
  ·
   simp only [amset, amlib, zset, eq_self, ↓reduceIte, reduceCtorEq, Nat.reduceBEq, reduceEqDiff, reduceAdd, reduceMul, reduceLeDiff, reduceLT, reduceSub] <;> simp [List.flatMap_nil, List.flatMap_append, List.flatMap_cons, List.append_nil, List.nil_append, List.append_assoc, List.cons_append, cnA, varA, snA, ouA, chA, h0]
  ·
   simp only [amset, amlib, zset, eq_self, ↓reduceIte, reduceCtorEq, Nat.reduceBEq, reduceEqDiff, reduceAdd, reduceMul, reduceLeDiff, reduceLT, reduceSub] <;> simp [List.flatMap_nil, List.flatMap_append, List.flatMap_cons, List.append_nil, List.nil_append, List.append_assoc, List.cons_append, cnA, varA, snA, ouA, chA, h0]
  ·
   intro hI R
   refine aw_nm ?_
   refine aw_ops zT fun K8 hK8 => ?_
   refine sg ?_
   refine hK8 _ ?_
   clear hK8
   refine aw_seq fun K9 hK9 => ?_
   refine aw_cond (t := false) (by simp [evalO, S.get, amLook]) (fun h => nomatch h) (fun _ => ?_)
   refine aw_exit ?_
   simp only [thenQ, blkQ, if_true, reduceIte, Nat.reduceEqDiff, eq_self]
   refine hK6 _ ?_
   clear hK6
   refine aw_seq fun K10 hK10 => ?_
   refine aw_ops zT fun K11 hK11 => ?_
   refine sg ?_
   intros
   refine hK11 _ ?_
   clear hK11
   refine aw_block ?_
   refine aw_range (α := Gl) (p.globals) (fun dn1 => True) (fun dn1 => [(3, .cell (.c (.str (p.consts.flatMap cnA ++ (dn1.flatMap varA))))), (42, .cell (.c (.int .i64 dn1.length)))]) (fun dn1 => []) [] [3, 7, 42, 43, 44, 45, 46, 47, 48, 49, 50, 51, 52, 53, 54, 55, 56, 57, 58, 59, 60, 61, 62, 63, 64, 65, 66, 67, 68, 69, 70, 71, 72, 73] [7] trivial ?_ ?_ ?_ ?_
   ·
    simp only [amset, amlib, zset, eq_self, ↓reduceIte, reduceCtorEq, Nat.reduceBEq, reduceEqDiff, reduceAdd, reduceMul, reduceLeDiff, reduceLT, reduceSub] <;> simp [List.flatMap_nil, List.flatMap_append, List.flatMap_cons, List.append_nil, List.nil_append, List.append_assoc, List.cons_append, cnA, varA, snA, ouA, chA, h0]
   ·
    simp only [amset, amlib, zset, eq_self, ↓reduceIte, reduceCtorEq, Nat.reduceBEq, reduceEqDiff, reduceAdd, reduceMul, reduceLeDiff, reduceLT, reduceSub] <;> simp [List.flatMap_nil, List.flatMap_append, List.flatMap_cons, List.append_nil, List.nil_append, List.append_assoc, List.cons_append, cnA, varA, snA, ouA, chA, h0]
   ·
    intro hI1 R1
    refine aw_nm ?_
    refine aw_ops zT fun K12 hK12 => ?_
    refine sg ?_
    refine hK12 _ ?_
    clear hK12
    refine aw_seq fun K13 hK13 => ?_
    refine aw_cond (t := false) (by simp [evalO, S.get, amLook]) (fun h => nomatch h) (fun _ => ?_)
    refine aw_exit ?_
    simp only [thenQ, blkQ, if_true, reduceIte, Nat.reduceEqDiff, eq_self]
    refine hK10 _ ?_
    clear hK10
    refine aw_seq fun K14 hK14 => ?_
    refine aw_ops zT fun K15 hK15 => ?_
    refine sg ?_
    intros
    refine hK15 _ ?_
    clear hK15
    refine aw_block ?_
    refine aw_range (α := (List UInt8)) (p.sensors) (fun dn2 => True) (fun dn2 => [(3, .cell (.c (.str (p.consts.flatMap cnA ++ p.globals.flatMap varA ++ (dn2.flatMap snA))))), (77, .cell (.c (.int .i64 dn2.length)))]) (fun dn2 => []) [] [3, 9, 77, 78, 79, 80, 81, 82, 83, 84, 85, 86] [] trivial ?_ ?_ ?_ ?_
    ·
     simp only [amset, amlib, zset, eq_self, ↓reduceIte, reduceCtorEq, Nat.reduceBEq, reduceEqDiff, reduceAdd, reduceMul, reduceLeDiff, reduceLT, reduceSub] <;> simp [List.flatMap_nil, List.flatMap_append, List.flatMap_cons, List.append_nil, List.nil_append, List.append_assoc, List.cons_append, cnA, varA, snA, ouA, chA, h0]
    ·
     simp only [amset, amlib, zset, eq_self, ↓reduceIte, reduceCtorEq, Nat.reduceBEq, reduceEqDiff, reduceAdd, reduceMul, reduceLeDiff, reduceLT, reduceSub] <;> simp [List.flatMap_nil, List.flatMap_append, List.flatMap_cons, List.append_nil, List.nil_append, List.append_assoc, List.cons_append, cnA, varA, snA, ouA, chA, h0]
    ·
     intro hI2 R2
     refine aw_nm ?_
     refine aw_ops zT fun K16 hK16 => ?_
     refine sg ?_
     refine hK16 _ ?_
     clear hK16
     refine aw_seq fun K17 hK17 => ?_
     refine aw_cond (t := false) (by simp [evalO, S.get, amLook]) (fun h => nomatch h) (fun _ => ?_)
     refine aw_exit ?_
     simp only [thenQ, blkQ, if_true, reduceIte, Nat.reduceEqDiff, eq_self]
     refine hK14 _ ?_
     clear hK14
     refine aw_seq fun K18 hK18 => ?_
     refine aw_ops zT fun K19 hK19 => ?_
     refine sg ?_
     intros
     refine hK19 _ ?_
     clear hK19
     refine aw_block ?_
     refine aw_range (α := (List UInt8)) (p.outputs) (fun dn3 => True) (fun dn3 => [(3, .cell (.c (.str (p.consts.flatMap cnA ++ p.globals.flatMap varA ++ p.sensors.flatMap snA ++ (dn3.flatMap ouA))))), (90, .cell (.c (.int .i64 dn3.length)))]) (fun dn3 => []) [] [3, 11, 90, 91, 92, 93, 94, 95, 96, 97, 98, 99] [] trivial ?_ ?_ ?_ ?_
     ·
      simp only [amset, amlib, zset, eq_self, ↓reduceIte, reduceCtorEq, Nat.reduceBEq, reduceEqDiff, reduceAdd, reduceMul, reduceLeDiff, reduceLT, reduceSub] <;> simp [List.flatMap_nil, List.flatMap_append, List.flatMap_cons, List.append_nil, List.nil_append, List.append_assoc, List.cons_append, cnA, varA, snA, ouA, chA, h0]
     ·
      simp only [amset, amlib, zset, eq_self, ↓reduceIte, reduceCtorEq, Nat.reduceBEq, reduceEqDiff, reduceAdd, reduceMul, reduceLeDiff, reduceLT, reduceSub] <;> simp [List.flatMap_nil, List.flatMap_append, List.flatMap_cons, List.append_nil, List.nil_append, List.append_assoc, List.cons_append, cnA, varA, snA, ouA, chA, h0]
     ·
      intro hI3 R3
      refine aw_nm ?_
      refine aw_ops zT fun K20 hK20 => ?_
      refine sg ?_
      refine hK20 _ ?_
      clear hK20
      refine aw_seq fun K21 hK21 => ?_
      refine aw_cond (t := false) (by simp [evalO, S.get, amLook]) (fun h => nomatch h) (fun _ => ?_)
      refine aw_exit ?_
      simp only [thenQ, blkQ, if_true, reduceIte, Nat.reduceEqDiff, eq_self]
      refine hK18 _ ?_
      clear hK18
      refine aw_seq fun K22 hK22 => ?_
      refine aw_ops zT fun K23 hK23 => ?_
      refine sg ?_
      intros
      refine hK23 _ ?_
      clear hK23
      refine aw_block ?_
      refine aw_range (α := Ch) (p.channels) (fun dn4 => True) (fun dn4 => [(3, .cell (.c (.str (p.consts.flatMap cnA ++ p.globals.flatMap varA ++ p.sensors.flatMap snA ++ p.outputs.flatMap ouA ++ (dn4.flatMap chA))))), (103, .cell (.c (.int .i64 dn4.length)))]) (fun dn4 => []) [] [3, 13, 103, 104, 105, 106, 107, 108, 109, 110, 111, 112, 113, 114, 115, 116, 117, 118] [13] trivial ?_ ?_ ?_ ?_
      ·
       simp only [amset, amlib, zset, eq_self, ↓reduceIte, reduceCtorEq, Nat.reduceBEq, reduceEqDiff, reduceAdd, reduceMul, reduceLeDiff, reduceLT, reduceSub] <;> simp [List.flatMap_nil, List.flatMap_append, List.flatMap_cons, List.append_nil, List.nil_append, List.append_assoc, List.cons_append, cnA, varA, snA, ouA, chA, h0]
      ·
       simp only [amset, amlib, zset, eq_self, ↓reduceIte, reduceCtorEq, Nat.reduceBEq, reduceEqDiff, reduceAdd, reduceMul, reduceLeDiff, reduceLT, reduceSub] <;> simp [List.flatMap_nil, List.flatMap_append, List.flatMap_cons, List.append_nil, List.nil_append, List.append_assoc, List.cons_append, cnA, varA, snA, ouA, chA, h0]
      ·
       intro hI4 R4
       refine aw_nm ?_
       refine aw_ops zT fun K24 hK24 => ?_
       refine sg ?_
       refine hK24 _ ?_
       clear hK24
       refine aw_seq fun K25 hK25 => ?_
       refine aw_cond (t := false) (by simp [evalO, S.get, amLook]) (fun h => nomatch h) (fun _ => ?_)
       refine aw_exit ?_
       simp only [thenQ, blkQ, if_true, reduceIte, Nat.reduceEqDiff, eq_self]
       refine hK22 _ ?_
       clear hK22
       refine aw_seq fun K26 hK26 => ?_
       refine aw_ops zT fun K27 hK27 => ?_
       refine sg ?_
       intros
       refine hK27 _ ?_
       clear hK27
       refine aw_block ?_
       refine aw_range (α := Tk) (p.tasks) (fun dn5 => True) (fun dn5 => [(3, .cell (.c (.str (p.consts.flatMap cnA ++ p.globals.flatMap varA ++ p.sensors.flatMap snA ++ p.outputs.flatMap ouA ++ p.channels.flatMap chA ++ (dn5.flatMap tkA))))), (122, .cell (.c (.int .i64 dn5.length)))]) (fun dn5 => []) [] [3, 15, 122, 123, 124, 125, 126, 127, 128, 129, 130] [15] trivial ?_ ?_ ?_ ?_
       ·
        simp only [amset, amlib, zset, eq_self, ↓reduceIte, reduceCtorEq, Nat.reduceBEq, reduceEqDiff, reduceAdd, reduceMul, reduceLeDiff, reduceLT, reduceSub] <;> simp [List.flatMap_nil, List.flatMap_append, List.flatMap_cons, List.append_nil, List.nil_append, List.append_assoc, List.cons_append, cnA, varA, snA, ouA, chA, h0]
       ·
        simp only [amset, amlib, zset, eq_self, ↓reduceIte, reduceCtorEq, Nat.reduceBEq, reduceEqDiff, reduceAdd, reduceMul, reduceLeDiff, reduceLT, reduceSub] <;> simp [List.flatMap_nil, List.flatMap_append, List.flatMap_cons, List.append_nil, List.nil_append, List.append_assoc, List.cons_append, cnA, varA, snA, ouA, chA, h0]
       ·
        intro hI5 R5
        refine aw_nm ?_
        refine aw_ops zT fun K28 hK28 => ?_
        refine sg ?_
        refine hK28 _ ?_
        clear hK28
        refine aw_seq fun K29 hK29 => ?_
        refine aw_cond (t := false) (by simp [evalO, S.get, amLook]) (fun h => nomatch h) (fun _ => ?_)
        refine aw_exit ?_
        simp only [thenQ, blkQ, if_true, reduceIte, Nat.reduceEqDiff, eq_self]
        refine hK26 _ ?_
        clear hK26
        refine aw_ops zT fun K30 hK30 => ?_
        refine sg ?_
        refine hK30 _ ?_
        clear hK30
        refine aw_ret ?_
        show resOf zG _ [.tmp 2] = some _
        simp only [amset, amlib, zset, eq_self, ↓reduceIte, reduceCtorEq, Nat.reduceBEq, reduceEqDiff, reduceAdd, reduceMul, reduceLeDiff, reduceLT, reduceSub]
        simp [hwp, fmtA]
       ·
        intro dn5 y5 td5 harg5 hI5 R5 hR5
        have hl5 : (p.tasks).length = dn5.length + (td5.length + 1) := by rw [harg5]; simp
        have hmem5 : y5 ∈ p.tasks := by rw [harg5]; simp
        refine aw_nm ?_
        have hget5 : (encTs (p.tasks)).getD dn5.length [] = encT y5 := by rw [harg5]; exact encTs_mid dn5 td5 y5
        have hlen5 := flat_len (f := tkA) harg5
        have hwy5 := hwf.t y5 hmem5
        refine aw_ops zT fun K31 hK31 => ?_
        refine sg ?_
        refine hK31 _ ?_
        clear hK31
        refine aw_seq fun K32 hK32 => ?_
        refine aw_cond (t := true) (by simp [evalO, S.get, amLook]; omega) (fun _ => ?_) (fun h => nomatch h)
        refine aw_skip ?_
        simp only [thenQ, blkQ, if_true, reduceIte, Nat.reduceEqDiff, eq_self]
        refine hK32 _ ?_
        clear hK32
        refine aw_seq fun K33 hK33 => ?_
        refine aw_block ?_
        refine aw_ops zT fun K34 hK34 => ?_
        simp only [amset, amlib, zset, hget5, eq_self, ↓reduceIte, reduceCtorEq, Nat.reduceBEq, reduceEqDiff, reduceAdd, reduceMul, reduceLeDiff, reduceLT, reduceSub]
        refine ⟨⟨by omega, by omega⟩, ?_⟩
        refine hK34 _ ?_
        clear hK34
        refine aw_region zT ?_
        refine sg ?_
        refine ⟨_, holds92 y5 hwy5 (okSt_of (by simp only [wfT, Bool.and_eq_true] at hwy5; exact hwy5.1.2) (hst y5 hmem5)) (by have := depT_mem hmem5; omega) (by omega), ?_⟩
        refine sgl ?_
        refine ⟨by (try simp only [List.length_append, List.length_cons, List.length_nil]); omega, ?_⟩
        refine hK33 _ ?_
        clear hK33
        refine aw_region zT ?_
        refine sg ?_
        refine ⟨⟨by omega, by omega⟩, ?_⟩
        refine hR5 _ trivial ?_
        refine Reach.to ?_ ?_
        ·
         simp only [amset, amlib, zset, eq_self, ↓reduceIte, reduceCtorEq, Nat.reduceBEq, reduceEqDiff, reduceAdd, reduceMul, reduceLeDiff, reduceLT, reduceSub] <;> simp [List.flatMap_nil, List.flatMap_append, List.flatMap_cons, List.append_nil, List.nil_append, List.append_assoc, List.cons_append, cnA, varA, snA, ouA, chA, h0]
        ·
         simp only [amset, amlib, zset, eq_self, ↓reduceIte, reduceCtorEq, Nat.reduceBEq, reduceEqDiff, reduceAdd, reduceMul, reduceLeDiff, reduceLT, reduceSub] <;> simp [List.flatMap_nil, List.flatMap_append, List.flatMap_cons, List.append_nil, List.nil_append, List.append_assoc, List.cons_append, cnA, varA, snA, ouA, chA, h0]
      ·
       intro dn4 y4 td4 harg4 hI4 R4 hR4
       have hl4 : (p.channels).length = dn4.length + (td4.length + 1) := by rw [harg4]; simp
       have hmem4 : y4 ∈ p.channels := by rw [harg4]; simp
       refine aw_nm ?_
       have hget4 : (encHs (p.channels)).getD dn4.length [] = encH y4 := by rw [harg4]; exact encHs_mid dn4 td4 y4
       have hlen4 := flat_len (f := chA) harg4
       have hwy4 := hwf.h y4 hmem4
       refine aw_ops zT fun K35 hK35 => ?_
       refine sg ?_
       refine hK35 _ ?_
       clear hK35
       refine aw_seq fun K36 hK36 => ?_
       refine aw_cond (t := true) (by simp [evalO, S.get, amLook]; omega) (fun _ => ?_) (fun h => nomatch h)
       refine aw_skip ?_
       simp only [thenQ, blkQ, if_true, reduceIte, Nat.reduceEqDiff, eq_self]
       refine hK36 _ ?_
       clear hK36
       refine aw_seq fun K37 hK37 => ?_
       refine aw_block ?_
       refine aw_ops zT fun K38 hK38 => ?_
       simp only [amset, amlib, zset, hget4, eq_self, ↓reduceIte, reduceCtorEq, Nat.reduceBEq, reduceEqDiff, reduceAdd, reduceMul, reduceLeDiff, reduceLT, reduceSub]
       refine ⟨⟨by omega, by omega⟩, ?_⟩
       refine hK38 _ ?_
       clear hK38
       simp only [okH, Bool.and_eq_true] at hwy4
       have hnl := ident_len hwy4.1
       have hcp : 0 ≤ y4.cap ∧ y4.cap ≤ 32767 := by have := hwy4.2; simp [numA] at this; omega
       have hci4 := i64_itoa y4.cap hcp
       refine aw_draw_region zT prog_mixed ?_
       refine sg ?_
       refine ⟨by (try simp only [List.length_append, List.length_cons, List.length_nil]); omega, ?_⟩
       refine ⟨by (try simp only [List.length_append, List.length_cons, List.length_nil]); omega, ?_⟩
       refine ⟨by (try simp only [List.length_append, List.length_cons, List.length_nil]); omega, ?_⟩
       refine ⟨_, holds91i y4.cap (by omega), ?_⟩
       refine sgl ?_
       refine ⟨by (try simp only [List.length_append, List.length_cons, List.length_nil]); omega, ?_⟩
       refine ⟨by (try simp only [List.length_append, List.length_cons, List.length_nil]); omega, ?_⟩
       refine ⟨by kernel_rfl, ?_⟩
       refine hK37 _ ?_
       clear hK37
       refine aw_region zT ?_
       refine sg ?_
       refine ⟨⟨by omega, by omega⟩, ?_⟩
       refine hR4 _ trivial ?_
       refine Reach.to ?_ ?_
       ·
        simp only [amset, amlib, zset, eq_self, ↓reduceIte, reduceCtorEq, Nat.reduceBEq, reduceEqDiff, reduceAdd, reduceMul, reduceLeDiff, reduceLT, reduceSub] <;> simp [List.flatMap_nil, List.flatMap_append, List.flatMap_cons, List.append_nil, List.nil_append, List.append_assoc, List.cons_append, cnA, varA, snA, ouA, chA, h0]
       ·
        simp only [amset, amlib, zset, eq_self, ↓reduceIte, reduceCtorEq, Nat.reduceBEq, reduceEqDiff, reduceAdd, reduceMul, reduceLeDiff, reduceLT, reduceSub] <;> simp [List.flatMap_nil, List.flatMap_append, List.flatMap_cons, List.append_nil, List.nil_append, List.append_assoc, List.cons_append, cnA, varA, snA, ouA, chA, h0]
     ·
      intro dn3 y3 td3 harg3 hI3 R3 hR3
      have hl3 : (p.outputs).length = dn3.length + (td3.length + 1) := by rw [harg3]; simp
      have hmem3 : y3 ∈ p.outputs := by rw [harg3]; simp
      refine aw_nm ?_
      have hget3 : (encStrs (p.outputs)).getD dn3.length [] = encStr y3 := by rw [harg3]; exact encStrs_mid dn3 td3 y3
      have hlen3 := flat_len (f := ouA) harg3
      have hwy3 := hwf.o y3 hmem3
      refine aw_ops zT fun K39 hK39 => ?_
      refine sg ?_
      refine hK39 _ ?_
      clear hK39
      refine aw_seq fun K40 hK40 => ?_
      refine aw_cond (t := true) (by simp [evalO, S.get, amLook]; omega) (fun _ => ?_) (fun h => nomatch h)
      refine aw_skip ?_
      simp only [thenQ, blkQ, if_true, reduceIte, Nat.reduceEqDiff, eq_self]
      refine hK40 _ ?_
      clear hK40
      refine aw_seq fun K41 hK41 => ?_
      refine aw_block ?_
      refine aw_ops zT fun K42 hK42 => ?_
      simp only [amset, amlib, zset, hget3, eq_self, ↓reduceIte, reduceCtorEq, Nat.reduceBEq, reduceEqDiff, reduceAdd, reduceMul, reduceLeDiff, reduceLT, reduceSub]
      refine ⟨⟨by omega, by omega⟩, ?_⟩
      refine hK42 _ ?_
      clear hK42
      have hnl := ident_len hwy3
      refine aw_region zT ?_
      refine sg ?_
      refine ⟨by (try simp only [List.length_append, List.length_cons, List.length_nil]); omega, ?_⟩
      refine ⟨by (try simp only [List.length_append, List.length_cons, List.length_nil]); omega, ?_⟩
      refine ⟨by (try simp only [List.length_append, List.length_cons, List.length_nil]); omega, ?_⟩
      refine hK41 _ ?_
      clear hK41
      refine aw_region zT ?_
      refine sg ?_
      refine ⟨⟨by omega, by omega⟩, ?_⟩
      refine hR3 _ trivial ?_
      refine Reach.to ?_ ?_
      ·
       simp only [amset, amlib, zset, eq_self, ↓reduceIte, reduceCtorEq, Nat.reduceBEq, reduceEqDiff, reduceAdd, reduceMul, reduceLeDiff, reduceLT, reduceSub] <;> simp [List.flatMap_nil, List.flatMap_append, List.flatMap_cons, List.append_nil, List.nil_append, List.append_assoc, List.cons_append, cnA, varA, snA, ouA, chA, h0]
      ·
       simp only [amset, amlib, zset, eq_self, ↓reduceIte, reduceCtorEq, Nat.reduceBEq, reduceEqDiff, reduceAdd, reduceMul, reduceLeDiff, reduceLT, reduceSub] <;> simp [List.flatMap_nil, List.flatMap_append, List.flatMap_cons, List.append_nil, List.nil_append, List.append_assoc, List.cons_append, cnA, varA, snA, ouA, chA, h0]
    ·
     intro dn2 y2 td2 harg2 hI2 R2 hR2
     have hl2 : (p.sensors).length = dn2.length + (td2.length + 1) := by rw [harg2]; simp
     have hmem2 : y2 ∈ p.sensors := by rw [harg2]; simp
     refine aw_nm ?_
     have hget2 : (encStrs (p.sensors)).getD dn2.length [] = encStr y2 := by rw [harg2]; exact encStrs_mid dn2 td2 y2
     have hlen2 := flat_len (f := snA) harg2
     have hwy2 := hwf.s y2 hmem2
     refine aw_ops zT fun K43 hK43 => ?_
     refine sg ?_
     refine hK43 _ ?_
     clear hK43
     refine aw_seq fun K44 hK44 => ?_
     refine aw_cond (t := true) (by simp [evalO, S.get, amLook]; omega) (fun _ => ?_) (fun h => nomatch h)
     refine aw_skip ?_
     simp only [thenQ, blkQ, if_true, reduceIte, Nat.reduceEqDiff, eq_self]
     refine hK44 _ ?_
     clear hK44
     refine aw_seq fun K45 hK45 => ?_
     refine aw_block ?_
     refine aw_ops zT fun K46 hK46 => ?_
     simp only [amset, amlib, zset, hget2, eq_self, ↓reduceIte, reduceCtorEq, Nat.reduceBEq, reduceEqDiff, reduceAdd, reduceMul, reduceLeDiff, reduceLT, reduceSub]
     refine ⟨⟨by omega, by omega⟩, ?_⟩
     refine hK46 _ ?_
     clear hK46
     have hnl := ident_len hwy2
     refine aw_region zT ?_
     refine sg ?_
     refine ⟨by (try simp only [List.length_append, List.length_cons, List.length_nil]); omega, ?_⟩
     refine ⟨by (try simp only [List.length_append, List.length_cons, List.length_nil]); omega, ?_⟩
     refine ⟨by (try simp only [List.length_append, List.length_cons, List.length_nil]); omega, ?_⟩
     refine hK45 _ ?_
     clear hK45
     refine aw_region zT ?_
     refine sg ?_
     refine ⟨⟨by omega, by omega⟩, ?_⟩
     refine hR2 _ trivial ?_
     refine Reach.to ?_ ?_
     ·
      simp only [amset, amlib, zset, eq_self, ↓reduceIte, reduceCtorEq, Nat.reduceBEq, reduceEqDiff, reduceAdd, reduceMul, reduceLeDiff, reduceLT, reduceSub] <;> simp [List.flatMap_nil, List.flatMap_append, List.flatMap_cons, List.append_nil, List.nil_append, List.append_assoc, List.cons_append, cnA, varA, snA, ouA, chA, h0]
     ·
      simp only [amset, amlib, zset, eq_self, ↓reduceIte, reduceCtorEq, Nat.reduceBEq, reduceEqDiff, reduceAdd, reduceMul, reduceLeDiff, reduceLT, reduceSub] <;> simp [List.flatMap_nil, List.flatMap_append, List.flatMap_cons, List.append_nil, List.nil_append, List.append_assoc, List.cons_append, cnA, varA, snA, ouA, chA, h0]
   ·
    intro dn1 y1 td1 harg1 hI1 R1 hR1
    have hl1 : (p.globals).length = dn1.length + (td1.length + 1) := by rw [harg1]; simp
    have hmem1 : y1 ∈ p.globals := by rw [harg1]; simp
    refine aw_nm ?_
    have hget1 : (encGs (p.globals)).getD dn1.length [] = encG y1 := by rw [harg1]; exact encGs_mid dn1 td1 y1
    have hlen1 := flat_len (f := varA) harg1
    have hwy1 := hwf.g y1 hmem1
    refine aw_ops zT fun K47 hK47 => ?_
    refine sg ?_
    refine hK47 _ ?_
    clear hK47
    refine aw_seq fun K48 hK48 => ?_
    refine aw_cond (t := true) (by simp [evalO, S.get, amLook]; omega) (fun _ => ?_) (fun h => nomatch h)
    refine aw_skip ?_
    simp only [thenQ, blkQ, if_true, reduceIte, Nat.reduceEqDiff, eq_self]
    refine hK48 _ ?_
    clear hK48
    refine aw_seq fun K49 hK49 => ?_
    refine aw_block ?_
    refine aw_ops zT fun K50 hK50 => ?_
    simp only [amset, amlib, zset, hget1, eq_self, ↓reduceIte, reduceCtorEq, Nat.reduceBEq, reduceEqDiff, reduceAdd, reduceMul, reduceLeDiff, reduceLT, reduceSub]
    refine ⟨⟨by omega, by omega⟩, ?_⟩
    refine hK50 _ ?_
    clear hK50
    have hr0 := hgi y1 hmem1
    unfold i16r at hr0
    simp only [okG, Bool.and_eq_true] at hwy1
    have hnl := ident_len hwy1.1.1.1
    have hln : 0 ≤ y1.len ∧ y1.len ≤ 32767 := by have := hwy1.1.1.2; simp [numA] at this; omega
    have hi1 := Lib.itoa_length_le y1.len (by omega) (by omega)
    have hi2 := Lib.itoa_length_le y1.init (by omega) (by omega)
    have ev := i64_same (n := y1.init) (by omega)
    refine aw_ops zT fun K51 hK51 => ?_
    refine sg ?_
    refine ⟨by (try simp only [List.length_append, List.length_cons, List.length_nil]); omega, ?_⟩
    refine ⟨by (try simp only [List.length_append, List.length_cons, List.length_nil]); omega, ?_⟩
    refine hK51 _ ?_
    clear hK51
    refine aw_seq fun K52 hK52 => ?_
    refine aw_ops zT fun K53 hK53 => ?_
    refine sg ?_
    refine hK53 _ ?_
    clear hK53
    refine aw_cond rfl (fun h1 => ?_) (fun h1 => ?_)
    ·
     refine aw_region zT ?_
     refine sg ?_
     refine ⟨by (try simp only [List.length_append, List.length_cons, List.length_nil]); omega, ?_⟩
     refine ⟨_, holds91i y1.len (by omega), ?_⟩
     refine sgl ?_
     refine ⟨by (try simp only [List.length_append, List.length_cons, List.length_nil]); omega, ?_⟩
     refine ⟨by (try simp only [List.length_append, List.length_cons, List.length_nil]); omega, ?_⟩
     refine hK52 _ ?_
     clear hK52
     refine aw_region zT ?_
     refine sg ?_
     refine ⟨by (try simp only [List.length_append, List.length_cons, List.length_nil]); omega, ?_⟩
     refine hK49 _ ?_
     clear hK49
     refine aw_region zT ?_
     refine sg ?_
     refine ⟨⟨by omega, by omega⟩, ?_⟩
     refine hR1 _ trivial ?_
     refine Reach.to ?_ ?_
     ·
      simp only [amset, amlib, zset, eq_self, ↓reduceIte, reduceCtorEq, Nat.reduceBEq, reduceEqDiff, reduceAdd, reduceMul, reduceLeDiff, reduceLT, reduceSub] <;> simp [List.flatMap_nil, List.flatMap_append, List.flatMap_cons, List.append_nil, List.nil_append, List.append_assoc, List.cons_append, cnA, varA, snA, ouA, chA, h0, h1]
     ·
      simp only [amset, amlib, zset, eq_self, ↓reduceIte, reduceCtorEq, Nat.reduceBEq, reduceEqDiff, reduceAdd, reduceMul, reduceLeDiff, reduceLT, reduceSub] <;> simp [List.flatMap_nil, List.flatMap_append, List.flatMap_cons, List.append_nil, List.nil_append, List.append_assoc, List.cons_append, cnA, varA, snA, ouA, chA, h0, h1]
    ·
     refine aw_ops zT fun K54 hK54 => ?_
     refine sg ?_
     refine hK54 _ ?_
     clear hK54
     refine aw_cond rfl (fun h2 => ?_) (fun h2 => ?_)
     ·
      refine aw_region zT ?_
      simp only [amset, amlib, zset, ev, eq_self, ↓reduceIte, reduceCtorEq, Nat.reduceBEq, reduceEqDiff, reduceAdd, reduceMul, reduceLeDiff, reduceLT, reduceSub]
      refine ⟨by (try simp only [List.length_append, List.length_cons, List.length_nil]); omega, ?_⟩
      refine ⟨_, holds91i y1.init (by omega), ?_⟩
      simp only [later]
      simp only [amset, amlib, zset, ev, eq_self, ↓reduceIte, reduceCtorEq, Nat.reduceBEq, reduceEqDiff, reduceAdd, reduceMul, reduceLeDiff, reduceLT, reduceSub]
      refine ⟨by (try simp only [List.length_append, List.length_cons, List.length_nil]); omega, ?_⟩
      refine hK52 _ ?_
      clear hK52
      refine aw_region zT ?_
      refine sg ?_
      refine ⟨by (try simp only [List.length_append, List.length_cons, List.length_nil]); omega, ?_⟩
      refine hK49 _ ?_
      clear hK49
      refine aw_region zT ?_
      refine sg ?_
      refine ⟨⟨by omega, by omega⟩, ?_⟩
      refine hR1 _ trivial ?_
      refine Reach.to ?_ ?_
      ·
       simp only [amset, amlib, zset, eq_self, ↓reduceIte, reduceCtorEq, Nat.reduceBEq, reduceEqDiff, reduceAdd, reduceMul, reduceLeDiff, reduceLT, reduceSub] <;> simp [List.flatMap_nil, List.flatMap_append, List.flatMap_cons, List.append_nil, List.nil_append, List.append_assoc, List.cons_append, cnA, varA, snA, ouA, chA, h0, h1, h2]
      ·
       simp only [amset, amlib, zset, eq_self, ↓reduceIte, reduceCtorEq, Nat.reduceBEq, reduceEqDiff, reduceAdd, reduceMul, reduceLeDiff, reduceLT, reduceSub] <;> simp [List.flatMap_nil, List.flatMap_append, List.flatMap_cons, List.append_nil, List.nil_append, List.append_assoc, List.cons_append, cnA, varA, snA, ouA, chA, h0, h1, h2]
     ·
      refine aw_skip ?_
      simp only [thenQ, blkQ, if_true, reduceIte, Nat.reduceEqDiff, eq_self]
      refine hK52 _ ?_
      clear hK52
      refine aw_region zT ?_
      refine sg ?_
      refine ⟨by (try simp only [List.length_append, List.length_cons, List.length_nil]); omega, ?_⟩
      refine hK49 _ ?_
      clear hK49
      refine aw_region zT ?_
      refine sg ?_
      refine ⟨⟨by omega, by omega⟩, ?_⟩
      refine hR1 _ trivial ?_
      refine Reach.to ?_ ?_
      ·
       simp only [amset, amlib, zset, eq_self, ↓reduceIte, reduceCtorEq, Nat.reduceBEq, reduceEqDiff, reduceAdd, reduceMul, reduceLeDiff, reduceLT, reduceSub] <;> simp [List.flatMap_nil, List.flatMap_append, List.flatMap_cons, List.append_nil, List.nil_append, List.append_assoc, List.cons_append, cnA, varA, snA, ouA, chA, h0, h1, h2]
      ·
       simp only [amset, amlib, zset, eq_self, ↓reduceIte, reduceCtorEq, Nat.reduceBEq, reduceEqDiff, reduceAdd, reduceMul, reduceLeDiff, reduceLT, reduceSub] <;> simp [List.flatMap_nil, List.flatMap_append, List.flatMap_cons, List.append_nil, List.nil_append, List.append_assoc, List.cons_append, cnA, varA, snA, ouA, chA, h0, h1, h2]
  ·
   intro dn y td harg hI R hR
   have hl : (p.consts).length = dn.length + (td.length + 1) := by rw [harg]; simp
   have hmem : y ∈ p.consts := by rw [harg]; simp
   refine aw_nm ?_
   have hget : (encCs (p.consts)).getD dn.length [] = encC y := by rw [harg]; exact encCs_mid dn td y
   have hlen := flat_len (f := cnA) harg
   have hwy := hwf.c y hmem
   refine aw_ops zT fun K55 hK55 => ?_
   refine sg ?_
   refine hK55 _ ?_
   clear hK55
   refine aw_seq fun K56 hK56 => ?_
   refine aw_cond (t := true) (by simp [evalO, S.get, amLook]; omega) (fun _ => ?_) (fun h => nomatch h)
   refine aw_skip ?_
   simp only [thenQ, blkQ, if_true, reduceIte, Nat.reduceEqDiff, eq_self]
   refine hK56 _ ?_
   clear hK56
   refine aw_seq fun K57 hK57 => ?_
   refine aw_block ?_
   refine aw_ops zT fun K58 hK58 => ?_
   simp only [amset, amlib, zset, hget, eq_self, ↓reduceIte, reduceCtorEq, Nat.reduceBEq, reduceEqDiff, reduceAdd, reduceMul, reduceLeDiff, reduceLT, reduceSub]
   refine ⟨⟨by omega, by omega⟩, ?_⟩
   refine hK58 _ ?_
   clear hK58
   have hr0 := hci y hmem
   unfold i16r at hr0
   have hit := Lib.itoa_length_le y.value (by omega) (by omega)
   have ev := i64_same (n := y.value) (by omega)
   simp only [okC, Bool.and_eq_true] at hwy
   have hnl := ident_len hwy.1
   refine aw_draw_region zT prog_mixed ?_
   simp only [amset, amlib, zset, ev, eq_self, ↓reduceIte, reduceCtorEq, Nat.reduceBEq, reduceEqDiff, reduceAdd, reduceMul, reduceLeDiff, reduceLT, reduceSub]
   refine ⟨by (try simp only [List.length_append, List.length_cons, List.length_nil]); omega, ?_⟩
   refine ⟨by (try simp only [List.length_append, List.length_cons, List.length_nil]); omega, ?_⟩
   refine ⟨by (try simp only [List.length_append, List.length_cons, List.length_nil]); omega, ?_⟩
   refine ⟨_, holds91i y.value (by omega), ?_⟩
   simp only [later]
   simp only [amset, amlib, zset, ev, eq_self, ↓reduceIte, reduceCtorEq, Nat.reduceBEq, reduceEqDiff, reduceAdd, reduceMul, reduceLeDiff, reduceLT, reduceSub]
   refine ⟨by (try simp only [List.length_append, List.length_cons, List.length_nil]); omega, ?_⟩
   refine ⟨by (try simp only [List.length_append, List.length_cons, List.length_nil]); omega, ?_⟩
   refine ⟨by kernel_rfl, ?_⟩
   refine hK57 _ ?_
   clear hK57
   refine aw_region zT ?_
   refine sg ?_
   refine ⟨⟨by omega, by omega⟩, ?_⟩
   refine hR _ trivial ?_
   refine Reach.to ?_ ?_
   ·
    simp only [amset, amlib, zset, eq_self, ↓reduceIte, reduceCtorEq, Nat.reduceBEq, reduceEqDiff, reduceAdd, reduceMul, reduceLeDiff, reduceLT, reduceSub] <;> simp [List.flatMap_nil, List.flatMap_append, List.flatMap_cons, List.append_nil, List.nil_append, List.append_assoc, List.cons_append, cnA, varA, snA, ouA, chA, h0]
   ·
    simp only [amset, amlib, zset, eq_self, ↓reduceIte, reduceCtorEq, Nat.reduceBEq, reduceEqDiff, reduceAdd, reduceMul, reduceLeDiff, reduceLT, reduceSub] <;> simp [List.flatMap_nil, List.flatMap_append, List.flatMap_cons, List.append_nil, List.nil_append, List.append_assoc, List.cons_append, cnA, varA, snA, ouA, chA, h0]
end Go.Proofs.Am
set_option maxRecDepth 100000
set_option maxHeartbeats 4000000
namespace Go.Proofs.Am
theorem wfS_name {x : St} (h : wfS x = true) : x.name.length ≤ 32 := by
 have hn : (!wfS x) = false := by rw [h]; rfl
 rw [wfS_not] at hn
 simp only [bdA, Bool.or_eq_false_iff, Bool.not_eq_false'] at hn
 have h3 := hn.1.1.1.1.1.1.2
 unfold nmA at h3
 simp only [Bool.or_eq_true, Bool.and_eq_true, beq_iff_eq] at h3
 rcases h3 with h3 | h3
 ·
  exact ident_len h3.2
 ·
  rw [h3.2]; simp
theorem tX_len {x : St} (ha : ∀ y ∈ x.args, wfA y = true) (hw : wdL x.args) : (tX x 0).length + (tX x 1).length ≤ 64 * (subL x.args).length := by
 have one : ∀ n (hn : n < x.args.length), (tX x n).length ≤ 64 * (subE x.args[n]).length := fun n hn => by
  unfold tX
  rw [txL_getD _ n hn]
  have hm := wdL_mem hw (List.getElem_mem hn)
  have := txA_len x.args[n] (ha _ (List.getElem_mem hn)) (wdE_eq x.args[n] ▸ hm).1 (wdE_eq x.args[n] ▸ hm).2
  simp only
  omega
 have none : ∀ n, x.args.length ≤ n → (tX x n).length = 0 := fun n hn => by
  unfold tX
  rw [txL_map, List.getD_eq_getElem?_getD, List.getElem?_map, List.getElem?_eq_none hn]
  rfl
 match hx : x.args, one, none with
 | [], _, none => rw [none 0 (by simp), none 1 (by simp)]; simp
 | [a], one, none =>
  have h0 := one 0 (by simp)
  rw [none 1 (by simp)]
  simp only [List.getElem_cons_zero, subL, List.append_nil] at h0 ⊢
  omega
 | a :: b :: r, one, none =>
  have h0 := one 0 (by simp)
  have h1 := one 1 (by simp)
  simp only [List.getElem_cons_zero, List.getElem_cons_succ, subL, List.length_append] at h0 h1 ⊢
  omega
theorem smA_len {x : St} (h : wfS x = true) (hw : wdL x.args) : (smA x).length ≤ 64 * (subL x.args).length + 60 := by
 have h1 := wfS_name h
 have h2 := tX_len (wfS_facts h).2.2.1 hw
 unfold smA
 repeat' split
 all_goals (simp only [List.length_append, List.length_cons, List.length_nil]; omega)
theorem hdA_len {x : St} (h : wfS x = true) (hw : wdL x.args) : (hdA x).length ≤ 64 * (subL x.args).length + 60 := by
 have h1 := wfS_name h
 have h2 := tX_len (wfS_facts h).2.2.1 hw
 have h3 := i64_itoa x.n (wfS_facts h).2.2.2.1
 unfold hdA
 repeat' split
 all_goals (simp only [List.length_append, List.length_cons, List.length_nil]; omega)
theorem mul_grow {a b c d : Nat} (h : b ≤ c) (h2 : d ≤ a * b) : d ≤ a * c := Nat.le_trans h2 (Nat.mul_le_mul_left a h)
theorem sized_body {x : St} (h : sized [x]) : sized x.body ∧ sized x.els := by
 constructor
 ·
  intro z hz; exact h z (by rw [stmL, stmL, List.append_nil, stmS_eq]; simp [hz])
 ·
  intro z hz; exact h z (by rw [stmL, stmL, List.append_nil, stmS_eq]; simp [hz])
theorem sized_cons {x : St} {r : List St} (h : sized (x :: r)) : sized [x] ∧ sized r := by
 constructor
 ·
  intro z hz; rw [stmL, stmL, List.append_nil] at hz; exact h z (by rw [stmL]; simp [hz])
 ·
  intro z hz; exact h z (by rw [stmL]; simp [hz])
def tlA (e : List St) (i : List UInt8) : List UInt8 := if isElif e then i ++ [125, 32, 101, 108, 115, 101, 32] ++ ln1 e i else if decide ((e.length : Int) > 0) then i ++ [125, 32, 101, 108, 115, 101, 32, 123, 10] ++ lnsA e (i ++ [32, 32, 32, 32]) ++ (i ++ [125, 10]) else i ++ [125, 10]
theorem lnA_tl (x : St) (i : List UInt8) : lnA x i = if sB x.kind then hdA x ++ [10] ++ lnsA x.body (i ++ [32, 32, 32, 32]) ++ tlA x.els i else smA x ++ [10] := lnA_eq x i
theorem tail_len (e : List St) (i : List UInt8) (m ae : Nat) (b2 : (lnsA e (i ++ [32, 32, 32, 32])).length - 64 * ae ≤ m) (b3 : (ln1 e i).length - 64 * ae ≤ m) : (tlA e i).length ≤ m + 64 * ae + 2 * i.length + 11 := by
 unfold tlA
 split
 ·
  simp only [List.length_append, List.length_cons, List.length_nil]; omega
 ·
  split
  ·
   simp only [List.length_append, List.length_cons, List.length_nil] at *; omega
  ·
   simp only [List.length_append, List.length_cons, List.length_nil]; omega
mutual
theorem lnA_len : ∀ (x : St) (i : List UInt8), wfS x = true → sized [x] → (lnA x i).length + i.length ≤ (stmS x).length * (4 * (i.length + 4 * depS x) + 200) + 64 * (allL (stmS x)).length
 | .mk k n v a b e p, i, h, hs => by
  have hx := hs (.mk k n v a b e p) (by rw [stmL, stmS_eq]; simp)
  have hb := sized_body hs
  have hf := wfS_facts h
  have h1 := smA_len h hx.1
  have h2 := hdA_len h hx.1
  have b1 := lnsA_len b (i ++ [32, 32, 32, 32]) hf.2.2.2.2.1 hb.1
  have b2 := lnsA_len e (i ++ [32, 32, 32, 32]) hf.2.2.2.2.2 hb.2
  have b3 := ln1_len e i hf.2.2.2.2.2 hb.2
  have hd := depS_eq (.mk k n v a b e p)
  have hst := stmS_eq (.mk k n v a b e p)
  simp only [St.body, St.els, St.args] at hd hst h1 h2
  rw [hst, lnA_tl]
  have eA : allL (St.mk k n v a b e p :: (stmL b ++ stmL e)) = subL a ++ (allL (stmL b) ++ allL (stmL e)) := by rw [← allL_append]; rfl
  rw [eA]
  simp only [List.length_cons, List.length_append, List.length_nil, St.body, St.els] at *
  generalize hB : 4 * (i.length + 4 * depS (.mk k n v a b e p)) + 200 = B
  have b1' := mul_grow (c := B) (by omega) (Nat.sub_le_of_le_add b1)
  have b2' := mul_grow (c := B) (by omega) (Nat.sub_le_of_le_add b2)
  have b3' := mul_grow (c := B) (by omega) (Nat.sub_le_of_le_add b3)
  have e1 : ((stmL b).length + (stmL e).length + 1) * B = (stmL b).length * B + (stmL e).length * B + B := by rw [Nat.add_mul, Nat.add_mul, Nat.one_mul]
  rw [e1]
  have hT := tail_len e i _ _ b2' b3'
  split
  ·
   simp only [List.length_append, List.length_cons, List.length_nil] at *
   omega
  ·
   simp only [List.length_append, List.length_cons, List.length_nil] at *
   omega
theorem lnsA_len : ∀ (l : List St) (i : List UInt8), wfSs l = true → sized l → (lnsA l i).length ≤ (stmL l).length * (4 * (i.length + 4 * depM l) + 200) + 64 * (allL (stmL l)).length
 | [], i, _, _ => by simp [lnsA]
 | x :: r, i, h, hs => by
  rw [wfSs, Bool.and_eq_true] at h
  obtain ⟨s1, s2⟩ := sized_cons hs
  have a1 := lnA_len x i h.1 s1
  have a2 := lnsA_len r i h.2 s2
  rw [lnsA, stmL, allL_append, depM]
  simp only [List.length_append]
  generalize hB : 4 * (i.length + 4 * max (depS x) (depM r)) + 200 = B
  have a1' := mul_grow (c := B) (by omega) (Nat.sub_le_of_le_add a1)
  have a2' := mul_grow (c := B) (by omega) (Nat.sub_le_of_le_add a2)
  rw [Nat.add_mul]
  omega
theorem ln1_len : ∀ (l : List St) (i : List UInt8), wfSs l = true → sized l → (ln1 l i).length ≤ (stmL l).length * (4 * (i.length + 4 * depM l) + 200) + 64 * (allL (stmL l)).length
 | [], i, _, _ => by simp [ln1]
 | x :: r, i, h, hs => by
  rw [wfSs, Bool.and_eq_true] at h
  obtain ⟨s1, s2⟩ := sized_cons hs
  have a1 := lnA_len x i h.1 s1
  rw [ln1, stmL, allL_append, depM]
  simp only [List.length_append]
  generalize hB : 4 * (i.length + 4 * max (depS x) (depM r)) + 200 = B
  have a1' := mul_grow (c := B) (by omega) (Nat.sub_le_of_le_add a1)
  rw [Nat.add_mul]
  omega
end
end Go.Proofs.Am
namespace Go.Proofs.Am
open Go.RowKit
section
variable {P : Program} {G : Ctx} {N : Nat} {s : S} {Q : X → S → Prop}
/-- The function, handed no slice and a number, answers a slice of its own with nothing in it. -/
def GrowOk (P : Program) (f e sz : Nat) (n : Int) : Prop := FnOk P f ∧ ∀ w : World, Calls P f #[.slice none 0 0, .int .i64 n] w fun en w' => ∃ v, en = .returned v ∧ w'.ownsRow w.heap.size e sz v 0 [] ∧ Below w.heap.size w w'
def growK (P : Program) (G : Ctx) (x : Operand) (n : Int) (d e sz : Nat) (o3 : Oper) (K : S → Prop) (s1 : S) : Prop :=
  evalO G s1 x = .cell (.c (.int .i64 n)) ∧ s1.fresh d = true ∧ amOp P G o3 K K (s1.put (some d) (.cell (.own d 0 e sz [])))
theorem aw_grow (hT : TyOk P G) {id : Nat} {o1 o2 o3 : Oper} {y : Code} {x : Operand} {n : Int} {f d e sz : Nat} {c : Call} (g1 : o1.guard = none) (g2 : o2.guard = none) (g3 : o3.guard = none) (hd2 : o2.dst = some d) (ho2 : o2.op = .call c) (hc : c.callee = .value (.func f)) (ha : c.args = #[.const (.slice none 0 0), x])
    (hgrow : GrowOk P f e sz n) (h : ∀ K : S → Prop, (∀ s', AW P G N y s' Q → K s') → amOp P G o1 (growK P G x n d e sz o3 K) (growK P G x n d e sz o3 K) s) : AW P G N (.seq (.region id #[o1, o2, o3] false) y) s Q := by
  refine aw_seq fun K hK => ?_
  intro hd ok w0 β Ω a w hng hR r hr
  have hdN : ∀ o ∈ [o1, o2, o3], ∀ t, o.dst = some t → t < N := by
    intro o ho t ht
    have h1 : (#[o1, o2, o3] : Array Oper).toList.all (dstIn N) = true := hd
    have := List.all_eq_true.1 h1 o (by simpa using ho)
    rw [dstIn, ht] at this
    simpa using this
  refine wpIn_region ?_
  show wpOpsIn (FR r) 0 P #[o1, o2, o3] _ [0, 1, 2] a w
  rw [wpOpsIn_cons]
  unfold wpOpIn
  simp only [show (#[o1, o2, o3] : Array Oper)[0]? = some o1 from rfl]
  rw [if_pos (by simp [Region.wanted, g1])]
  refine amOp_sound hT hR hng (hdN o1 (by simp)) (h K hK) fun s1 w1 a1 β1 Ω1 hs1 hR1 => ?_
  have hs1 : growK P G x n d e sz o3 K s1 := by rcases hs1 with h | h <;> exact h
  obtain ⟨hx, hf, hk⟩ := hs1
  rw [wpOpsIn_cons]
  unfold wpOpIn
  simp only [show (#[o1, o2, o3] : Array Oper)[1]? = some o2 from rfl]
  rw [if_pos (by simp [Region.wanted, g2])]
  have hcal : calleeOf G s1 c = some f := by unfold calleeOf; rw [hc]; rfl
  have henter := call_enter hR1 ho2 hcal hgrow.1
  have hxe : a1.eval x = .int .i64 n := by have := eval_sound hR1 x; rw [hx] at this; exact this
  refine win_enter (not_defer ho2) henter ?_
  have hargs : (c.args.toList.map a1.eval).toArray = #[.slice none 0 0, .int .i64 n] := by rw [ha]; simp [hxe]; rfl
  rw [hargs]
  refine Calls.mono (hgrow.2 w1) fun en w2 he => ?_
  obtain ⟨v, rfl, hown, hbw⟩ := he
  have hle : w0.heap.size ≤ w1.heap.size := hR1.below.size
  have hblk : ∀ b, oblk v = some b → w1.heap.size ≤ b ∧ b < w2.heap.size := by
    intro b hb
    rcases hown.2 with ⟨hv, _⟩ | ⟨g, cap, cur, hv, hg, hh, _⟩
    · subst hv; cases hb
    · subst hv
      have : g = b := by simpa [oblk, Value.ownBlock] using hb
      subst this
      exact ⟨hg, (Array.getElem?_eq_some_iff.1 hh).1⟩
  have hcr := hR1.create (k := d) (S.freshP hf) hbw (fun j => if j = 0 then some v else none) none
    (by intro j v' b hv hb; split at hv <;> simp at hv; subst hv; exact hblk b hb)
    (by intro j j' v1 v' b hv hb hv' hb'; split at hv <;> simp at hv; split at hv' <;> simp at hv'; omega) (by simp) (by simp)
  refine ⟨v, rfl, ?_⟩
  have hR2 : Rel G ok w0 N (fun i => if i = d then none else β1 i) (fun i j => if i = d then (if j = 0 then some v else none) else Ω1 i j) (s1.put (some d) (.cell (.own d 0 e sz []))) (a1.put o2.dst v) w2 := by
    rw [hd2]
    refine hcr.put (fun t ht => hdN o2 (by simp) t (by rw [hd2]; exact ht)) ?_
    exact ⟨by simp, by simp, by simp, [], ⟨hown.1, hown.2.imp (fun h => h) (fun ⟨g, cap, cur, h1, h2, h3⟩ => ⟨g, cap, cur, h1, Nat.zero_le _, h3⟩)⟩, .nil⟩
  rw [wpOpsIn_cons]
  unfold wpOpIn
  simp only [show (#[o1, o2, o3] : Array Oper)[2]? = some o3 from rfl]
  rw [if_pos (by simp [Region.wanted, g3])]
  refine amOp_sound hT hR2 hng (hdN o3 (by simp)) hk fun s3 w3 a3 β3 Ω3 hs3 hR3 => ?_
  exact ⟨.norm, s3, β3, Ω3, rfl, (by rcases hs3 with h | h <;> exact h), hR3⟩
end
end Go.Proofs.Am
set_option maxRecDepth 100000
set_option maxHeartbeats 4000000
namespace Go.Proofs.Am
open Go.RowKit
theorem info9 : (Tryz.prog.info? 9).map (fun i => (i.zero, i.size, i.bytes)) = some (some (.string ⟨#[]⟩), 1, 16) := by kernel_rfl
theorem grow172 (n : Nat) (hn : n ≤ 1000000000000) (w : World) : Calls Tryz.prog 172 #[.slice none 0 0, .int .i64 n] w fun e w' => ∃ v, e = .returned v ∧ w'.ownsRow w.heap.size 9 1 v 0 [] ∧ Below w.heap.size w w' := by
  obtain ⟨i, hi, hz⟩ := Option.map_eq_some_iff.1 info9
  injection hz with hz1 hz2
  injection hz2 with hz2 hz3
  by_cases h0 : n = 0
  · subst h0
    go_enter Tryz.func172, Tryz.ntmps172
    go_wp2
    go_ret
    exact ⟨_, rfl, ⟨rfl, .inl ⟨rfl, rfl⟩⟩, Below.refl _ _⟩
  · have hr := fun w : World => Lib.run_append_nil_zeros (P := Tryz.prog) w 24 3 24 9 i (.string ⟨#[]⟩) .i64 .i64 Tryz.underlying24 Tryz.underlying3 hi hz1 n (by omega) (by omega) (by omega) (by rw [hz3]; omega)
    have hw : wrap64 (n : Int) = n := by unfold wrap64; omega
    go_enter Tryz.func172, Tryz.ntmps172
    go_wp2_with (at_builtin; refine Lib.wpList_append_run _ rfl _ _ _ _ rfl _ _ rfl rfl _ _ (hr _) ?_)
    go_ret
    have hge := grownCap_ge w n 0 9
    have hcm : grownCap w n 0 9 ≤ maxLen := grownCap_le_maxLen w n 0 9 (by simp only [maxLen]; omega)
    refine ⟨_, rfl, ⟨rfl, .inr ⟨w.heap.size, _, _, rfl, Nat.le_refl _, heap_alloc_new w _, Nat.zero_le _, hcm, ?_, ?_⟩⟩, ((Below.refl _ w).alloc (Nat.le_refl _) _).drew⟩
    · simp only [Array.size_append, size_zeroCells, List.size_toArray, List.length_cons, List.length_nil]
      omega
    · simp
theorem growOk172 (n : Nat) (hn : n ≤ 1000000000000) : GrowOk Tryz.prog 172 9 1 n := ⟨⟨Tryz.f172, Tryz.func172, rfl, rfl⟩, grow172 n hn⟩
end Go.Proofs.Am
set_option maxRecDepth 100000
set_option maxHeartbeats 4000000
namespace Go.Proofs.Am
open Nat (reduceEqDiff reduceAdd reduceMul reduceLeDiff reduceLT reduceSub)
def encLs (z : List (List UInt8)) : List C := [.sl 1 (encStrs z)]
def encLss (l : List (List (List UInt8))) : List (List C) := l.map encLs
theorem encLss_mid (a b : List (List (List UInt8))) (y : List (List UInt8)) : (encLss (a ++ y :: b)).getD a.length [] = encLs y := by simp [encLss]
theorem encLss_length (l : List (List (List UInt8))) : (encLss l).length = l.length := by simp [encLss]
theorem two_len (a b : List (List UInt8)) : ([a, b] : List (List (List UInt8))).length = 2 := rfl
theorem flat_mid {L a b : List (List (List UInt8))} {y : List (List UInt8)} (h : L = a ++ y :: b) : L.flatten.length = a.flatten.length + y.length + b.flatten.length := by
 rw [h]; simp; omega
theorem holds99g (a b : List (List UInt8)) (hz : ([a, b] : List (List (List UInt8))).flatten.length ≤ 1000000000000) : Holds Tryz.prog zG 99 [.c (.sl 1 (encLss [a, b]))] [.c (.sl 1 (encStrs (a ++ b)))] := by
 refine holds_of_body zT prog99 rfl rfl rfl (by simp [Tryz.f99]) ?_
 refine aw_ops zT fun K1 hK1 => ?_
 simp only [amset, amlib, zset, encLs, encLss_length, two_len, eq_self, ↓reduceIte, reduceCtorEq, Nat.reduceBEq, reduceEqDiff, reduceAdd, reduceMul, reduceLeDiff, reduceLT, reduceSub]
 refine hK1 _ ?_
 clear hK1
 refine aw_ops zT fun K2 hK2 => ?_
 simp only [amset, amlib, zset, encLs, encLss_length, two_len, eq_self, ↓reduceIte, reduceCtorEq, Nat.reduceBEq, reduceEqDiff, reduceAdd, reduceMul, reduceLeDiff, reduceLT, reduceSub]
 refine hK2 _ ?_
 clear hK2
 refine aw_seq fun K3 hK3 => ?_
 refine aw_ops zT fun K4 hK4 => ?_
 simp only [amset, amlib, zset, encLs, encLss_length, two_len, eq_self, ↓reduceIte, reduceCtorEq, Nat.reduceBEq, reduceEqDiff, reduceAdd, reduceMul, reduceLeDiff, reduceLT, reduceSub]
 intros
 refine hK4 _ ?_
 clear hK4
 refine aw_block ?_
 refine aw_range (α := (List (List UInt8))) ([a, b]) (fun dn => True) (fun dn => [(3, .cell (.c (.int .i64 (dn.flatten.length : Nat)))), (11, .cell (.c (.int .i64 dn.length)))]) (fun dn => []) [] [3, 5, 11, 12, 13, 14, 15, 16, 17, 18, 19, 20, 21, 22] [] trivial ?_ ?_ ?_ ?_
 ·
  simp only [amset, amlib, zset, encLs, encLss_length, two_len, eq_self, ↓reduceIte, reduceCtorEq, Nat.reduceBEq, reduceEqDiff, reduceAdd, reduceMul, reduceLeDiff, reduceLT, reduceSub] <;> simp [List.flatten_nil, List.flatten_append, List.flatten_cons, List.append_nil, List.length_append, encStrs_append, encStrs_nil]
 ·
  simp only [amset, amlib, zset, encLs, encLss_length, two_len, eq_self, ↓reduceIte, reduceCtorEq, Nat.reduceBEq, reduceEqDiff, reduceAdd, reduceMul, reduceLeDiff, reduceLT, reduceSub] <;> simp [List.flatten_nil, List.flatten_append, List.flatten_cons, List.append_nil, List.length_append, encStrs_append, encStrs_nil]
 ·
  intro hI R
  refine aw_norm (by simp only [amset, amlib, zset, encLs, encLss_length, two_len, eq_self, ↓reduceIte, reduceCtorEq, Nat.reduceBEq, reduceEqDiff, reduceAdd, reduceMul, reduceLeDiff, reduceLT, reduceSub]; exact rfl) ?_
  refine aw_ops zT fun K5 hK5 => ?_
  simp only [amset, amlib, zset, encLs, encLss_length, two_len, eq_self, ↓reduceIte, reduceCtorEq, Nat.reduceBEq, reduceEqDiff, reduceAdd, reduceMul, reduceLeDiff, reduceLT, reduceSub]
  refine hK5 _ ?_
  clear hK5
  refine aw_seq fun K6 hK6 => ?_
  refine aw_cond (t := false) (by simp [evalO, S.get, amLook]) (fun h => nomatch h) (fun _ => ?_)
  refine aw_exit ?_
  simp only [thenQ, blkQ, if_true, reduceIte, Nat.reduceEqDiff, eq_self]
  refine hK3 _ ?_
  clear hK3
  refine aw_grow zT rfl rfl rfl rfl rfl rfl rfl (growOk172 _ hz) fun K7 hK7 => ?_
  simp only [amset, amlib, zset, encLs, encLss_length, two_len, eq_self, ↓reduceIte, reduceCtorEq, Nat.reduceBEq, reduceEqDiff, reduceAdd, reduceMul, reduceLeDiff, reduceLT, reduceSub]
  simp only [growK]
  simp only [amset, amlib, zset, encLs, encLss_length, two_len, eq_self, ↓reduceIte, reduceCtorEq, Nat.reduceBEq, reduceEqDiff, reduceAdd, reduceMul, reduceLeDiff, reduceLT, reduceSub]
  refine hK7 _ ?_
  clear hK7
  refine aw_seq fun K8 hK8 => ?_
  refine aw_ops zT fun K9 hK9 => ?_
  simp only [amset, amlib, zset, encLs, encLss_length, two_len, eq_self, ↓reduceIte, reduceCtorEq, Nat.reduceBEq, reduceEqDiff, reduceAdd, reduceMul, reduceLeDiff, reduceLT, reduceSub]
  intros
  refine hK9 _ ?_
  clear hK9
  refine aw_block ?_
  refine aw_retag 24 0 1006 (by simp only [amset, amlib, zset, encLs, encLss_length, two_len, eq_self, ↓reduceIte, reduceCtorEq, Nat.reduceBEq, reduceEqDiff, reduceAdd, reduceMul, reduceLeDiff, reduceLT, reduceSub]) ?_
  refine aw_norm (by simp only [amset, amlib, zset, encLs, encLss_length, two_len, eq_self, ↓reduceIte, reduceCtorEq, Nat.reduceBEq, reduceEqDiff, reduceAdd, reduceMul, reduceLeDiff, reduceLT, reduceSub]; exact rfl) ?_
  refine aw_to ⟨[(6, .cell (.own 1006 0 9 1 [])), (25, .cell (.c (.sl 1 (encLss [a, b])))), (26, .cell (.c (.int .i64 ((2 : Nat) : Int)))), (27, .cell (.c (.int .i64 0)))], []⟩ ?_ ?_ ?_
  ·
   simp only [amset, amlib, zset, encLs, encLss_length, two_len, eq_self, ↓reduceIte, reduceCtorEq, Nat.reduceBEq, reduceEqDiff, reduceAdd, reduceMul, reduceLeDiff, reduceLT, reduceSub] <;> simp [List.flatten_nil, List.flatten_append, List.flatten_cons, List.append_nil, List.length_append, encStrs_append, encStrs_nil]
  ·
   simp only [amset, amlib, zset, encLs, encLss_length, two_len, eq_self, ↓reduceIte, reduceCtorEq, Nat.reduceBEq, reduceEqDiff, reduceAdd, reduceMul, reduceLeDiff, reduceLT, reduceSub] <;> simp [List.flatten_nil, List.flatten_append, List.flatten_cons, List.append_nil, List.length_append, encStrs_append, encStrs_nil]
  refine aw_range (α := (List (List UInt8))) ([a, b]) (fun dn1 => True) (fun dn1 => [(6, .cell (.own 1006 0 9 1 (encStrs dn1.flatten))), (27, .cell (.c (.int .i64 dn1.length)))]) (fun dn1 => []) [1006] [6, 8, 27, 28, 29, 30, 31, 32, 33, 34] [] trivial ?_ ?_ ?_ ?_
  ·
   simp only [amset, amlib, zset, encLs, encLss_length, two_len, eq_self, ↓reduceIte, reduceCtorEq, Nat.reduceBEq, reduceEqDiff, reduceAdd, reduceMul, reduceLeDiff, reduceLT, reduceSub] <;> simp [List.flatten_nil, List.flatten_append, List.flatten_cons, List.append_nil, List.length_append, encStrs_append, encStrs_nil]
  ·
   simp only [amset, amlib, zset, encLs, encLss_length, two_len, eq_self, ↓reduceIte, reduceCtorEq, Nat.reduceBEq, reduceEqDiff, reduceAdd, reduceMul, reduceLeDiff, reduceLT, reduceSub] <;> simp [List.flatten_nil, List.flatten_append, List.flatten_cons, List.append_nil, List.length_append, encStrs_append, encStrs_nil]
  ·
   intro hI1 R1
   refine aw_norm (by simp only [amset, amlib, zset, encLs, encLss_length, two_len, eq_self, ↓reduceIte, reduceCtorEq, Nat.reduceBEq, reduceEqDiff, reduceAdd, reduceMul, reduceLeDiff, reduceLT, reduceSub]; exact rfl) ?_
   refine aw_ops zT fun K10 hK10 => ?_
   simp only [amset, amlib, zset, encLs, encLss_length, two_len, eq_self, ↓reduceIte, reduceCtorEq, Nat.reduceBEq, reduceEqDiff, reduceAdd, reduceMul, reduceLeDiff, reduceLT, reduceSub]
   refine hK10 _ ?_
   clear hK10
   refine aw_seq fun K11 hK11 => ?_
   refine aw_cond (t := false) (by simp [evalO, S.get, amLook]) (fun h => nomatch h) (fun _ => ?_)
   refine aw_exit ?_
   simp only [thenQ, blkQ, if_true, reduceIte, Nat.reduceEqDiff, eq_self]
   refine hK8 _ ?_
   clear hK8
   refine aw_ops zT fun K12 hK12 => ?_
   simp only [amset, amlib, zset, encLs, encLss_length, two_len, eq_self, ↓reduceIte, reduceCtorEq, Nat.reduceBEq, reduceEqDiff, reduceAdd, reduceMul, reduceLeDiff, reduceLT, reduceSub]
   refine hK12 _ ?_
   clear hK12
   refine aw_ret ?_
   show resOf zG _ [.tmp 2] = some _
   simp only [amset, amlib, zset, encLs, encLss_length, two_len, eq_self, ↓reduceIte, reduceCtorEq, Nat.reduceBEq, reduceEqDiff, reduceAdd, reduceMul, reduceLeDiff, reduceLT, reduceSub]
   simp [List.flatten]
  ·
   intro dn1 y1 td1 harg1 hI1 R1 hR1
   have hl1 : ([a, b]).length = dn1.length + (td1.length + 1) := by rw [harg1]; simp
   have hmem1 : y1 ∈ [a, b] := by rw [harg1]; simp
   refine aw_norm (by simp only [amset, amlib, zset, encLs, encLss_length, two_len, eq_self, ↓reduceIte, reduceCtorEq, Nat.reduceBEq, reduceEqDiff, reduceAdd, reduceMul, reduceLeDiff, reduceLT, reduceSub]; exact rfl) ?_
   have hget1 : (encLss ([a, b])).getD dn1.length [] = encLs y1 := by rw [harg1]; exact encLss_mid dn1 td1 y1
   have hfl := flat_mid harg1
   have h2l := two_len a b
   refine aw_ops zT fun K13 hK13 => ?_
   simp only [amset, amlib, zset, encLs, encLss_length, two_len, eq_self, ↓reduceIte, reduceCtorEq, Nat.reduceBEq, reduceEqDiff, reduceAdd, reduceMul, reduceLeDiff, reduceLT, reduceSub]
   refine hK13 _ ?_
   clear hK13
   refine aw_seq fun K14 hK14 => ?_
   refine aw_cond (t := true) (by simp [evalO, S.get, amLook]; omega) (fun _ => ?_) (fun h => nomatch h)
   refine aw_skip ?_
   simp only [thenQ, blkQ, if_true, reduceIte, Nat.reduceEqDiff, eq_self]
   refine hK14 _ ?_
   clear hK14
   refine aw_seq fun K15 hK15 => ?_
   refine aw_block ?_
   refine aw_ops zT fun K16 hK16 => ?_
   simp only [amset, amlib, zset, hget1, encLs, encLss_length, two_len, eq_self, ↓reduceIte, reduceCtorEq, Nat.reduceBEq, reduceEqDiff, reduceAdd, reduceMul, reduceLeDiff, reduceLT, reduceSub]
   refine ⟨⟨by omega, by omega⟩, ?_⟩
   refine hK16 _ ?_
   clear hK16
   refine aw_region zT ?_
   simp only [amset, amlib, zset, encLs, encLss_length, two_len, eq_self, ↓reduceIte, reduceCtorEq, Nat.reduceBEq, reduceEqDiff, reduceAdd, reduceMul, reduceLeDiff, reduceLT, reduceSub]
   refine ⟨⟨encStrs_rows _, by (try simp only [encStrs_length]); omega⟩, ?_⟩
   refine hK15 _ ?_
   clear hK15
   refine aw_region zT ?_
   simp only [amset, amlib, zset, encLs, encLss_length, two_len, eq_self, ↓reduceIte, reduceCtorEq, Nat.reduceBEq, reduceEqDiff, reduceAdd, reduceMul, reduceLeDiff, reduceLT, reduceSub]
   refine ⟨⟨by omega, by omega⟩, ?_⟩
   refine hR1 _ trivial ?_
   refine Reach.trans (Reach.retag 33 0 1006 ?_) (Reach.to ?_ ?_)
   ·
    simp only [amset, amlib, zset, encLs, encLss_length, two_len, eq_self, ↓reduceIte, reduceCtorEq, Nat.reduceBEq, reduceEqDiff, reduceAdd, reduceMul, reduceLeDiff, reduceLT, reduceSub]
   ·
    simp only [amset, amlib, zset, encLs, encLss_length, two_len, eq_self, ↓reduceIte, reduceCtorEq, Nat.reduceBEq, reduceEqDiff, reduceAdd, reduceMul, reduceLeDiff, reduceLT, reduceSub] <;> simp [List.flatten_nil, List.flatten_append, List.flatten_cons, List.append_nil, List.length_append, encStrs_append, encStrs_nil]
   ·
    simp only [amset, amlib, zset, encLs, encLss_length, two_len, eq_self, ↓reduceIte, reduceCtorEq, Nat.reduceBEq, reduceEqDiff, reduceAdd, reduceMul, reduceLeDiff, reduceLT, reduceSub] <;> simp [List.flatten_nil, List.flatten_append, List.flatten_cons, List.append_nil, List.length_append, encStrs_append, encStrs_nil]
 ·
  intro dn y td harg hI R hR
  have hl : ([a, b]).length = dn.length + (td.length + 1) := by rw [harg]; simp
  have hmem : y ∈ [a, b] := by rw [harg]; simp
  refine aw_norm (by simp only [amset, amlib, zset, encLs, encLss_length, two_len, eq_self, ↓reduceIte, reduceCtorEq, Nat.reduceBEq, reduceEqDiff, reduceAdd, reduceMul, reduceLeDiff, reduceLT, reduceSub]; exact rfl) ?_
  have hget : (encLss ([a, b])).getD dn.length [] = encLs y := by rw [harg]; exact encLss_mid dn td y
  have hfl := flat_mid harg
  have h2l := two_len a b
  refine aw_ops zT fun K17 hK17 => ?_
  simp only [amset, amlib, zset, encLs, encLss_length, two_len, eq_self, ↓reduceIte, reduceCtorEq, Nat.reduceBEq, reduceEqDiff, reduceAdd, reduceMul, reduceLeDiff, reduceLT, reduceSub]
  refine hK17 _ ?_
  clear hK17
  refine aw_seq fun K18 hK18 => ?_
  refine aw_cond (t := true) (by simp [evalO, S.get, amLook]; omega) (fun _ => ?_) (fun h => nomatch h)
  refine aw_skip ?_
  simp only [thenQ, blkQ, if_true, reduceIte, Nat.reduceEqDiff, eq_self]
  refine hK18 _ ?_
  clear hK18
  refine aw_seq fun K19 hK19 => ?_
  refine aw_block ?_
  refine aw_ops zT fun K20 hK20 => ?_
  simp only [amset, amlib, zset, hget, encLs, encLss_length, two_len, eq_self, ↓reduceIte, reduceCtorEq, Nat.reduceBEq, reduceEqDiff, reduceAdd, reduceMul, reduceLeDiff, reduceLT, reduceSub]
  refine ⟨⟨by omega, by omega⟩, ?_⟩
  refine hK20 _ ?_
  clear hK20
  refine aw_ops zT fun K21 hK21 => ?_
  simp only [amset, amlib, zset, encLs, encLss_length, two_len, eq_self, ↓reduceIte, reduceCtorEq, Nat.reduceBEq, reduceEqDiff, reduceAdd, reduceMul, reduceLeDiff, reduceLT, reduceSub]
  intros
  refine ⟨⟨by omega, by omega⟩, ?_⟩
  refine hK21 _ ?_
  clear hK21
  refine aw_ops zT fun K22 hK22 => ?_
  simp only [amset, amlib, zset, encLs, encLss_length, two_len, eq_self, ↓reduceIte, reduceCtorEq, Nat.reduceBEq, reduceEqDiff, reduceAdd, reduceMul, reduceLeDiff, reduceLT, reduceSub]
  refine hK22 _ ?_
  clear hK22
  refine aw_cond (t := false) (by simp [evalO, S.get, amLook] <;> omega) (fun h => nomatch h) (fun _ => ?_)
  refine aw_skip ?_
  simp only [thenQ, blkQ, if_true, reduceIte, Nat.reduceEqDiff, eq_self]
  refine hK19 _ ?_
  clear hK19
  refine aw_region zT ?_
  simp only [amset, amlib, zset, encLs, encLss_length, two_len, eq_self, ↓reduceIte, reduceCtorEq, Nat.reduceBEq, reduceEqDiff, reduceAdd, reduceMul, reduceLeDiff, reduceLT, reduceSub]
  refine ⟨⟨by omega, by omega⟩, ?_⟩
  refine hR _ trivial ?_
  refine Reach.to ?_ ?_
  ·
   simp only [amset, amlib, zset, encLs, encLss_length, two_len, eq_self, ↓reduceIte, reduceCtorEq, Nat.reduceBEq, reduceEqDiff, reduceAdd, reduceMul, reduceLeDiff, reduceLT, reduceSub] <;> simp [List.flatten_nil, List.flatten_append, List.flatten_cons, List.append_nil, List.length_append, encStrs_append, encStrs_nil]
  ·
   simp only [amset, amlib, zset, encLs, encLss_length, two_len, eq_self, ↓reduceIte, reduceCtorEq, Nat.reduceBEq, reduceEqDiff, reduceAdd, reduceMul, reduceLeDiff, reduceLT, reduceSub] <;> simp [List.flatten_nil, List.flatten_append, List.flatten_cons, List.append_nil, List.length_append, encStrs_append, encStrs_nil]
end Go.Proofs.Am
set_option maxRecDepth 100000
set_option maxHeartbeats 4000000
namespace Go.Proofs.Am
open Nat (reduceEqDiff reduceAdd reduceMul reduceLeDiff reduceLT reduceSub)
theorem holds36g (p : Pg) (hz : p.sensors.length + p.outputs.length ≤ 1000000000000) : Holds Tryz.prog zG 36 [.agg [.sl 3 (encCs p.consts), .sl 4 (encGs p.globals), .sl 1 (encStrs p.sensors), .sl 1 (encStrs p.outputs), .sl 3 (encHs p.channels), .sl 8 (encTs p.tasks)]] [.c (.bool (wfP p))] := by
 refine holds_of_body zT prog36 rfl rfl rfl (by simp [Tryz.f36]) ?_
 refine aw_ops zT fun K1 hK1 => ?_
 refine sg ?_
 refine hK1 _ ?_
 clear hK1
 refine aw_seq fun K2 hK2 => ?_
 refine aw_ops zT fun K3 hK3 => ?_
 refine sg ?_
 intros
 refine hK3 _ ?_
 clear hK3
 refine aw_block ?_
 refine aw_range (α := Cn) (p.consts) (fun dn => dn.all okC = true) (fun dn => [(14, .cell (.c (.int .i64 dn.length)))]) (fun dn => []) [] [2, 4, 14, 15, 16, 17, 18, 19, 20, 21, 22, 23, 24, 25, 26, 27, 28] [4] rfl ?_ ?_ ?_ ?_
 ·
  simp only [amset, amlib, zset, eq_self, ↓reduceIte, reduceCtorEq, Nat.reduceBEq, reduceEqDiff, reduceAdd, reduceMul, reduceLeDiff, reduceLT, reduceSub] <;> simp [eq_self]
 ·
  simp only [amset, amlib, zset, eq_self, ↓reduceIte, reduceCtorEq, Nat.reduceBEq, reduceEqDiff, reduceAdd, reduceMul, reduceLeDiff, reduceLT, reduceSub] <;> simp [eq_self]
 ·
  intro hI R
  refine aw_nm ?_
  refine aw_ops zT fun K4 hK4 => ?_
  refine sg ?_
  refine hK4 _ ?_
  clear hK4
  refine aw_seq fun K5 hK5 => ?_
  refine aw_cond (t := false) (by simp [evalO, S.get, amLook]) (fun h => nomatch h) (fun _ => ?_)
  refine aw_exit ?_
  simp only [thenQ, blkQ, if_true, reduceIte, Nat.reduceEqDiff, eq_self]
  refine hK2 _ ?_
  clear hK2
  refine aw_seq fun K6 hK6 => ?_
  refine aw_ops zT fun K7 hK7 => ?_
  refine sg ?_
  intros
  refine hK7 _ ?_
  clear hK7
  refine aw_block ?_
  refine aw_range (α := Gl) (p.globals) (fun dn1 => dn1.all okG = true) (fun dn1 => [(32, .cell (.c (.int .i64 dn1.length)))]) (fun dn1 => []) [] [2, 6, 32, 33, 34, 35, 36, 37, 38, 39, 40, 41, 42, 43, 44, 45, 46, 47, 48, 49, 50, 51, 52, 53, 54, 55, 56, 57, 58, 59, 60, 61, 62] [6] rfl ?_ ?_ ?_ ?_
  ·
   simp only [amset, amlib, zset, eq_self, ↓reduceIte, reduceCtorEq, Nat.reduceBEq, reduceEqDiff, reduceAdd, reduceMul, reduceLeDiff, reduceLT, reduceSub] <;> simp [eq_self]
  ·
   simp only [amset, amlib, zset, eq_self, ↓reduceIte, reduceCtorEq, Nat.reduceBEq, reduceEqDiff, reduceAdd, reduceMul, reduceLeDiff, reduceLT, reduceSub] <;> simp [eq_self]
  ·
   intro hI1 R1
   refine aw_nm ?_
   refine aw_ops zT fun K8 hK8 => ?_
   refine sg ?_
   refine hK8 _ ?_
   clear hK8
   refine aw_seq fun K9 hK9 => ?_
   refine aw_cond (t := false) (by simp [evalO, S.get, amLook]) (fun h => nomatch h) (fun _ => ?_)
   refine aw_exit ?_
   simp only [thenQ, blkQ, if_true, reduceIte, Nat.reduceEqDiff, eq_self]
   refine hK6 _ ?_
   clear hK6
   refine aw_seq fun K10 hK10 => ?_
   have hll : (p.sensors ++ p.outputs).length = p.sensors.length + p.outputs.length := List.length_append
   refine aw_ops zT fun K11 hK11 => ?_
   refine sg ?_
   refine ⟨_, holds99g p.sensors p.outputs (by simp; omega), ?_⟩
   refine sgl ?_
   intros
   refine hK11 _ ?_
   clear hK11
   refine aw_block ?_
   refine aw_to ⟨[(1, .ptr 1 0), (68, .cell (.c (.sl 1 (encStrs (p.sensors ++ p.outputs))))), (69, .cell (.c (.int .i64 (p.sensors ++ p.outputs).length))), (70, .cell (.c (.int .i64 0)))], [(1, [.c (.sl 3 (encCs p.consts)), .c (.sl 4 (encGs p.globals)), .c (.sl 1 (encStrs p.sensors)), .c (.sl 1 (encStrs p.outputs)), .c (.sl 3 (encHs p.channels)), .c (.sl 8 (encTs p.tasks))])]⟩ ?_ ?_ ?_
   ·
    simp only [amset, amlib, zset, eq_self, ↓reduceIte, reduceCtorEq, Nat.reduceBEq, reduceEqDiff, reduceAdd, reduceMul, reduceLeDiff, reduceLT, reduceSub] <;> simp [eq_self]
   ·
    simp only [amset, amlib, zset, eq_self, ↓reduceIte, reduceCtorEq, Nat.reduceBEq, reduceEqDiff, reduceAdd, reduceMul, reduceLeDiff, reduceLT, reduceSub] <;> simp [eq_self]
   refine aw_range (α := (List UInt8)) ((p.sensors ++ p.outputs)) (fun dn2 => dn2.all ident = true) (fun dn2 => [(70, .cell (.c (.int .i64 dn2.length)))]) (fun dn2 => []) [] [2, 8, 70, 71, 72, 73, 74, 75, 76, 77] [] rfl ?_ ?_ ?_ ?_
   ·
    simp only [amset, amlib, zset, eq_self, ↓reduceIte, reduceCtorEq, Nat.reduceBEq, reduceEqDiff, reduceAdd, reduceMul, reduceLeDiff, reduceLT, reduceSub] <;> simp [eq_self]
   ·
    simp only [amset, amlib, zset, eq_self, ↓reduceIte, reduceCtorEq, Nat.reduceBEq, reduceEqDiff, reduceAdd, reduceMul, reduceLeDiff, reduceLT, reduceSub] <;> simp [eq_self]
   ·
    intro hI2 R2
    refine aw_nm ?_
    refine aw_ops zT fun K12 hK12 => ?_
    refine sg ?_
    refine hK12 _ ?_
    clear hK12
    refine aw_seq fun K13 hK13 => ?_
    refine aw_cond (t := false) (by simp [evalO, S.get, amLook]) (fun h => nomatch h) (fun _ => ?_)
    refine aw_exit ?_
    simp only [thenQ, blkQ, if_true, reduceIte, Nat.reduceEqDiff, eq_self]
    refine hK10 _ ?_
    clear hK10
    refine aw_seq fun K14 hK14 => ?_
    refine aw_ops zT fun K15 hK15 => ?_
    refine sg ?_
    intros
    refine hK15 _ ?_
    clear hK15
    refine aw_block ?_
    refine aw_range (α := Ch) (p.channels) (fun dn3 => dn3.all okH = true) (fun dn3 => [(81, .cell (.c (.int .i64 dn3.length)))]) (fun dn3 => []) [] [2, 10, 81, 82, 83, 84, 85, 86, 87, 88, 89, 90, 91, 92, 93, 94, 95] [10] rfl ?_ ?_ ?_ ?_
    ·
     simp only [amset, amlib, zset, eq_self, ↓reduceIte, reduceCtorEq, Nat.reduceBEq, reduceEqDiff, reduceAdd, reduceMul, reduceLeDiff, reduceLT, reduceSub] <;> simp [eq_self]
    ·
     simp only [amset, amlib, zset, eq_self, ↓reduceIte, reduceCtorEq, Nat.reduceBEq, reduceEqDiff, reduceAdd, reduceMul, reduceLeDiff, reduceLT, reduceSub] <;> simp [eq_self]
    ·
     intro hI3 R3
     refine aw_nm ?_
     refine aw_ops zT fun K16 hK16 => ?_
     refine sg ?_
     refine hK16 _ ?_
     clear hK16
     refine aw_seq fun K17 hK17 => ?_
     refine aw_cond (t := false) (by simp [evalO, S.get, amLook]) (fun h => nomatch h) (fun _ => ?_)
     refine aw_exit ?_
     simp only [thenQ, blkQ, if_true, reduceIte, Nat.reduceEqDiff, eq_self]
     refine hK14 _ ?_
     clear hK14
     refine aw_ops zT fun K18 hK18 => ?_
     refine sg ?_
     refine ⟨_, holds100 101 (fun y => !wfT y) p.tasks (fun y _ => holds101 y), ?_⟩
     refine sgl ?_
     refine hK18 _ ?_
     clear hK18
     refine aw_ret ?_
     show resOf zG _ [.tmp 2] = some _
     simp only [amset, amlib, zset, eq_self, ↓reduceIte, reduceCtorEq, Nat.reduceBEq, reduceEqDiff, reduceAdd, reduceMul, reduceLeDiff, reduceLT, reduceSub]
     rw [tasks_any]
     simp only [wfP, hI, hI1, hI2, hI3, bools, ↓reduceIte]
    ·
     intro dn3 y3 td3 harg3 hI3 R3 hR3
     have hl3 : (p.channels).length = dn3.length + (td3.length + 1) := by rw [harg3]; simp
     have hmem3 : y3 ∈ p.channels := by rw [harg3]; simp
     refine aw_nm ?_
     have hget3 : (encHs (p.channels)).getD dn3.length [] = encH y3 := by rw [harg3]; exact encHs_mid dn3 td3 y3
     refine aw_ops zT fun K19 hK19 => ?_
     refine sg ?_
     refine hK19 _ ?_
     clear hK19
     refine aw_seq fun K20 hK20 => ?_
     refine aw_cond (t := true) (by simp [evalO, S.get, amLook]; omega) (fun _ => ?_) (fun h => nomatch h)
     refine aw_skip ?_
     simp only [thenQ, blkQ, if_true, reduceIte, Nat.reduceEqDiff, eq_self]
     refine hK20 _ ?_
     clear hK20
     refine aw_seq fun K21 hK21 => ?_
     refine aw_block ?_
     refine aw_ops zT fun K22 hK22 => ?_
     simp only [amset, amlib, zset, hget3, eq_self, ↓reduceIte, reduceCtorEq, Nat.reduceBEq, reduceEqDiff, reduceAdd, reduceMul, reduceLeDiff, reduceLT, reduceSub]
     refine ⟨⟨by omega, by omega⟩, ?_⟩
     refine hK22 _ ?_
     clear hK22
     refine aw_ops zT fun K23 hK23 => ?_
     cases a0 : ident y3.name with
     | true =>
      cases a1 : numA y3.cap with
      | true =>
       simp only [amset, amlib, zset, a0, a1, eq_self, ↓reduceIte, reduceCtorEq, Nat.reduceBEq, reduceEqDiff, reduceAdd, reduceMul, reduceLeDiff, reduceLT, reduceSub]
       refine ⟨_, holds96 _, ?_⟩
       simp only [later]
       simp only [amset, amlib, zset, a0, a1, eq_self, ↓reduceIte, reduceCtorEq, Nat.reduceBEq, reduceEqDiff, reduceAdd, reduceMul, reduceLeDiff, reduceLT, reduceSub]
       refine ⟨_, holds98 _, ?_⟩
       simp only [later]
       simp only [amset, amlib, zset, a0, a1, eq_self, ↓reduceIte, reduceCtorEq, Nat.reduceBEq, reduceEqDiff, reduceAdd, reduceMul, reduceLeDiff, reduceLT, reduceSub]
       refine hK23 _ ?_
       clear hK23
       refine aw_cond (t := false) rfl (fun h => nomatch h) (fun _ => ?_)
       refine aw_skip ?_
       simp only [thenQ, blkQ, if_true, reduceIte, Nat.reduceEqDiff, eq_self]
       refine hK21 _ ?_
       clear hK21
       refine aw_region zT ?_
       refine sg ?_
       refine ⟨⟨by omega, by omega⟩, ?_⟩
       refine hR3 _ (by rw [List.all_append, hI3]; simp only [List.all_cons, List.all_nil, okH, a0, a1, bools, ↓reduceIte]) ?_
       refine Reach.to ?_ ?_
       ·
        simp only [amset, amlib, zset, eq_self, ↓reduceIte, reduceCtorEq, Nat.reduceBEq, reduceEqDiff, reduceAdd, reduceMul, reduceLeDiff, reduceLT, reduceSub] <;> simp [eq_self]
       ·
        simp only [amset, amlib, zset, eq_self, ↓reduceIte, reduceCtorEq, Nat.reduceBEq, reduceEqDiff, reduceAdd, reduceMul, reduceLeDiff, reduceLT, reduceSub] <;> simp [eq_self]
      | false =>
       simp only [amset, amlib, zset, a0, a1, eq_self, ↓reduceIte, reduceCtorEq, Nat.reduceBEq, reduceEqDiff, reduceAdd, reduceMul, reduceLeDiff, reduceLT, reduceSub]
       refine ⟨_, holds96 _, ?_⟩
       simp only [later]
       simp only [amset, amlib, zset, a0, a1, eq_self, ↓reduceIte, reduceCtorEq, Nat.reduceBEq, reduceEqDiff, reduceAdd, reduceMul, reduceLeDiff, reduceLT, reduceSub]
       refine ⟨_, holds98 _, ?_⟩
       simp only [later]
       simp only [amset, amlib, zset, a0, a1, eq_self, ↓reduceIte, reduceCtorEq, Nat.reduceBEq, reduceEqDiff, reduceAdd, reduceMul, reduceLeDiff, reduceLT, reduceSub]
       refine hK23 _ ?_
       clear hK23
       refine aw_cond (t := true) rfl (fun _ => ?_) (fun h => nomatch h)
       refine aw_ops zT fun K24 hK24 => ?_
       refine sg ?_
       refine hK24 _ ?_
       clear hK24
       refine aw_ret ?_
       show resOf zG _ [.tmp 2] = some _
       refine sg ?_
       have hf : p.channels.all okH = false := by
        rw [harg3, List.all_append, List.all_cons]
        have : okH y3 = false := by simp only [okH, a0, a1, bools, ↓reduceIte]
        rw [this]; simp
       simp only [wfP, hf, bools, ↓reduceIte]
     | false =>
      simp only [amset, amlib, zset, a0, eq_self, ↓reduceIte, reduceCtorEq, Nat.reduceBEq, reduceEqDiff, reduceAdd, reduceMul, reduceLeDiff, reduceLT, reduceSub]
      refine ⟨_, holds96 _, ?_⟩
      simp only [later]
      simp only [amset, amlib, zset, a0, eq_self, ↓reduceIte, reduceCtorEq, Nat.reduceBEq, reduceEqDiff, reduceAdd, reduceMul, reduceLeDiff, reduceLT, reduceSub]
      refine hK23 _ ?_
      clear hK23
      refine aw_cond (t := true) rfl (fun _ => ?_) (fun h => nomatch h)
      refine aw_ops zT fun K25 hK25 => ?_
      refine sg ?_
      refine hK25 _ ?_
      clear hK25
      refine aw_ret ?_
      show resOf zG _ [.tmp 2] = some _
      refine sg ?_
      have hf : p.channels.all okH = false := by
       rw [harg3, List.all_append, List.all_cons]
       have : okH y3 = false := by simp only [okH, a0, bools, ↓reduceIte]
       rw [this]; simp
      simp only [wfP, hf, bools, ↓reduceIte]
   ·
    intro dn2 y2 td2 harg2 hI2 R2 hR2
    have hl2 : ((p.sensors ++ p.outputs)).length = dn2.length + (td2.length + 1) := by rw [harg2]; simp
    have hmem2 : y2 ∈ (p.sensors ++ p.outputs) := by rw [harg2]; simp
    refine aw_nm ?_
    have hget2 : (encStrs ((p.sensors ++ p.outputs))).getD dn2.length [] = encStr y2 := by rw [harg2]; exact encStrs_mid dn2 td2 y2
    refine aw_ops zT fun K26 hK26 => ?_
    refine sg ?_
    refine hK26 _ ?_
    clear hK26
    refine aw_seq fun K27 hK27 => ?_
    refine aw_cond (t := true) (by simp [evalO, S.get, amLook]; omega) (fun _ => ?_) (fun h => nomatch h)
    refine aw_skip ?_
    simp only [thenQ, blkQ, if_true, reduceIte, Nat.reduceEqDiff, eq_self]
    refine hK27 _ ?_
    clear hK27
    refine aw_seq fun K28 hK28 => ?_
    refine aw_block ?_
    refine aw_ops zT fun K29 hK29 => ?_
    simp only [amset, amlib, zset, hget2, eq_self, ↓reduceIte, reduceCtorEq, Nat.reduceBEq, reduceEqDiff, reduceAdd, reduceMul, reduceLeDiff, reduceLT, reduceSub]
    refine ⟨⟨by omega, by omega⟩, ?_⟩
    refine hK29 _ ?_
    clear hK29
    refine aw_ops zT fun K30 hK30 => ?_
    refine sg ?_
    refine ⟨_, holds96 _, ?_⟩
    refine sgl ?_
    refine hK30 _ ?_
    clear hK30
    refine aw_cond rfl (fun h0 => ?_) (fun h0 => ?_)
    ·
     refine aw_ops zT fun K31 hK31 => ?_
     refine sg ?_
     refine hK31 _ ?_
     clear hK31
     refine aw_ret ?_
     show resOf zG _ [.tmp 2] = some _
     refine sg ?_
     have hf : (p.sensors ++ p.outputs).all ident = false := by
      rw [harg2, List.all_append, List.all_cons]
      have : ident y2 = false := by simpa using h0
      rw [this]; simp
     simp only [wfP, hf, bools, ↓reduceIte]
    ·
     refine aw_skip ?_
     simp only [thenQ, blkQ, if_true, reduceIte, Nat.reduceEqDiff, eq_self]
     refine hK28 _ ?_
     clear hK28
     refine aw_region zT ?_
     refine sg ?_
     refine ⟨⟨by omega, by omega⟩, ?_⟩
     refine hR2 _ (by rw [List.all_append, hI2]; simpa using h0) ?_
     refine Reach.to ?_ ?_
     ·
      simp only [amset, amlib, zset, eq_self, ↓reduceIte, reduceCtorEq, Nat.reduceBEq, reduceEqDiff, reduceAdd, reduceMul, reduceLeDiff, reduceLT, reduceSub] <;> simp [eq_self]
     ·
      simp only [amset, amlib, zset, eq_self, ↓reduceIte, reduceCtorEq, Nat.reduceBEq, reduceEqDiff, reduceAdd, reduceMul, reduceLeDiff, reduceLT, reduceSub] <;> simp [eq_self]
  ·
   intro dn1 y1 td1 harg1 hI1 R1 hR1
   have hl1 : (p.globals).length = dn1.length + (td1.length + 1) := by rw [harg1]; simp
   have hmem1 : y1 ∈ p.globals := by rw [harg1]; simp
   refine aw_nm ?_
   have hget1 : (encGs (p.globals)).getD dn1.length [] = encG y1 := by rw [harg1]; exact encGs_mid dn1 td1 y1
   refine aw_ops zT fun K32 hK32 => ?_
   refine sg ?_
   refine hK32 _ ?_
   clear hK32
   refine aw_seq fun K33 hK33 => ?_
   refine aw_cond (t := true) (by simp [evalO, S.get, amLook]; omega) (fun _ => ?_) (fun h => nomatch h)
   refine aw_skip ?_
   simp only [thenQ, blkQ, if_true, reduceIte, Nat.reduceEqDiff, eq_self]
   refine hK33 _ ?_
   clear hK33
   refine aw_seq fun K34 hK34 => ?_
   refine aw_block ?_
   refine aw_ops zT fun K35 hK35 => ?_
   simp only [amset, amlib, zset, hget1, eq_self, ↓reduceIte, reduceCtorEq, Nat.reduceBEq, reduceEqDiff, reduceAdd, reduceMul, reduceLeDiff, reduceLT, reduceSub]
   refine ⟨⟨by omega, by omega⟩, ?_⟩
   refine hK35 _ ?_
   clear hK35
   refine aw_ops zT fun K36 hK36 => ?_
   cases a0 : ident y1.name with
   | true =>
    cases a1 : numA y1.len with
    | true =>
     cases a2 : signedA y1.init with
     | true =>
      cases a3 : decide (y1.len > 0) with
      | true =>
       cases a4 : (y1.init != 0) with
       | true =>
        simp only [amset, amlib, zset, a0, a1, a2, a3, a4, eq_self, ↓reduceIte, reduceCtorEq, Nat.reduceBEq, reduceEqDiff, reduceAdd, reduceMul, reduceLeDiff, reduceLT, reduceSub]
        refine ⟨_, holds96 _, ?_⟩
        simp only [later]
        simp only [amset, amlib, zset, a0, a1, a2, a3, a4, eq_self, ↓reduceIte, reduceCtorEq, Nat.reduceBEq, reduceEqDiff, reduceAdd, reduceMul, reduceLeDiff, reduceLT, reduceSub]
        refine ⟨_, holds98 _, ?_⟩
        simp only [later]
        simp only [amset, amlib, zset, a0, a1, a2, a3, a4, eq_self, ↓reduceIte, reduceCtorEq, Nat.reduceBEq, reduceEqDiff, reduceAdd, reduceMul, reduceLeDiff, reduceLT, reduceSub]
        refine ⟨_, holds97 _, ?_⟩
        simp only [later]
        simp only [amset, amlib, zset, a0, a1, a2, a3, a4, eq_self, ↓reduceIte, reduceCtorEq, Nat.reduceBEq, reduceEqDiff, reduceAdd, reduceMul, reduceLeDiff, reduceLT, reduceSub]
        refine hK36 _ ?_
        clear hK36
        refine aw_cond (t := true) rfl (fun _ => ?_) (fun h => nomatch h)
        refine aw_ops zT fun K37 hK37 => ?_
        refine sg ?_
        refine hK37 _ ?_
        clear hK37
        refine aw_ret ?_
        show resOf zG _ [.tmp 2] = some _
        refine sg ?_
        have hf : p.globals.all okG = false := by
         rw [harg1, List.all_append, List.all_cons]
         have : okG y1 = false := by simp only [okG, a0, a1, a2, a3, a4, bools, ↓reduceIte]
         rw [this]; simp
        simp only [wfP, hf, bools, ↓reduceIte]
       | false =>
        simp only [amset, amlib, zset, a0, a1, a2, a3, a4, eq_self, ↓reduceIte, reduceCtorEq, Nat.reduceBEq, reduceEqDiff, reduceAdd, reduceMul, reduceLeDiff, reduceLT, reduceSub]
        refine ⟨_, holds96 _, ?_⟩
        simp only [later]
        simp only [amset, amlib, zset, a0, a1, a2, a3, a4, eq_self, ↓reduceIte, reduceCtorEq, Nat.reduceBEq, reduceEqDiff, reduceAdd, reduceMul, reduceLeDiff, reduceLT, reduceSub]
        refine ⟨_, holds98 _, ?_⟩
        simp only [later]
        simp only [amset, amlib, zset, a0, a1, a2, a3, a4, eq_self, ↓reduceIte, reduceCtorEq, Nat.reduceBEq, reduceEqDiff, reduceAdd, reduceMul, reduceLeDiff, reduceLT, reduceSub]
        refine ⟨_, holds97 _, ?_⟩
        simp only [later]
        simp only [amset, amlib, zset, a0, a1, a2, a3, a4, eq_self, ↓reduceIte, reduceCtorEq, Nat.reduceBEq, reduceEqDiff, reduceAdd, reduceMul, reduceLeDiff, reduceLT, reduceSub]
        refine hK36 _ ?_
        clear hK36
        refine aw_cond (t := false) rfl (fun h => nomatch h) (fun _ => ?_)
        refine aw_skip ?_
        simp only [thenQ, blkQ, if_true, reduceIte, Nat.reduceEqDiff, eq_self]
        refine hK34 _ ?_
        clear hK34
        refine aw_region zT ?_
        refine sg ?_
        refine ⟨⟨by omega, by omega⟩, ?_⟩
        refine hR1 _ (by rw [List.all_append, hI1]; simp only [List.all_cons, List.all_nil, okG, a0, a1, a2, a3, a4, bools, ↓reduceIte]) ?_
        refine Reach.to ?_ ?_
        ·
         simp only [amset, amlib, zset, eq_self, ↓reduceIte, reduceCtorEq, Nat.reduceBEq, reduceEqDiff, reduceAdd, reduceMul, reduceLeDiff, reduceLT, reduceSub] <;> simp [eq_self]
        ·
         simp only [amset, amlib, zset, eq_self, ↓reduceIte, reduceCtorEq, Nat.reduceBEq, reduceEqDiff, reduceAdd, reduceMul, reduceLeDiff, reduceLT, reduceSub] <;> simp [eq_self]
      | false =>
       simp only [amset, amlib, zset, a0, a1, a2, a3, eq_self, ↓reduceIte, reduceCtorEq, Nat.reduceBEq, reduceEqDiff, reduceAdd, reduceMul, reduceLeDiff, reduceLT, reduceSub]
       refine ⟨_, holds96 _, ?_⟩
       simp only [later]
       simp only [amset, amlib, zset, a0, a1, a2, a3, eq_self, ↓reduceIte, reduceCtorEq, Nat.reduceBEq, reduceEqDiff, reduceAdd, reduceMul, reduceLeDiff, reduceLT, reduceSub]
       refine ⟨_, holds98 _, ?_⟩
       simp only [later]
       simp only [amset, amlib, zset, a0, a1, a2, a3, eq_self, ↓reduceIte, reduceCtorEq, Nat.reduceBEq, reduceEqDiff, reduceAdd, reduceMul, reduceLeDiff, reduceLT, reduceSub]
       refine ⟨_, holds97 _, ?_⟩
       simp only [later]
       simp only [amset, amlib, zset, a0, a1, a2, a3, eq_self, ↓reduceIte, reduceCtorEq, Nat.reduceBEq, reduceEqDiff, reduceAdd, reduceMul, reduceLeDiff, reduceLT, reduceSub]
       refine hK36 _ ?_
       clear hK36
       refine aw_cond (t := false) rfl (fun h => nomatch h) (fun _ => ?_)
       refine aw_skip ?_
       simp only [thenQ, blkQ, if_true, reduceIte, Nat.reduceEqDiff, eq_self]
       refine hK34 _ ?_
       clear hK34
       refine aw_region zT ?_
       refine sg ?_
       refine ⟨⟨by omega, by omega⟩, ?_⟩
       refine hR1 _ (by rw [List.all_append, hI1]; simp only [List.all_cons, List.all_nil, okG, a0, a1, a2, a3, bools, ↓reduceIte]) ?_
       refine Reach.to ?_ ?_
       ·
        simp only [amset, amlib, zset, eq_self, ↓reduceIte, reduceCtorEq, Nat.reduceBEq, reduceEqDiff, reduceAdd, reduceMul, reduceLeDiff, reduceLT, reduceSub] <;> simp [eq_self]
       ·
        simp only [amset, amlib, zset, eq_self, ↓reduceIte, reduceCtorEq, Nat.reduceBEq, reduceEqDiff, reduceAdd, reduceMul, reduceLeDiff, reduceLT, reduceSub] <;> simp [eq_self]
     | false =>
      simp only [amset, amlib, zset, a0, a1, a2, eq_self, ↓reduceIte, reduceCtorEq, Nat.reduceBEq, reduceEqDiff, reduceAdd, reduceMul, reduceLeDiff, reduceLT, reduceSub]
      refine ⟨_, holds96 _, ?_⟩
      simp only [later]
      simp only [amset, amlib, zset, a0, a1, a2, eq_self, ↓reduceIte, reduceCtorEq, Nat.reduceBEq, reduceEqDiff, reduceAdd, reduceMul, reduceLeDiff, reduceLT, reduceSub]
      refine ⟨_, holds98 _, ?_⟩
      simp only [later]
      simp only [amset, amlib, zset, a0, a1, a2, eq_self, ↓reduceIte, reduceCtorEq, Nat.reduceBEq, reduceEqDiff, reduceAdd, reduceMul, reduceLeDiff, reduceLT, reduceSub]
      refine ⟨_, holds97 _, ?_⟩
      simp only [later]
      simp only [amset, amlib, zset, a0, a1, a2, eq_self, ↓reduceIte, reduceCtorEq, Nat.reduceBEq, reduceEqDiff, reduceAdd, reduceMul, reduceLeDiff, reduceLT, reduceSub]
      refine hK36 _ ?_
      clear hK36
      refine aw_cond (t := true) rfl (fun _ => ?_) (fun h => nomatch h)
      refine aw_ops zT fun K38 hK38 => ?_
      refine sg ?_
      refine hK38 _ ?_
      clear hK38
      refine aw_ret ?_
      show resOf zG _ [.tmp 2] = some _
      refine sg ?_
      have hf : p.globals.all okG = false := by
       rw [harg1, List.all_append, List.all_cons]
       have : okG y1 = false := by simp only [okG, a0, a1, a2, bools, ↓reduceIte]
       rw [this]; simp
      simp only [wfP, hf, bools, ↓reduceIte]
    | false =>
     simp only [amset, amlib, zset, a0, a1, eq_self, ↓reduceIte, reduceCtorEq, Nat.reduceBEq, reduceEqDiff, reduceAdd, reduceMul, reduceLeDiff, reduceLT, reduceSub]
     refine ⟨_, holds96 _, ?_⟩
     simp only [later]
     simp only [amset, amlib, zset, a0, a1, eq_self, ↓reduceIte, reduceCtorEq, Nat.reduceBEq, reduceEqDiff, reduceAdd, reduceMul, reduceLeDiff, reduceLT, reduceSub]
     refine ⟨_, holds98 _, ?_⟩
     simp only [later]
     simp only [amset, amlib, zset, a0, a1, eq_self, ↓reduceIte, reduceCtorEq, Nat.reduceBEq, reduceEqDiff, reduceAdd, reduceMul, reduceLeDiff, reduceLT, reduceSub]
     refine hK36 _ ?_
     clear hK36
     refine aw_cond (t := true) rfl (fun _ => ?_) (fun h => nomatch h)
     refine aw_ops zT fun K39 hK39 => ?_
     refine sg ?_
     refine hK39 _ ?_
     clear hK39
     refine aw_ret ?_
     show resOf zG _ [.tmp 2] = some _
     refine sg ?_
     have hf : p.globals.all okG = false := by
      rw [harg1, List.all_append, List.all_cons]
      have : okG y1 = false := by simp only [okG, a0, a1, bools, ↓reduceIte]
      rw [this]; simp
     simp only [wfP, hf, bools, ↓reduceIte]
   | false =>
    simp only [amset, amlib, zset, a0, eq_self, ↓reduceIte, reduceCtorEq, Nat.reduceBEq, reduceEqDiff, reduceAdd, reduceMul, reduceLeDiff, reduceLT, reduceSub]
    refine ⟨_, holds96 _, ?_⟩
    simp only [later]
    simp only [amset, amlib, zset, a0, eq_self, ↓reduceIte, reduceCtorEq, Nat.reduceBEq, reduceEqDiff, reduceAdd, reduceMul, reduceLeDiff, reduceLT, reduceSub]
    refine hK36 _ ?_
    clear hK36
    refine aw_cond (t := true) rfl (fun _ => ?_) (fun h => nomatch h)
    refine aw_ops zT fun K40 hK40 => ?_
    refine sg ?_
    refine hK40 _ ?_
    clear hK40
    refine aw_ret ?_
    show resOf zG _ [.tmp 2] = some _
    refine sg ?_
    have hf : p.globals.all okG = false := by
     rw [harg1, List.all_append, List.all_cons]
     have : okG y1 = false := by simp only [okG, a0, bools, ↓reduceIte]
     rw [this]; simp
    simp only [wfP, hf, bools, ↓reduceIte]
 ·
  intro dn y td harg hI R hR
  have hl : (p.consts).length = dn.length + (td.length + 1) := by rw [harg]; simp
  have hmem : y ∈ p.consts := by rw [harg]; simp
  refine aw_nm ?_
  have hget : (encCs (p.consts)).getD dn.length [] = encC y := by rw [harg]; exact encCs_mid dn td y
  refine aw_ops zT fun K41 hK41 => ?_
  refine sg ?_
  refine hK41 _ ?_
  clear hK41
  refine aw_seq fun K42 hK42 => ?_
  refine aw_cond (t := true) (by simp [evalO, S.get, amLook]; omega) (fun _ => ?_) (fun h => nomatch h)
  refine aw_skip ?_
  simp only [thenQ, blkQ, if_true, reduceIte, Nat.reduceEqDiff, eq_self]
  refine hK42 _ ?_
  clear hK42
  refine aw_seq fun K43 hK43 => ?_
  refine aw_block ?_
  refine aw_ops zT fun K44 hK44 => ?_
  simp only [amset, amlib, zset, hget, eq_self, ↓reduceIte, reduceCtorEq, Nat.reduceBEq, reduceEqDiff, reduceAdd, reduceMul, reduceLeDiff, reduceLT, reduceSub]
  refine ⟨⟨by omega, by omega⟩, ?_⟩
  refine hK44 _ ?_
  clear hK44
  refine aw_ops zT fun K45 hK45 => ?_
  cases a0 : ident y.name with
  | true =>
   cases a1 : signedA y.value with
   | true =>
    simp only [amset, amlib, zset, a0, a1, eq_self, ↓reduceIte, reduceCtorEq, Nat.reduceBEq, reduceEqDiff, reduceAdd, reduceMul, reduceLeDiff, reduceLT, reduceSub]
    refine ⟨_, holds96 _, ?_⟩
    simp only [later]
    simp only [amset, amlib, zset, a0, a1, eq_self, ↓reduceIte, reduceCtorEq, Nat.reduceBEq, reduceEqDiff, reduceAdd, reduceMul, reduceLeDiff, reduceLT, reduceSub]
    refine ⟨_, holds97 _, ?_⟩
    simp only [later]
    simp only [amset, amlib, zset, a0, a1, eq_self, ↓reduceIte, reduceCtorEq, Nat.reduceBEq, reduceEqDiff, reduceAdd, reduceMul, reduceLeDiff, reduceLT, reduceSub]
    refine hK45 _ ?_
    clear hK45
    refine aw_cond (t := false) rfl (fun h => nomatch h) (fun _ => ?_)
    refine aw_skip ?_
    simp only [thenQ, blkQ, if_true, reduceIte, Nat.reduceEqDiff, eq_self]
    refine hK43 _ ?_
    clear hK43
    refine aw_region zT ?_
    refine sg ?_
    refine ⟨⟨by omega, by omega⟩, ?_⟩
    refine hR _ (by rw [List.all_append, hI]; simp only [List.all_cons, List.all_nil, okC, a0, a1, bools, ↓reduceIte]) ?_
    refine Reach.to ?_ ?_
    ·
     simp only [amset, amlib, zset, eq_self, ↓reduceIte, reduceCtorEq, Nat.reduceBEq, reduceEqDiff, reduceAdd, reduceMul, reduceLeDiff, reduceLT, reduceSub] <;> simp [eq_self]
    ·
     simp only [amset, amlib, zset, eq_self, ↓reduceIte, reduceCtorEq, Nat.reduceBEq, reduceEqDiff, reduceAdd, reduceMul, reduceLeDiff, reduceLT, reduceSub] <;> simp [eq_self]
   | false =>
    simp only [amset, amlib, zset, a0, a1, eq_self, ↓reduceIte, reduceCtorEq, Nat.reduceBEq, reduceEqDiff, reduceAdd, reduceMul, reduceLeDiff, reduceLT, reduceSub]
    refine ⟨_, holds96 _, ?_⟩
    simp only [later]
    simp only [amset, amlib, zset, a0, a1, eq_self, ↓reduceIte, reduceCtorEq, Nat.reduceBEq, reduceEqDiff, reduceAdd, reduceMul, reduceLeDiff, reduceLT, reduceSub]
    refine ⟨_, holds97 _, ?_⟩
    simp only [later]
    simp only [amset, amlib, zset, a0, a1, eq_self, ↓reduceIte, reduceCtorEq, Nat.reduceBEq, reduceEqDiff, reduceAdd, reduceMul, reduceLeDiff, reduceLT, reduceSub]
    refine hK45 _ ?_
    clear hK45
    refine aw_cond (t := true) rfl (fun _ => ?_) (fun h => nomatch h)
    refine aw_ops zT fun K46 hK46 => ?_
    refine sg ?_
    refine hK46 _ ?_
    clear hK46
    refine aw_ret ?_
    show resOf zG _ [.tmp 2] = some _
    refine sg ?_
    have hf : p.consts.all okC = false := by
     rw [harg, List.all_append, List.all_cons]
     have : okC y = false := by simp only [okC, a0, a1, bools, ↓reduceIte]
     rw [this]; simp
    simp only [wfP, hf, bools, ↓reduceIte]
  | false =>
   simp only [amset, amlib, zset, a0, eq_self, ↓reduceIte, reduceCtorEq, Nat.reduceBEq, reduceEqDiff, reduceAdd, reduceMul, reduceLeDiff, reduceLT, reduceSub]
   refine ⟨_, holds96 _, ?_⟩
   simp only [later]
   simp only [amset, amlib, zset, a0, eq_self, ↓reduceIte, reduceCtorEq, Nat.reduceBEq, reduceEqDiff, reduceAdd, reduceMul, reduceLeDiff, reduceLT, reduceSub]
   refine hK45 _ ?_
   clear hK45
   refine aw_cond (t := true) rfl (fun _ => ?_) (fun h => nomatch h)
   refine aw_ops zT fun K47 hK47 => ?_
   refine sg ?_
   refine hK47 _ ?_
   clear hK47
   refine aw_ret ?_
   show resOf zG _ [.tmp 2] = some _
   refine sg ?_
   have hf : p.consts.all okC = false := by
    rw [harg, List.all_append, List.all_cons]
    have : okC y = false := by simp only [okC, a0, bools, ↓reduceIte]
    rw [this]; simp
   simp only [wfP, hf, bools, ↓reduceIte]
end Go.Proofs.Am
set_option maxRecDepth 100000
set_option maxHeartbeats 4000000
namespace Go.Proofs.Am
open Nat (reduceEqDiff reduceAdd reduceMul reduceLeDiff reduceLT reduceSub)
def tkOK (t : Tk) : Bool := !((!ident t.name) || (!numOk t.deadline 0) || (!stsOK t.body)) && (if (t.period != 0) then (numOk t.period 1 && (t.channel == []) && (t.param == []) && (t.within == 0)) else (ident t.channel && ident t.param && numOk t.within 0))
theorem prog104 : Tryz.prog.funcs[104]? = some Tryz.f104 := by kernel_rfl
theorem holds104 (t : Tk) : Holds Tryz.prog zG 104 [.agg [.str t.name, .int .i64 t.period, .int .i64 t.deadline, .str t.channel, .str t.param, .int .i64 t.within, .sl 7 (encSs t.body), .int .i64 t.pos]] [.c (.bool (tkOK t))] := by
 refine holds_of_body zT prog104 rfl rfl rfl (by simp [Tryz.f104]) ?_
 refine aw_ops zT fun K1 hK1 => ?_
 refine sg ?_
 refine hK1 _ ?_
 clear hK1
 refine aw_seq fun K2 hK2 => ?_
 refine aw_ops zT fun K3 hK3 => ?_
 cases q0 : (!ident t.name) with
 | true =>
  simp only [amset, amlib, zset, q0, eq_self, ↓reduceIte, reduceCtorEq, Nat.reduceBEq, reduceEqDiff, reduceAdd, reduceMul, reduceLeDiff, reduceLT, reduceSub]
  refine ⟨_, holds74 t.name, ?_⟩
  simp only [later]
  simp only [amset, amlib, zset, q0, eq_self, ↓reduceIte, reduceCtorEq, Nat.reduceBEq, reduceEqDiff, reduceAdd, reduceMul, reduceLeDiff, reduceLT, reduceSub]
  refine hK3 _ ?_
  clear hK3
  refine aw_cond (t := true) rfl (fun _ => ?_) (fun h => nomatch h)
  refine aw_ops zT fun K4 hK4 => ?_
  refine sg ?_
  refine hK4 _ ?_
  clear hK4
  refine aw_ret ?_
  show resOf zG _ [.tmp 2] = some _
  simp only [amset, amlib, zset, eq_self, ↓reduceIte, reduceCtorEq, Nat.reduceBEq, reduceEqDiff, reduceAdd, reduceMul, reduceLeDiff, reduceLT, reduceSub]
  simp only [tkOK, q0, bools, ↓reduceIte]
 | false =>
  cases q1 : (!numOk t.deadline 0) with
  | true =>
   simp only [amset, amlib, zset, q0, q1, eq_self, ↓reduceIte, reduceCtorEq, Nat.reduceBEq, reduceEqDiff, reduceAdd, reduceMul, reduceLeDiff, reduceLT, reduceSub]
   refine ⟨_, holds74 t.name, ?_⟩
   simp only [later]
   simp only [amset, amlib, zset, q0, q1, eq_self, ↓reduceIte, reduceCtorEq, Nat.reduceBEq, reduceEqDiff, reduceAdd, reduceMul, reduceLeDiff, reduceLT, reduceSub]
   refine ⟨_, holds103 t.deadline 0, ?_⟩
   simp only [later]
   simp only [amset, amlib, zset, q0, q1, eq_self, ↓reduceIte, reduceCtorEq, Nat.reduceBEq, reduceEqDiff, reduceAdd, reduceMul, reduceLeDiff, reduceLT, reduceSub]
   refine hK3 _ ?_
   clear hK3
   refine aw_cond (t := true) rfl (fun _ => ?_) (fun h => nomatch h)
   refine aw_ops zT fun K5 hK5 => ?_
   refine sg ?_
   refine hK5 _ ?_
   clear hK5
   refine aw_ret ?_
   show resOf zG _ [.tmp 2] = some _
   simp only [amset, amlib, zset, eq_self, ↓reduceIte, reduceCtorEq, Nat.reduceBEq, reduceEqDiff, reduceAdd, reduceMul, reduceLeDiff, reduceLT, reduceSub]
   simp only [tkOK, q0, q1, bools, ↓reduceIte]
  | false =>
   cases q2 : (!stsOK t.body) with
   | true =>
    simp only [amset, amlib, zset, q0, q1, q2, eq_self, ↓reduceIte, reduceCtorEq, Nat.reduceBEq, reduceEqDiff, reduceAdd, reduceMul, reduceLeDiff, reduceLT, reduceSub]
    refine ⟨_, holds74 t.name, ?_⟩
    simp only [later]
    simp only [amset, amlib, zset, q0, q1, q2, eq_self, ↓reduceIte, reduceCtorEq, Nat.reduceBEq, reduceEqDiff, reduceAdd, reduceMul, reduceLeDiff, reduceLT, reduceSub]
    refine ⟨_, holds103 t.deadline 0, ?_⟩
    simp only [later]
    simp only [amset, amlib, zset, q0, q1, q2, eq_self, ↓reduceIte, reduceCtorEq, Nat.reduceBEq, reduceEqDiff, reduceAdd, reduceMul, reduceLeDiff, reduceLT, reduceSub]
    refine ⟨_, holds69 t.body, ?_⟩
    simp only [later]
    simp only [amset, amlib, zset, q0, q1, q2, eq_self, ↓reduceIte, reduceCtorEq, Nat.reduceBEq, reduceEqDiff, reduceAdd, reduceMul, reduceLeDiff, reduceLT, reduceSub]
    refine hK3 _ ?_
    clear hK3
    refine aw_cond (t := true) rfl (fun _ => ?_) (fun h => nomatch h)
    refine aw_ops zT fun K6 hK6 => ?_
    refine sg ?_
    refine hK6 _ ?_
    clear hK6
    refine aw_ret ?_
    show resOf zG _ [.tmp 2] = some _
    simp only [amset, amlib, zset, eq_self, ↓reduceIte, reduceCtorEq, Nat.reduceBEq, reduceEqDiff, reduceAdd, reduceMul, reduceLeDiff, reduceLT, reduceSub]
    simp only [tkOK, q0, q1, q2, bools, ↓reduceIte]
   | false =>
    simp only [amset, amlib, zset, q0, q1, q2, eq_self, ↓reduceIte, reduceCtorEq, Nat.reduceBEq, reduceEqDiff, reduceAdd, reduceMul, reduceLeDiff, reduceLT, reduceSub]
    refine ⟨_, holds74 t.name, ?_⟩
    simp only [later]
    simp only [amset, amlib, zset, q0, q1, q2, eq_self, ↓reduceIte, reduceCtorEq, Nat.reduceBEq, reduceEqDiff, reduceAdd, reduceMul, reduceLeDiff, reduceLT, reduceSub]
    refine ⟨_, holds103 t.deadline 0, ?_⟩
    simp only [later]
    simp only [amset, amlib, zset, q0, q1, q2, eq_self, ↓reduceIte, reduceCtorEq, Nat.reduceBEq, reduceEqDiff, reduceAdd, reduceMul, reduceLeDiff, reduceLT, reduceSub]
    refine ⟨_, holds69 t.body, ?_⟩
    simp only [later]
    simp only [amset, amlib, zset, q0, q1, q2, eq_self, ↓reduceIte, reduceCtorEq, Nat.reduceBEq, reduceEqDiff, reduceAdd, reduceMul, reduceLeDiff, reduceLT, reduceSub]
    refine hK3 _ ?_
    clear hK3
    refine aw_cond (t := false) rfl (fun h => nomatch h) (fun _ => ?_)
    refine aw_skip ?_
    simp only [thenQ, blkQ, if_true, reduceIte, Nat.reduceEqDiff, eq_self]
    refine hK2 _ ?_
    clear hK2
    refine aw_seq fun K7 hK7 => ?_
    refine aw_ops zT fun K8 hK8 => ?_
    refine sg ?_
    refine hK8 _ ?_
    clear hK8
    refine aw_cond rfl (fun h0 => ?_) (fun h0 => ?_)
    ·
     refine aw_ops zT fun K9 hK9 => ?_
     cases e0 : numOk t.period 1 with
     | true =>
      cases e1 : (t.channel == []) with
      | true =>
       cases e2 : (t.param == []) with
       | true =>
        cases e3 : (t.within == 0) with
        | true =>
         simp only [amset, amlib, zset, q0, q1, q2, e0, e1, e2, e3, eq_self, ↓reduceIte, reduceCtorEq, Nat.reduceBEq, reduceEqDiff, reduceAdd, reduceMul, reduceLeDiff, reduceLT, reduceSub]
         refine ⟨_, holds103 t.period 1, ?_⟩
         simp only [later]
         simp only [amset, amlib, zset, q0, q1, q2, e0, e1, e2, e3, h0, eq_self, ↓reduceIte, reduceCtorEq, Nat.reduceBEq, reduceEqDiff, reduceAdd, reduceMul, reduceLeDiff, reduceLT, reduceSub]
         refine hK9 _ ?_
         clear hK9
         refine aw_ret ?_
         show resOf zG _ [.tmp 2] = some _
         simp only [amset, amlib, zset, eq_self, ↓reduceIte, reduceCtorEq, Nat.reduceBEq, reduceEqDiff, reduceAdd, reduceMul, reduceLeDiff, reduceLT, reduceSub]
         simp only [tkOK, q0, q1, q2, e0, e1, e2, e3, h0, bools, ↓reduceIte]
        | false =>
         simp only [amset, amlib, zset, q0, q1, q2, e0, e1, e2, e3, eq_self, ↓reduceIte, reduceCtorEq, Nat.reduceBEq, reduceEqDiff, reduceAdd, reduceMul, reduceLeDiff, reduceLT, reduceSub]
         refine ⟨_, holds103 t.period 1, ?_⟩
         simp only [later]
         simp only [amset, amlib, zset, q0, q1, q2, e0, e1, e2, e3, h0, eq_self, ↓reduceIte, reduceCtorEq, Nat.reduceBEq, reduceEqDiff, reduceAdd, reduceMul, reduceLeDiff, reduceLT, reduceSub]
         refine hK9 _ ?_
         clear hK9
         refine aw_ret ?_
         show resOf zG _ [.tmp 2] = some _
         simp only [amset, amlib, zset, eq_self, ↓reduceIte, reduceCtorEq, Nat.reduceBEq, reduceEqDiff, reduceAdd, reduceMul, reduceLeDiff, reduceLT, reduceSub]
         simp only [tkOK, q0, q1, q2, e0, e1, e2, e3, h0, bools, ↓reduceIte]
       | false =>
        simp only [amset, amlib, zset, q0, q1, q2, e0, e1, e2, eq_self, ↓reduceIte, reduceCtorEq, Nat.reduceBEq, reduceEqDiff, reduceAdd, reduceMul, reduceLeDiff, reduceLT, reduceSub]
        refine ⟨_, holds103 t.period 1, ?_⟩
        simp only [later]
        simp only [amset, amlib, zset, q0, q1, q2, e0, e1, e2, h0, eq_self, ↓reduceIte, reduceCtorEq, Nat.reduceBEq, reduceEqDiff, reduceAdd, reduceMul, reduceLeDiff, reduceLT, reduceSub]
        refine hK9 _ ?_
        clear hK9
        refine aw_ret ?_
        show resOf zG _ [.tmp 2] = some _
        simp only [amset, amlib, zset, eq_self, ↓reduceIte, reduceCtorEq, Nat.reduceBEq, reduceEqDiff, reduceAdd, reduceMul, reduceLeDiff, reduceLT, reduceSub]
        simp only [tkOK, q0, q1, q2, e0, e1, e2, h0, bools, ↓reduceIte]
      | false =>
       simp only [amset, amlib, zset, q0, q1, q2, e0, e1, eq_self, ↓reduceIte, reduceCtorEq, Nat.reduceBEq, reduceEqDiff, reduceAdd, reduceMul, reduceLeDiff, reduceLT, reduceSub]
       refine ⟨_, holds103 t.period 1, ?_⟩
       simp only [later]
       simp only [amset, amlib, zset, q0, q1, q2, e0, e1, h0, eq_self, ↓reduceIte, reduceCtorEq, Nat.reduceBEq, reduceEqDiff, reduceAdd, reduceMul, reduceLeDiff, reduceLT, reduceSub]
       refine hK9 _ ?_
       clear hK9
       refine aw_ret ?_
       show resOf zG _ [.tmp 2] = some _
       simp only [amset, amlib, zset, eq_self, ↓reduceIte, reduceCtorEq, Nat.reduceBEq, reduceEqDiff, reduceAdd, reduceMul, reduceLeDiff, reduceLT, reduceSub]
       simp only [tkOK, q0, q1, q2, e0, e1, h0, bools, ↓reduceIte]
     | false =>
      simp only [amset, amlib, zset, q0, q1, q2, e0, eq_self, ↓reduceIte, reduceCtorEq, Nat.reduceBEq, reduceEqDiff, reduceAdd, reduceMul, reduceLeDiff, reduceLT, reduceSub]
      refine ⟨_, holds103 t.period 1, ?_⟩
      simp only [later]
      simp only [amset, amlib, zset, q0, q1, q2, e0, h0, eq_self, ↓reduceIte, reduceCtorEq, Nat.reduceBEq, reduceEqDiff, reduceAdd, reduceMul, reduceLeDiff, reduceLT, reduceSub]
      refine hK9 _ ?_
      clear hK9
      refine aw_ret ?_
      show resOf zG _ [.tmp 2] = some _
      simp only [amset, amlib, zset, eq_self, ↓reduceIte, reduceCtorEq, Nat.reduceBEq, reduceEqDiff, reduceAdd, reduceMul, reduceLeDiff, reduceLT, reduceSub]
      simp only [tkOK, q0, q1, q2, e0, h0, bools, ↓reduceIte]
    ·
     refine aw_skip ?_
     simp only [thenQ, blkQ, if_true, reduceIte, Nat.reduceEqDiff, eq_self]
     refine hK7 _ ?_
     clear hK7
     refine aw_ops zT fun K10 hK10 => ?_
     cases e0 : ident t.channel with
     | true =>
      cases e1 : ident t.param with
      | true =>
       simp only [amset, amlib, zset, q0, q1, q2, e0, e1, eq_self, ↓reduceIte, reduceCtorEq, Nat.reduceBEq, reduceEqDiff, reduceAdd, reduceMul, reduceLeDiff, reduceLT, reduceSub]
       refine ⟨_, holds74 t.channel, ?_⟩
       simp only [later]
       simp only [amset, amlib, zset, q0, q1, q2, e0, e1, h0, eq_self, ↓reduceIte, reduceCtorEq, Nat.reduceBEq, reduceEqDiff, reduceAdd, reduceMul, reduceLeDiff, reduceLT, reduceSub]
       refine ⟨_, holds74 t.param, ?_⟩
       simp only [later]
       simp only [amset, amlib, zset, q0, q1, q2, e0, e1, h0, eq_self, ↓reduceIte, reduceCtorEq, Nat.reduceBEq, reduceEqDiff, reduceAdd, reduceMul, reduceLeDiff, reduceLT, reduceSub]
       refine ⟨_, holds103 t.within 0, ?_⟩
       simp only [later]
       simp only [amset, amlib, zset, q0, q1, q2, e0, e1, h0, eq_self, ↓reduceIte, reduceCtorEq, Nat.reduceBEq, reduceEqDiff, reduceAdd, reduceMul, reduceLeDiff, reduceLT, reduceSub]
       refine hK10 _ ?_
       clear hK10
       refine aw_ret ?_
       show resOf zG _ [.tmp 2] = some _
       simp only [amset, amlib, zset, eq_self, ↓reduceIte, reduceCtorEq, Nat.reduceBEq, reduceEqDiff, reduceAdd, reduceMul, reduceLeDiff, reduceLT, reduceSub]
       simp only [tkOK, q0, q1, q2, e0, e1, h0, bools, ↓reduceIte]
      | false =>
       simp only [amset, amlib, zset, q0, q1, q2, e0, e1, eq_self, ↓reduceIte, reduceCtorEq, Nat.reduceBEq, reduceEqDiff, reduceAdd, reduceMul, reduceLeDiff, reduceLT, reduceSub]
       refine ⟨_, holds74 t.channel, ?_⟩
       simp only [later]
       simp only [amset, amlib, zset, q0, q1, q2, e0, e1, h0, eq_self, ↓reduceIte, reduceCtorEq, Nat.reduceBEq, reduceEqDiff, reduceAdd, reduceMul, reduceLeDiff, reduceLT, reduceSub]
       refine ⟨_, holds74 t.param, ?_⟩
       simp only [later]
       simp only [amset, amlib, zset, q0, q1, q2, e0, e1, h0, eq_self, ↓reduceIte, reduceCtorEq, Nat.reduceBEq, reduceEqDiff, reduceAdd, reduceMul, reduceLeDiff, reduceLT, reduceSub]
       refine hK10 _ ?_
       clear hK10
       refine aw_ret ?_
       show resOf zG _ [.tmp 2] = some _
       simp only [amset, amlib, zset, eq_self, ↓reduceIte, reduceCtorEq, Nat.reduceBEq, reduceEqDiff, reduceAdd, reduceMul, reduceLeDiff, reduceLT, reduceSub]
       simp only [tkOK, q0, q1, q2, e0, e1, h0, bools, ↓reduceIte]
     | false =>
      simp only [amset, amlib, zset, q0, q1, q2, e0, eq_self, ↓reduceIte, reduceCtorEq, Nat.reduceBEq, reduceEqDiff, reduceAdd, reduceMul, reduceLeDiff, reduceLT, reduceSub]
      refine ⟨_, holds74 t.channel, ?_⟩
      simp only [later]
      simp only [amset, amlib, zset, q0, q1, q2, e0, h0, eq_self, ↓reduceIte, reduceCtorEq, Nat.reduceBEq, reduceEqDiff, reduceAdd, reduceMul, reduceLeDiff, reduceLT, reduceSub]
      refine hK10 _ ?_
      clear hK10
      refine aw_ret ?_
      show resOf zG _ [.tmp 2] = some _
      simp only [amset, amlib, zset, eq_self, ↓reduceIte, reduceCtorEq, Nat.reduceBEq, reduceEqDiff, reduceAdd, reduceMul, reduceLeDiff, reduceLT, reduceSub]
      simp only [tkOK, q0, q1, q2, e0, h0, bools, ↓reduceIte]
end Go.Proofs.Am
set_option maxRecDepth 100000
set_option maxHeartbeats 4000000
namespace Go.Proofs.Am
theorem wfx_eq (x : Ex) : wfA x = exOK x := by
 have hl : (!(x.args.any fun y => !wfA y)) = exOKs x.args := by
  have key : ∀ l : List Ex, (∀ y ∈ l, y ∈ x.args) → (!(l.any fun y => !wfA y)) = exOKs l := by
   intro l
   induction l with
   | nil => intro _; rfl
   | cons y r ih =>
    intro hm
    rw [List.any_cons, Bool.not_or, Bool.not_not, ih (fun z hz => hm z (by simp [hz])), exOKs, wfx_eq y]
  exact key x.args fun _ h => h
 rw [wfA_eq, exOK_eq, hl]
 generalize exOKs x.args = w
 clear hl
 obtain ⟨k, n, v, o, a, p⟩ := x
 simp only [plainP, sameE, headOK, exTail, arityK, bareE, Ex.kind, Ex.name, Ex.value, Ex.op, Ex.args]
 by_cases k1 : k = 1
 ·
  simp [k1]; cases w <;> simp <;> grind
 ·
  by_cases k2 : k = 2
  ·
   simp [k2]; cases w <;> simp <;> grind
  ·
   by_cases k4 : k = 4
   ·
    simp [k4]; cases w <;> simp <;> grind
   ·
    by_cases k3 : k = 3
    ·
     simp [k3]; cases w <;> simp <;> grind
    ·
     by_cases k5 : k = 5
     ·
      simp [k5]; cases w <;> simp <;> grind
     ·
      by_cases k6 : k = 6
      ·
       simp [k6]; cases w <;> simp <;> grind
      ·
       simp [k1, k2, k3, k4, k5, k6]
  termination_by SizeOf.sizeOf x
  decreasing_by exact Ex.args_lt (hm y (by simp))
end Go.Proofs.Am
set_option maxRecDepth 100000
set_option maxHeartbeats 4000000
namespace Go.Proofs.Am
open Nat (reduceEqDiff reduceAdd reduceMul reduceLeDiff reduceLT reduceSub)
def okCR (c : Cn) : Bool := ident c.name && !decide (c.value < -32767)
def okGR (g : Gl) : Bool := ident g.name && numOk g.len 0 && !decide (g.init < -32767) && !(decide (g.len > 0) && (g.init != 0))
def okHR (c : Ch) : Bool := ident c.name && numOk c.cap 0
def wfR (p : Pg) : Bool := p.consts.all okCR && p.globals.all okGR && (p.sensors ++ p.outputs).all ident && p.channels.all okHR && p.tasks.all tkOK
theorem any_wf (l : List Ex) : (l.any fun y => !wfA y) = !exOKs l := by
 induction l with
 | nil => rfl
 | cons x r ih => rw [List.any_cons, ih, exOKs, ← wfx_eq, Bool.not_and]
theorem bd_st (x : St) : bdA x = (stBad x || !exOKs x.args) := by
 unfold bdA
 rw [any_wf]
 congr 1
 unfold stBad nmA nuA lsA numA numOk
 by_cases hk : 1 ≤ x.kind ∧ x.kind ≤ 13
 ·
  have hb : (decide (x.kind < 1)) = false := by simp; omega
  have hb2 : (decide (x.kind > 13)) = false := by simp; omega
  have l1 : decide ((x.body.length : Int) > 0) = !((x.body.length : Int) == 0) := by
   by_cases h : (x.body.length : Int) = 0
   ·
    rw [h]; rfl
   ·
    rw [decide_eq_true (by omega), beq_eq_false_iff_ne.2 h]; rfl
  have l2 : decide ((x.els.length : Int) > 0) = !((x.els.length : Int) == 0) := by
   by_cases h : (x.els.length : Int) = 0
   ·
    rw [h]; rfl
   ·
    rw [decide_eq_true (by omega), beq_eq_false_iff_ne.2 h]; rfl
  rw [hb, hb2, l1, l2]
  have hc : x.kind = 1 ∨ x.kind = 2 ∨ x.kind = 3 ∨ x.kind = 4 ∨ x.kind = 5 ∨ x.kind = 6 ∨ x.kind = 7 ∨ x.kind = 8 ∨ x.kind = 9 ∨ x.kind = 10 ∨ x.kind = 11 ∨ x.kind = 12 ∨ x.kind = 13 := by omega
  have n0 : (x.n == 0) = true → x.n = 0 := by simp
  generalize ((x.body.length : Int) == 0) = bb
  generalize ((x.els.length : Int) == 0) = be
  generalize ident x.name = bi
  generalize (x.name == []) = bn
  have key : decide (x.n ≥ 0) = true ∧ decide (x.n ≤ 32767) = true ∨ (x.n == 0) = false := by
   cases h : (x.n == 0)
   ·
    exact .inr rfl
   ·
    have := n0 h; left; simp; omega
  have key2 : (x.n != 0) = !(x.n == 0) := rfl
  rw [key2]
  generalize (x.n == 0) = bz at *
  generalize decide (x.n ≥ 0) = d1 at *
  generalize decide (x.n ≤ 32767) = d2 at *
  clear n0
  rcases hc with e | e | e | e | e | e | e | e | e | e | e | e | e <;> rw [e] <;> simp only [shapeK, sN, sI, sB, sA, sC, stR, stTab] <;> simp <;> rcases key with ⟨rfl, rfl⟩ | rfl <;> (try simp) <;> (try cases bb <;> cases be <;> cases bi <;> cases bn <;> simp <;> cases d1 <;> cases d2 <;> simp) <;> (try ac_rfl)
 ·
  have hs : (shapeK x.kind).2 = false := by
   unfold shapeK
   have : x.kind ≠ 1 ∧ x.kind ≠ 2 ∧ x.kind ≠ 3 ∧ x.kind ≠ 4 ∧ x.kind ≠ 5 ∧ x.kind ≠ 6 ∧ x.kind ≠ 7 ∧ x.kind ≠ 8 ∧ x.kind ≠ 9 ∧ x.kind ≠ 10 ∧ x.kind ≠ 11 ∧ x.kind ≠ 12 ∧ x.kind ≠ 13 := by omega
   simp [this]
  have hb : (decide (x.kind < 1) || decide (x.kind > 13)) = true := by simp; omega
  rw [hb, hs]
  simp
mutual
theorem wfS_st : ∀ x : St, wfS x = stOK x
 | .mk k n v a b e p => by rw [wfS, stOK_eq, bd_st, wfM_st b, wfM_st e]; simp [Bool.not_or, St.args, St.body, St.els]
theorem wfM_st : ∀ l : List St, wfSs l = stsOK l
 | [] => rfl
 | x :: r => by rw [wfSs, stsOK, wfS_st x, wfM_st r]
end
theorem okC_r (c : Cn) : okCR c = okC c := by
 unfold okCR okC signedA
 congr 1
 cases h : decide (c.value < -32767) <;> simp at h ⊢ <;> omega
theorem okH_r (c : Ch) : okHR c = okH c := rfl
theorem okG_r (g : Gl) : okGR g = okG g := by
 unfold okGR okG signedA
 have : (!decide (g.init < -32767)) = decide (g.init ≥ -32767) := by cases h : decide (g.init < -32767) <;> simp at h ⊢ <;> omega
 rw [this]; rfl
theorem okT_r (t : Tk) : tkOK t = wfT t := by
 unfold tkOK wfT
 rw [← wfM_st]
 have hn : ∀ z, numOk z 0 = numA z := fun _ => rfl
 rw [hn, hn]
 by_cases hp : t.period > 0
 ·
  have h1 : (t.period != 0) = true := by simp; omega
  have h2 : numOk t.period 1 = numA t.period := by unfold numOk numA; have a : decide (t.period ≥ 1) = true := (by simp; omega); have b : decide (t.period ≥ 0) = true := (by simp; omega); rw [a, b]
  rw [h1, decide_eq_true hp, h2, if_pos rfl, if_pos rfl]
  cases hw : (t.within == 0)
  ·
   simp
  ·
   have : t.within = 0 := by simpa using hw
   rw [this]
   have e : numA 0 = true := rfl
   rw [e]
   cases ident t.name <;> cases numA t.deadline <;> cases numA t.period <;> cases wfSs t.body <;> simp
 ·
  rw [decide_eq_false hp, if_neg (c := false = true) (by simp)]
  by_cases hz : t.period = 0
  ·
   have h1 : (t.period != 0) = false := by simp [hz]
   have e : numA t.period = true := by rw [hz]; rfl
   rw [h1, e, if_neg (by simp)]
   cases ident t.name <;> cases numA t.deadline <;> cases numA t.within <;> cases wfSs t.body <;> simp
  ·
   have h1 : (t.period != 0) = true := by simp [hz]
   have e : numA t.period = false := by unfold numA; have a : decide (t.period ≥ 0) = false := (by simp; omega); rw [a]; rfl
   have e2 : numOk t.period 1 = false := by unfold numOk; have a : decide (t.period ≥ 1) = false := (by simp; omega); rw [a]; rfl
   rw [h1, e, e2, if_pos rfl]
   simp
theorem wfR_wfP (p : Pg) : wfR p = wfP p := by
 unfold wfR wfP
 rw [show okCR = okC from funext okC_r, show okGR = okG from funext okG_r, show okHR = okH from funext okH_r, show tkOK = wfT from funext okT_r]
theorem prog37 : Tryz.prog.funcs[37]? = some Tryz.f37 := by kernel_rfl
theorem holds37 (p : Pg) (hz : p.sensors.length + p.outputs.length ≤ 1000000000000) : Holds Tryz.prog zG 37 [.agg [.sl 3 (encCs p.consts), .sl 4 (encGs p.globals), .sl 1 (encStrs p.sensors), .sl 1 (encStrs p.outputs), .sl 3 (encHs p.channels), .sl 8 (encTs p.tasks)]] [.c (.bool (wfP p))] := by
 refine holds_of_body zT prog37 rfl rfl rfl (by simp [Tryz.f37]) ?_
 refine aw_ops zT fun K1 hK1 => ?_
 refine sg ?_
 refine hK1 _ ?_
 clear hK1
 refine aw_seq fun K2 hK2 => ?_
 refine aw_ops zT fun K3 hK3 => ?_
 refine sg ?_
 intros
 refine hK3 _ ?_
 clear hK3
 refine aw_block ?_
 refine aw_range (α := Cn) (p.consts) (fun dn => dn.all okCR = true) (fun dn => [(16, .cell (.c (.int .i64 dn.length)))]) (fun dn => []) [] [2, 4, 16, 17, 18, 19, 20, 21, 22, 23, 24, 25, 26, 27, 28, 29] [4] rfl ?_ ?_ ?_ ?_
 ·
  simp only [amset, amlib, zset, eq_self, ↓reduceIte, reduceCtorEq, Nat.reduceBEq, reduceEqDiff, reduceAdd, reduceMul, reduceLeDiff, reduceLT, reduceSub] <;> simp [eq_self]
 ·
  simp only [amset, amlib, zset, eq_self, ↓reduceIte, reduceCtorEq, Nat.reduceBEq, reduceEqDiff, reduceAdd, reduceMul, reduceLeDiff, reduceLT, reduceSub] <;> simp [eq_self]
 ·
  intro hI R
  refine aw_nm ?_
  refine aw_ops zT fun K4 hK4 => ?_
  refine sg ?_
  refine hK4 _ ?_
  clear hK4
  refine aw_seq fun K5 hK5 => ?_
  refine aw_cond (t := false) (by simp [evalO, S.get, amLook]) (fun h => nomatch h) (fun _ => ?_)
  refine aw_exit ?_
  simp only [thenQ, blkQ, if_true, reduceIte, Nat.reduceEqDiff, eq_self]
  refine hK2 _ ?_
  clear hK2
  refine aw_seq fun K6 hK6 => ?_
  refine aw_ops zT fun K7 hK7 => ?_
  refine sg ?_
  intros
  refine hK7 _ ?_
  clear hK7
  refine aw_block ?_
  refine aw_range (α := Gl) (p.globals) (fun dn1 => dn1.all okGR = true) (fun dn1 => [(33, .cell (.c (.int .i64 dn1.length)))]) (fun dn1 => []) [] [2, 6, 33, 34, 35, 36, 37, 38, 39, 40, 41, 42, 43, 44, 45, 46, 47, 48, 49, 50, 51, 52, 53, 54, 55, 56, 57, 58, 59, 60, 61, 62] [6] rfl ?_ ?_ ?_ ?_
  ·
   simp only [amset, amlib, zset, eq_self, ↓reduceIte, reduceCtorEq, Nat.reduceBEq, reduceEqDiff, reduceAdd, reduceMul, reduceLeDiff, reduceLT, reduceSub] <;> simp [eq_self]
  ·
   simp only [amset, amlib, zset, eq_self, ↓reduceIte, reduceCtorEq, Nat.reduceBEq, reduceEqDiff, reduceAdd, reduceMul, reduceLeDiff, reduceLT, reduceSub] <;> simp [eq_self]
  ·
   intro hI1 R1
   refine aw_nm ?_
   refine aw_ops zT fun K8 hK8 => ?_
   refine sg ?_
   refine hK8 _ ?_
   clear hK8
   refine aw_seq fun K9 hK9 => ?_
   refine aw_cond (t := false) (by simp [evalO, S.get, amLook]) (fun h => nomatch h) (fun _ => ?_)
   refine aw_exit ?_
   simp only [thenQ, blkQ, if_true, reduceIte, Nat.reduceEqDiff, eq_self]
   refine hK6 _ ?_
   clear hK6
   refine aw_seq fun K10 hK10 => ?_
   have hll : (p.sensors ++ p.outputs).length = p.sensors.length + p.outputs.length := List.length_append
   refine aw_draw zT prog_mixed fun K11 hK11 => ?_
   refine sg ?_
   refine ⟨⟨encStrs_rows _, by (try simp only [encStrs_length]); omega⟩, ?_⟩
   refine ⟨⟨encStrs_rows _, by (try simp only [encStrs_length]); omega⟩, ?_⟩
   intros
   refine ⟨by kernel_rfl, ?_⟩
   refine hK11 _ ?_
   clear hK11
   refine aw_freeze 69 ?_
   refine aw_norm (by simp only [amset, amlib, zset, ← encStrs_append, eq_self, ↓reduceIte, reduceCtorEq, Nat.reduceBEq, reduceEqDiff, reduceAdd, reduceMul, reduceLeDiff, reduceLT, reduceSub]; exact rfl) ?_
   refine aw_block ?_
   refine aw_to ⟨[(1, .ptr 1 0), (69, .cell (.c (.sl 1 (encStrs (p.sensors ++ p.outputs))))), (70, .cell (.c (.int .i64 (p.sensors ++ p.outputs).length))), (71, .cell (.c (.int .i64 0)))], [(1, [.c (.sl 3 (encCs p.consts)), .c (.sl 4 (encGs p.globals)), .c (.sl 1 (encStrs p.sensors)), .c (.sl 1 (encStrs p.outputs)), .c (.sl 3 (encHs p.channels)), .c (.sl 8 (encTs p.tasks))])]⟩ ?_ ?_ ?_
   ·
    simp only [amset, amlib, zset, eq_self, ↓reduceIte, reduceCtorEq, Nat.reduceBEq, reduceEqDiff, reduceAdd, reduceMul, reduceLeDiff, reduceLT, reduceSub] <;> simp [eq_self]
   ·
    simp only [amset, amlib, zset, eq_self, ↓reduceIte, reduceCtorEq, Nat.reduceBEq, reduceEqDiff, reduceAdd, reduceMul, reduceLeDiff, reduceLT, reduceSub] <;> simp [eq_self]
   refine aw_range (α := (List UInt8)) ((p.sensors ++ p.outputs)) (fun dn2 => dn2.all ident = true) (fun dn2 => [(71, .cell (.c (.int .i64 dn2.length)))]) (fun dn2 => []) [] [2, 8, 71, 72, 73, 74, 75, 76, 77, 78] [] rfl ?_ ?_ ?_ ?_
   ·
    simp only [amset, amlib, zset, eq_self, ↓reduceIte, reduceCtorEq, Nat.reduceBEq, reduceEqDiff, reduceAdd, reduceMul, reduceLeDiff, reduceLT, reduceSub] <;> simp [eq_self]
   ·
    simp only [amset, amlib, zset, eq_self, ↓reduceIte, reduceCtorEq, Nat.reduceBEq, reduceEqDiff, reduceAdd, reduceMul, reduceLeDiff, reduceLT, reduceSub] <;> simp [eq_self]
   ·
    intro hI2 R2
    refine aw_nm ?_
    refine aw_ops zT fun K12 hK12 => ?_
    refine sg ?_
    refine hK12 _ ?_
    clear hK12
    refine aw_seq fun K13 hK13 => ?_
    refine aw_cond (t := false) (by simp [evalO, S.get, amLook]) (fun h => nomatch h) (fun _ => ?_)
    refine aw_exit ?_
    simp only [thenQ, blkQ, if_true, reduceIte, Nat.reduceEqDiff, eq_self]
    refine hK10 _ ?_
    clear hK10
    refine aw_seq fun K14 hK14 => ?_
    refine aw_ops zT fun K15 hK15 => ?_
    refine sg ?_
    intros
    refine hK15 _ ?_
    clear hK15
    refine aw_block ?_
    refine aw_range (α := Ch) (p.channels) (fun dn3 => dn3.all okHR = true) (fun dn3 => [(82, .cell (.c (.int .i64 dn3.length)))]) (fun dn3 => []) [] [2, 10, 82, 83, 84, 85, 86, 87, 88, 89, 90, 91, 92, 93, 94, 95, 96] [10] rfl ?_ ?_ ?_ ?_
    ·
     simp only [amset, amlib, zset, eq_self, ↓reduceIte, reduceCtorEq, Nat.reduceBEq, reduceEqDiff, reduceAdd, reduceMul, reduceLeDiff, reduceLT, reduceSub] <;> simp [eq_self]
    ·
     simp only [amset, amlib, zset, eq_self, ↓reduceIte, reduceCtorEq, Nat.reduceBEq, reduceEqDiff, reduceAdd, reduceMul, reduceLeDiff, reduceLT, reduceSub] <;> simp [eq_self]
    ·
     intro hI3 R3
     refine aw_nm ?_
     refine aw_ops zT fun K16 hK16 => ?_
     refine sg ?_
     refine hK16 _ ?_
     clear hK16
     refine aw_seq fun K17 hK17 => ?_
     refine aw_cond (t := false) (by simp [evalO, S.get, amLook]) (fun h => nomatch h) (fun _ => ?_)
     refine aw_exit ?_
     simp only [thenQ, blkQ, if_true, reduceIte, Nat.reduceEqDiff, eq_self]
     refine hK14 _ ?_
     clear hK14
     refine aw_seq fun K18 hK18 => ?_
     refine aw_ops zT fun K19 hK19 => ?_
     refine sg ?_
     intros
     refine hK19 _ ?_
     clear hK19
     refine aw_block ?_
     refine aw_range (α := Tk) (p.tasks) (fun dn4 => dn4.all tkOK = true) (fun dn4 => [(100, .cell (.c (.int .i64 dn4.length)))]) (fun dn4 => []) [] [2, 12, 100, 101, 102, 103, 104, 105, 106, 107] [12] rfl ?_ ?_ ?_ ?_
     ·
      simp only [amset, amlib, zset, eq_self, ↓reduceIte, reduceCtorEq, Nat.reduceBEq, reduceEqDiff, reduceAdd, reduceMul, reduceLeDiff, reduceLT, reduceSub] <;> simp [eq_self]
     ·
      simp only [amset, amlib, zset, eq_self, ↓reduceIte, reduceCtorEq, Nat.reduceBEq, reduceEqDiff, reduceAdd, reduceMul, reduceLeDiff, reduceLT, reduceSub] <;> simp [eq_self]
     ·
      intro hI4 R4
      refine aw_nm ?_
      refine aw_ops zT fun K20 hK20 => ?_
      refine sg ?_
      refine hK20 _ ?_
      clear hK20
      refine aw_seq fun K21 hK21 => ?_
      refine aw_cond (t := false) (by simp [evalO, S.get, amLook]) (fun h => nomatch h) (fun _ => ?_)
      refine aw_exit ?_
      simp only [thenQ, blkQ, if_true, reduceIte, Nat.reduceEqDiff, eq_self]
      refine hK18 _ ?_
      clear hK18
      refine aw_ops zT fun K22 hK22 => ?_
      refine sg ?_
      refine hK22 _ ?_
      clear hK22
      refine aw_ret ?_
      show resOf zG _ [.tmp 2] = some _
      simp only [amset, amlib, zset, eq_self, ↓reduceIte, reduceCtorEq, Nat.reduceBEq, reduceEqDiff, reduceAdd, reduceMul, reduceLeDiff, reduceLT, reduceSub]
      rw [← wfR_wfP]
      simp only [wfR, hI, hI1, hI2, hI3, hI4, bools, ↓reduceIte]
     ·
      intro dn4 y4 td4 harg4 hI4 R4 hR4
      have hl4 : (p.tasks).length = dn4.length + (td4.length + 1) := by rw [harg4]; simp
      have hmem4 : y4 ∈ p.tasks := by rw [harg4]; simp
      refine aw_nm ?_
      have hget4 : (encTs (p.tasks)).getD dn4.length [] = encT y4 := by rw [harg4]; exact encTs_mid dn4 td4 y4
      refine aw_ops zT fun K23 hK23 => ?_
      refine sg ?_
      refine hK23 _ ?_
      clear hK23
      refine aw_seq fun K24 hK24 => ?_
      refine aw_cond (t := true) (by simp [evalO, S.get, amLook]; omega) (fun _ => ?_) (fun h => nomatch h)
      refine aw_skip ?_
      simp only [thenQ, blkQ, if_true, reduceIte, Nat.reduceEqDiff, eq_self]
      refine hK24 _ ?_
      clear hK24
      refine aw_seq fun K25 hK25 => ?_
      refine aw_block ?_
      refine aw_ops zT fun K26 hK26 => ?_
      simp only [amset, amlib, zset, hget4, eq_self, ↓reduceIte, reduceCtorEq, Nat.reduceBEq, reduceEqDiff, reduceAdd, reduceMul, reduceLeDiff, reduceLT, reduceSub]
      refine ⟨⟨by omega, by omega⟩, ?_⟩
      refine hK26 _ ?_
      clear hK26
      refine aw_ops zT fun K27 hK27 => ?_
      refine sg ?_
      refine ⟨_, holds104 y4, ?_⟩
      refine sgl ?_
      refine hK27 _ ?_
      clear hK27
      refine aw_cond rfl (fun h0 => ?_) (fun h0 => ?_)
      ·
       refine aw_ops zT fun K28 hK28 => ?_
       refine sg ?_
       refine hK28 _ ?_
       clear hK28
       refine aw_ret ?_
       show resOf zG _ [.tmp 2] = some _
       refine sg ?_
       have hf : p.tasks.all tkOK = false := by
        rw [harg4, List.all_append, List.all_cons]
        have : tkOK y4 = false := by simpa using h0
        rw [this]; simp
       rw [← wfR_wfP]
       simp only [wfR, hf, bools, ↓reduceIte]
      ·
       refine aw_skip ?_
       simp only [thenQ, blkQ, if_true, reduceIte, Nat.reduceEqDiff, eq_self]
       refine hK25 _ ?_
       clear hK25
       refine aw_region zT ?_
       refine sg ?_
       refine ⟨⟨by omega, by omega⟩, ?_⟩
       refine hR4 _ (by rw [List.all_append, hI4]; simpa using h0) ?_
       refine Reach.to ?_ ?_
       ·
        simp only [amset, amlib, zset, eq_self, ↓reduceIte, reduceCtorEq, Nat.reduceBEq, reduceEqDiff, reduceAdd, reduceMul, reduceLeDiff, reduceLT, reduceSub] <;> simp [eq_self]
       ·
        simp only [amset, amlib, zset, eq_self, ↓reduceIte, reduceCtorEq, Nat.reduceBEq, reduceEqDiff, reduceAdd, reduceMul, reduceLeDiff, reduceLT, reduceSub] <;> simp [eq_self]
    ·
     intro dn3 y3 td3 harg3 hI3 R3 hR3
     have hl3 : (p.channels).length = dn3.length + (td3.length + 1) := by rw [harg3]; simp
     have hmem3 : y3 ∈ p.channels := by rw [harg3]; simp
     refine aw_nm ?_
     have hget3 : (encHs (p.channels)).getD dn3.length [] = encH y3 := by rw [harg3]; exact encHs_mid dn3 td3 y3
     refine aw_ops zT fun K29 hK29 => ?_
     refine sg ?_
     refine hK29 _ ?_
     clear hK29
     refine aw_seq fun K30 hK30 => ?_
     refine aw_cond (t := true) (by simp [evalO, S.get, amLook]; omega) (fun _ => ?_) (fun h => nomatch h)
     refine aw_skip ?_
     simp only [thenQ, blkQ, if_true, reduceIte, Nat.reduceEqDiff, eq_self]
     refine hK30 _ ?_
     clear hK30
     refine aw_seq fun K31 hK31 => ?_
     refine aw_block ?_
     refine aw_ops zT fun K32 hK32 => ?_
     simp only [amset, amlib, zset, hget3, eq_self, ↓reduceIte, reduceCtorEq, Nat.reduceBEq, reduceEqDiff, reduceAdd, reduceMul, reduceLeDiff, reduceLT, reduceSub]
     refine ⟨⟨by omega, by omega⟩, ?_⟩
     refine hK32 _ ?_
     clear hK32
     refine aw_ops zT fun K33 hK33 => ?_
     cases a0 : ident y3.name with
     | true =>
      cases a1 : numOk y3.cap 0 with
      | true =>
       simp only [amset, amlib, zset, a0, a1, eq_self, ↓reduceIte, reduceCtorEq, Nat.reduceBEq, reduceEqDiff, reduceAdd, reduceMul, reduceLeDiff, reduceLT, reduceSub]
       refine ⟨_, holds74 _, ?_⟩
       simp only [later]
       simp only [amset, amlib, zset, a0, a1, eq_self, ↓reduceIte, reduceCtorEq, Nat.reduceBEq, reduceEqDiff, reduceAdd, reduceMul, reduceLeDiff, reduceLT, reduceSub]
       refine ⟨_, holds103 _ _, ?_⟩
       simp only [later]
       simp only [amset, amlib, zset, a0, a1, eq_self, ↓reduceIte, reduceCtorEq, Nat.reduceBEq, reduceEqDiff, reduceAdd, reduceMul, reduceLeDiff, reduceLT, reduceSub]
       refine hK33 _ ?_
       clear hK33
       refine aw_cond (t := false) rfl (fun h => nomatch h) (fun _ => ?_)
       refine aw_skip ?_
       simp only [thenQ, blkQ, if_true, reduceIte, Nat.reduceEqDiff, eq_self]
       refine hK31 _ ?_
       clear hK31
       refine aw_region zT ?_
       refine sg ?_
       refine ⟨⟨by omega, by omega⟩, ?_⟩
       refine hR3 _ (by rw [List.all_append, hI3]; simp only [List.all_cons, List.all_nil, okHR, a0, a1, bools, ↓reduceIte]) ?_
       refine Reach.to ?_ ?_
       ·
        simp only [amset, amlib, zset, eq_self, ↓reduceIte, reduceCtorEq, Nat.reduceBEq, reduceEqDiff, reduceAdd, reduceMul, reduceLeDiff, reduceLT, reduceSub] <;> simp [eq_self]
       ·
        simp only [amset, amlib, zset, eq_self, ↓reduceIte, reduceCtorEq, Nat.reduceBEq, reduceEqDiff, reduceAdd, reduceMul, reduceLeDiff, reduceLT, reduceSub] <;> simp [eq_self]
      | false =>
       simp only [amset, amlib, zset, a0, a1, eq_self, ↓reduceIte, reduceCtorEq, Nat.reduceBEq, reduceEqDiff, reduceAdd, reduceMul, reduceLeDiff, reduceLT, reduceSub]
       refine ⟨_, holds74 _, ?_⟩
       simp only [later]
       simp only [amset, amlib, zset, a0, a1, eq_self, ↓reduceIte, reduceCtorEq, Nat.reduceBEq, reduceEqDiff, reduceAdd, reduceMul, reduceLeDiff, reduceLT, reduceSub]
       refine ⟨_, holds103 _ _, ?_⟩
       simp only [later]
       simp only [amset, amlib, zset, a0, a1, eq_self, ↓reduceIte, reduceCtorEq, Nat.reduceBEq, reduceEqDiff, reduceAdd, reduceMul, reduceLeDiff, reduceLT, reduceSub]
       refine hK33 _ ?_
       clear hK33
       refine aw_cond (t := true) rfl (fun _ => ?_) (fun h => nomatch h)
       refine aw_ops zT fun K34 hK34 => ?_
       refine sg ?_
       refine hK34 _ ?_
       clear hK34
       refine aw_ret ?_
       show resOf zG _ [.tmp 2] = some _
       refine sg ?_
       have hf : p.channels.all okHR = false := by
        rw [harg3, List.all_append, List.all_cons]
        have : okHR y3 = false := by simp only [okHR, a0, a1, bools, ↓reduceIte]
        rw [this]; simp
       rw [← wfR_wfP]
       simp only [wfR, hf, bools, ↓reduceIte]
     | false =>
      simp only [amset, amlib, zset, a0, eq_self, ↓reduceIte, reduceCtorEq, Nat.reduceBEq, reduceEqDiff, reduceAdd, reduceMul, reduceLeDiff, reduceLT, reduceSub]
      refine ⟨_, holds74 _, ?_⟩
      simp only [later]
      simp only [amset, amlib, zset, a0, eq_self, ↓reduceIte, reduceCtorEq, Nat.reduceBEq, reduceEqDiff, reduceAdd, reduceMul, reduceLeDiff, reduceLT, reduceSub]
      refine hK33 _ ?_
      clear hK33
      refine aw_cond (t := true) rfl (fun _ => ?_) (fun h => nomatch h)
      refine aw_ops zT fun K35 hK35 => ?_
      refine sg ?_
      refine hK35 _ ?_
      clear hK35
      refine aw_ret ?_
      show resOf zG _ [.tmp 2] = some _
      refine sg ?_
      have hf : p.channels.all okHR = false := by
       rw [harg3, List.all_append, List.all_cons]
       have : okHR y3 = false := by simp only [okHR, a0, bools, ↓reduceIte]
       rw [this]; simp
      rw [← wfR_wfP]
      simp only [wfR, hf, bools, ↓reduceIte]
   ·
    intro dn2 y2 td2 harg2 hI2 R2 hR2
    have hl2 : ((p.sensors ++ p.outputs)).length = dn2.length + (td2.length + 1) := by rw [harg2]; simp
    have hmem2 : y2 ∈ (p.sensors ++ p.outputs) := by rw [harg2]; simp
    refine aw_nm ?_
    have hget2 : (encStrs ((p.sensors ++ p.outputs))).getD dn2.length [] = encStr y2 := by rw [harg2]; exact encStrs_mid dn2 td2 y2
    refine aw_ops zT fun K36 hK36 => ?_
    refine sg ?_
    refine hK36 _ ?_
    clear hK36
    refine aw_seq fun K37 hK37 => ?_
    refine aw_cond (t := true) (by simp [evalO, S.get, amLook]; omega) (fun _ => ?_) (fun h => nomatch h)
    refine aw_skip ?_
    simp only [thenQ, blkQ, if_true, reduceIte, Nat.reduceEqDiff, eq_self]
    refine hK37 _ ?_
    clear hK37
    refine aw_seq fun K38 hK38 => ?_
    refine aw_block ?_
    refine aw_ops zT fun K39 hK39 => ?_
    simp only [amset, amlib, zset, hget2, eq_self, ↓reduceIte, reduceCtorEq, Nat.reduceBEq, reduceEqDiff, reduceAdd, reduceMul, reduceLeDiff, reduceLT, reduceSub]
    refine ⟨⟨by omega, by omega⟩, ?_⟩
    refine hK39 _ ?_
    clear hK39
    refine aw_ops zT fun K40 hK40 => ?_
    refine sg ?_
    refine ⟨_, holds74 _, ?_⟩
    refine sgl ?_
    refine hK40 _ ?_
    clear hK40
    refine aw_cond rfl (fun h1 => ?_) (fun h1 => ?_)
    ·
     refine aw_ops zT fun K41 hK41 => ?_
     refine sg ?_
     refine hK41 _ ?_
     clear hK41
     refine aw_ret ?_
     show resOf zG _ [.tmp 2] = some _
     refine sg ?_
     have hf : (p.sensors ++ p.outputs).all ident = false := by
      rw [harg2, List.all_append, List.all_cons]
      have : ident y2 = false := by simpa using h1
      rw [this]; simp
     rw [← wfR_wfP]
     simp only [wfR, hf, bools, ↓reduceIte]
    ·
     refine aw_skip ?_
     simp only [thenQ, blkQ, if_true, reduceIte, Nat.reduceEqDiff, eq_self]
     refine hK38 _ ?_
     clear hK38
     refine aw_region zT ?_
     refine sg ?_
     refine ⟨⟨by omega, by omega⟩, ?_⟩
     refine hR2 _ (by rw [List.all_append, hI2]; simpa using h1) ?_
     refine Reach.to ?_ ?_
     ·
      simp only [amset, amlib, zset, eq_self, ↓reduceIte, reduceCtorEq, Nat.reduceBEq, reduceEqDiff, reduceAdd, reduceMul, reduceLeDiff, reduceLT, reduceSub] <;> simp [eq_self]
     ·
      simp only [amset, amlib, zset, eq_self, ↓reduceIte, reduceCtorEq, Nat.reduceBEq, reduceEqDiff, reduceAdd, reduceMul, reduceLeDiff, reduceLT, reduceSub] <;> simp [eq_self]
  ·
   intro dn1 y1 td1 harg1 hI1 R1 hR1
   have hl1 : (p.globals).length = dn1.length + (td1.length + 1) := by rw [harg1]; simp
   have hmem1 : y1 ∈ p.globals := by rw [harg1]; simp
   refine aw_nm ?_
   have hget1 : (encGs (p.globals)).getD dn1.length [] = encG y1 := by rw [harg1]; exact encGs_mid dn1 td1 y1
   refine aw_ops zT fun K42 hK42 => ?_
   refine sg ?_
   refine hK42 _ ?_
   clear hK42
   refine aw_seq fun K43 hK43 => ?_
   refine aw_cond (t := true) (by simp [evalO, S.get, amLook]; omega) (fun _ => ?_) (fun h => nomatch h)
   refine aw_skip ?_
   simp only [thenQ, blkQ, if_true, reduceIte, Nat.reduceEqDiff, eq_self]
   refine hK43 _ ?_
   clear hK43
   refine aw_seq fun K44 hK44 => ?_
   refine aw_block ?_
   refine aw_ops zT fun K45 hK45 => ?_
   simp only [amset, amlib, zset, hget1, eq_self, ↓reduceIte, reduceCtorEq, Nat.reduceBEq, reduceEqDiff, reduceAdd, reduceMul, reduceLeDiff, reduceLT, reduceSub]
   refine ⟨⟨by omega, by omega⟩, ?_⟩
   refine hK45 _ ?_
   clear hK45
   refine aw_ops zT fun K46 hK46 => ?_
   cases a0 : ident y1.name with
   | true =>
    cases a1 : numOk y1.len 0 with
    | true =>
     cases a2 : decide (y1.init < -32767) with
     | true =>
      simp only [amset, amlib, zset, a0, a1, a2, eq_self, ↓reduceIte, reduceCtorEq, Nat.reduceBEq, reduceEqDiff, reduceAdd, reduceMul, reduceLeDiff, reduceLT, reduceSub]
      refine ⟨_, holds74 _, ?_⟩
      simp only [later]
      simp only [amset, amlib, zset, a0, a1, a2, eq_self, ↓reduceIte, reduceCtorEq, Nat.reduceBEq, reduceEqDiff, reduceAdd, reduceMul, reduceLeDiff, reduceLT, reduceSub]
      refine ⟨_, holds103 _ _, ?_⟩
      simp only [later]
      simp only [amset, amlib, zset, a0, a1, a2, eq_self, ↓reduceIte, reduceCtorEq, Nat.reduceBEq, reduceEqDiff, reduceAdd, reduceMul, reduceLeDiff, reduceLT, reduceSub]
      refine hK46 _ ?_
      clear hK46
      refine aw_cond (t := true) rfl (fun _ => ?_) (fun h => nomatch h)
      refine aw_ops zT fun K47 hK47 => ?_
      refine sg ?_
      refine hK47 _ ?_
      clear hK47
      refine aw_ret ?_
      show resOf zG _ [.tmp 2] = some _
      refine sg ?_
      have hf : p.globals.all okGR = false := by
       rw [harg1, List.all_append, List.all_cons]
       have : okGR y1 = false := by simp only [okGR, a0, a1, a2, bools, ↓reduceIte]
       rw [this]; simp
      rw [← wfR_wfP]
      simp only [wfR, hf, bools, ↓reduceIte]
     | false =>
      cases a3 : decide (y1.len > 0) with
      | true =>
       cases a4 : (y1.init != 0) with
       | true =>
        simp only [amset, amlib, zset, a0, a1, a2, a3, a4, eq_self, ↓reduceIte, reduceCtorEq, Nat.reduceBEq, reduceEqDiff, reduceAdd, reduceMul, reduceLeDiff, reduceLT, reduceSub]
        refine ⟨_, holds74 _, ?_⟩
        simp only [later]
        simp only [amset, amlib, zset, a0, a1, a2, a3, a4, eq_self, ↓reduceIte, reduceCtorEq, Nat.reduceBEq, reduceEqDiff, reduceAdd, reduceMul, reduceLeDiff, reduceLT, reduceSub]
        refine ⟨_, holds103 _ _, ?_⟩
        simp only [later]
        simp only [amset, amlib, zset, a0, a1, a2, a3, a4, eq_self, ↓reduceIte, reduceCtorEq, Nat.reduceBEq, reduceEqDiff, reduceAdd, reduceMul, reduceLeDiff, reduceLT, reduceSub]
        refine hK46 _ ?_
        clear hK46
        refine aw_cond (t := true) rfl (fun _ => ?_) (fun h => nomatch h)
        refine aw_ops zT fun K48 hK48 => ?_
        refine sg ?_
        refine hK48 _ ?_
        clear hK48
        refine aw_ret ?_
        show resOf zG _ [.tmp 2] = some _
        refine sg ?_
        have hf : p.globals.all okGR = false := by
         rw [harg1, List.all_append, List.all_cons]
         have : okGR y1 = false := by simp only [okGR, a0, a1, a2, a3, a4, bools, ↓reduceIte]
         rw [this]; simp
        rw [← wfR_wfP]
        simp only [wfR, hf, bools, ↓reduceIte]
       | false =>
        simp only [amset, amlib, zset, a0, a1, a2, a3, a4, eq_self, ↓reduceIte, reduceCtorEq, Nat.reduceBEq, reduceEqDiff, reduceAdd, reduceMul, reduceLeDiff, reduceLT, reduceSub]
        refine ⟨_, holds74 _, ?_⟩
        simp only [later]
        simp only [amset, amlib, zset, a0, a1, a2, a3, a4, eq_self, ↓reduceIte, reduceCtorEq, Nat.reduceBEq, reduceEqDiff, reduceAdd, reduceMul, reduceLeDiff, reduceLT, reduceSub]
        refine ⟨_, holds103 _ _, ?_⟩
        simp only [later]
        simp only [amset, amlib, zset, a0, a1, a2, a3, a4, eq_self, ↓reduceIte, reduceCtorEq, Nat.reduceBEq, reduceEqDiff, reduceAdd, reduceMul, reduceLeDiff, reduceLT, reduceSub]
        refine hK46 _ ?_
        clear hK46
        refine aw_cond (t := false) rfl (fun h => nomatch h) (fun _ => ?_)
        refine aw_skip ?_
        simp only [thenQ, blkQ, if_true, reduceIte, Nat.reduceEqDiff, eq_self]
        refine hK44 _ ?_
        clear hK44
        refine aw_region zT ?_
        refine sg ?_
        refine ⟨⟨by omega, by omega⟩, ?_⟩
        refine hR1 _ (by rw [List.all_append, hI1]; simp only [List.all_cons, List.all_nil, okGR, a0, a1, a2, a3, a4, bools, ↓reduceIte]) ?_
        refine Reach.to ?_ ?_
        ·
         simp only [amset, amlib, zset, eq_self, ↓reduceIte, reduceCtorEq, Nat.reduceBEq, reduceEqDiff, reduceAdd, reduceMul, reduceLeDiff, reduceLT, reduceSub] <;> simp [eq_self]
        ·
         simp only [amset, amlib, zset, eq_self, ↓reduceIte, reduceCtorEq, Nat.reduceBEq, reduceEqDiff, reduceAdd, reduceMul, reduceLeDiff, reduceLT, reduceSub] <;> simp [eq_self]
      | false =>
       simp only [amset, amlib, zset, a0, a1, a2, a3, eq_self, ↓reduceIte, reduceCtorEq, Nat.reduceBEq, reduceEqDiff, reduceAdd, reduceMul, reduceLeDiff, reduceLT, reduceSub]
       refine ⟨_, holds74 _, ?_⟩
       simp only [later]
       simp only [amset, amlib, zset, a0, a1, a2, a3, eq_self, ↓reduceIte, reduceCtorEq, Nat.reduceBEq, reduceEqDiff, reduceAdd, reduceMul, reduceLeDiff, reduceLT, reduceSub]
       refine ⟨_, holds103 _ _, ?_⟩
       simp only [later]
       simp only [amset, amlib, zset, a0, a1, a2, a3, eq_self, ↓reduceIte, reduceCtorEq, Nat.reduceBEq, reduceEqDiff, reduceAdd, reduceMul, reduceLeDiff, reduceLT, reduceSub]
       refine hK46 _ ?_
       clear hK46
       refine aw_cond (t := false) rfl (fun h => nomatch h) (fun _ => ?_)
       refine aw_skip ?_
       simp only [thenQ, blkQ, if_true, reduceIte, Nat.reduceEqDiff, eq_self]
       refine hK44 _ ?_
       clear hK44
       refine aw_region zT ?_
       refine sg ?_
       refine ⟨⟨by omega, by omega⟩, ?_⟩
       refine hR1 _ (by rw [List.all_append, hI1]; simp only [List.all_cons, List.all_nil, okGR, a0, a1, a2, a3, bools, ↓reduceIte]) ?_
       refine Reach.to ?_ ?_
       ·
        simp only [amset, amlib, zset, eq_self, ↓reduceIte, reduceCtorEq, Nat.reduceBEq, reduceEqDiff, reduceAdd, reduceMul, reduceLeDiff, reduceLT, reduceSub] <;> simp [eq_self]
       ·
        simp only [amset, amlib, zset, eq_self, ↓reduceIte, reduceCtorEq, Nat.reduceBEq, reduceEqDiff, reduceAdd, reduceMul, reduceLeDiff, reduceLT, reduceSub] <;> simp [eq_self]
    | false =>
     simp only [amset, amlib, zset, a0, a1, eq_self, ↓reduceIte, reduceCtorEq, Nat.reduceBEq, reduceEqDiff, reduceAdd, reduceMul, reduceLeDiff, reduceLT, reduceSub]
     refine ⟨_, holds74 _, ?_⟩
     simp only [later]
     simp only [amset, amlib, zset, a0, a1, eq_self, ↓reduceIte, reduceCtorEq, Nat.reduceBEq, reduceEqDiff, reduceAdd, reduceMul, reduceLeDiff, reduceLT, reduceSub]
     refine ⟨_, holds103 _ _, ?_⟩
     simp only [later]
     simp only [amset, amlib, zset, a0, a1, eq_self, ↓reduceIte, reduceCtorEq, Nat.reduceBEq, reduceEqDiff, reduceAdd, reduceMul, reduceLeDiff, reduceLT, reduceSub]
     refine hK46 _ ?_
     clear hK46
     refine aw_cond (t := true) rfl (fun _ => ?_) (fun h => nomatch h)
     refine aw_ops zT fun K49 hK49 => ?_
     refine sg ?_
     refine hK49 _ ?_
     clear hK49
     refine aw_ret ?_
     show resOf zG _ [.tmp 2] = some _
     refine sg ?_
     have hf : p.globals.all okGR = false := by
      rw [harg1, List.all_append, List.all_cons]
      have : okGR y1 = false := by simp only [okGR, a0, a1, bools, ↓reduceIte]
      rw [this]; simp
     rw [← wfR_wfP]
     simp only [wfR, hf, bools, ↓reduceIte]
   | false =>
    simp only [amset, amlib, zset, a0, eq_self, ↓reduceIte, reduceCtorEq, Nat.reduceBEq, reduceEqDiff, reduceAdd, reduceMul, reduceLeDiff, reduceLT, reduceSub]
    refine ⟨_, holds74 _, ?_⟩
    simp only [later]
    simp only [amset, amlib, zset, a0, eq_self, ↓reduceIte, reduceCtorEq, Nat.reduceBEq, reduceEqDiff, reduceAdd, reduceMul, reduceLeDiff, reduceLT, reduceSub]
    refine hK46 _ ?_
    clear hK46
    refine aw_cond (t := true) rfl (fun _ => ?_) (fun h => nomatch h)
    refine aw_ops zT fun K50 hK50 => ?_
    refine sg ?_
    refine hK50 _ ?_
    clear hK50
    refine aw_ret ?_
    show resOf zG _ [.tmp 2] = some _
    refine sg ?_
    have hf : p.globals.all okGR = false := by
     rw [harg1, List.all_append, List.all_cons]
     have : okGR y1 = false := by simp only [okGR, a0, bools, ↓reduceIte]
     rw [this]; simp
    rw [← wfR_wfP]
    simp only [wfR, hf, bools, ↓reduceIte]
 ·
  intro dn y td harg hI R hR
  have hl : (p.consts).length = dn.length + (td.length + 1) := by rw [harg]; simp
  have hmem : y ∈ p.consts := by rw [harg]; simp
  refine aw_nm ?_
  have hget : (encCs (p.consts)).getD dn.length [] = encC y := by rw [harg]; exact encCs_mid dn td y
  refine aw_ops zT fun K51 hK51 => ?_
  refine sg ?_
  refine hK51 _ ?_
  clear hK51
  refine aw_seq fun K52 hK52 => ?_
  refine aw_cond (t := true) (by simp [evalO, S.get, amLook]; omega) (fun _ => ?_) (fun h => nomatch h)
  refine aw_skip ?_
  simp only [thenQ, blkQ, if_true, reduceIte, Nat.reduceEqDiff, eq_self]
  refine hK52 _ ?_
  clear hK52
  refine aw_seq fun K53 hK53 => ?_
  refine aw_block ?_
  refine aw_ops zT fun K54 hK54 => ?_
  simp only [amset, amlib, zset, hget, eq_self, ↓reduceIte, reduceCtorEq, Nat.reduceBEq, reduceEqDiff, reduceAdd, reduceMul, reduceLeDiff, reduceLT, reduceSub]
  refine ⟨⟨by omega, by omega⟩, ?_⟩
  refine hK54 _ ?_
  clear hK54
  refine aw_ops zT fun K55 hK55 => ?_
  cases a0 : ident y.name with
  | true =>
   cases a1 : decide (y.value < -32767) with
   | true =>
    simp only [amset, amlib, zset, a0, a1, eq_self, ↓reduceIte, reduceCtorEq, Nat.reduceBEq, reduceEqDiff, reduceAdd, reduceMul, reduceLeDiff, reduceLT, reduceSub]
    refine ⟨_, holds74 _, ?_⟩
    simp only [later]
    simp only [amset, amlib, zset, a0, a1, eq_self, ↓reduceIte, reduceCtorEq, Nat.reduceBEq, reduceEqDiff, reduceAdd, reduceMul, reduceLeDiff, reduceLT, reduceSub]
    refine hK55 _ ?_
    clear hK55
    refine aw_cond (t := true) rfl (fun _ => ?_) (fun h => nomatch h)
    refine aw_ops zT fun K56 hK56 => ?_
    refine sg ?_
    refine hK56 _ ?_
    clear hK56
    refine aw_ret ?_
    show resOf zG _ [.tmp 2] = some _
    refine sg ?_
    have hf : p.consts.all okCR = false := by
     rw [harg, List.all_append, List.all_cons]
     have : okCR y = false := by simp only [okCR, a0, a1, bools, ↓reduceIte]
     rw [this]; simp
    rw [← wfR_wfP]
    simp only [wfR, hf, bools, ↓reduceIte]
   | false =>
    simp only [amset, amlib, zset, a0, a1, eq_self, ↓reduceIte, reduceCtorEq, Nat.reduceBEq, reduceEqDiff, reduceAdd, reduceMul, reduceLeDiff, reduceLT, reduceSub]
    refine ⟨_, holds74 _, ?_⟩
    simp only [later]
    simp only [amset, amlib, zset, a0, a1, eq_self, ↓reduceIte, reduceCtorEq, Nat.reduceBEq, reduceEqDiff, reduceAdd, reduceMul, reduceLeDiff, reduceLT, reduceSub]
    refine hK55 _ ?_
    clear hK55
    refine aw_cond (t := false) rfl (fun h => nomatch h) (fun _ => ?_)
    refine aw_skip ?_
    simp only [thenQ, blkQ, if_true, reduceIte, Nat.reduceEqDiff, eq_self]
    refine hK53 _ ?_
    clear hK53
    refine aw_region zT ?_
    refine sg ?_
    refine ⟨⟨by omega, by omega⟩, ?_⟩
    refine hR _ (by rw [List.all_append, hI]; simp only [List.all_cons, List.all_nil, okCR, a0, a1, bools, ↓reduceIte]) ?_
    refine Reach.to ?_ ?_
    ·
     simp only [amset, amlib, zset, eq_self, ↓reduceIte, reduceCtorEq, Nat.reduceBEq, reduceEqDiff, reduceAdd, reduceMul, reduceLeDiff, reduceLT, reduceSub] <;> simp [eq_self]
    ·
     simp only [amset, amlib, zset, eq_self, ↓reduceIte, reduceCtorEq, Nat.reduceBEq, reduceEqDiff, reduceAdd, reduceMul, reduceLeDiff, reduceLT, reduceSub] <;> simp [eq_self]
  | false =>
   simp only [amset, amlib, zset, a0, eq_self, ↓reduceIte, reduceCtorEq, Nat.reduceBEq, reduceEqDiff, reduceAdd, reduceMul, reduceLeDiff, reduceLT, reduceSub]
   refine ⟨_, holds74 _, ?_⟩
   simp only [later]
   simp only [amset, amlib, zset, a0, eq_self, ↓reduceIte, reduceCtorEq, Nat.reduceBEq, reduceEqDiff, reduceAdd, reduceMul, reduceLeDiff, reduceLT, reduceSub]
   refine hK55 _ ?_
   clear hK55
   refine aw_cond (t := true) rfl (fun _ => ?_) (fun h => nomatch h)
   refine aw_ops zT fun K57 hK57 => ?_
   refine sg ?_
   refine hK57 _ ?_
   clear hK57
   refine aw_ret ?_
   show resOf zG _ [.tmp 2] = some _
   refine sg ?_
   have hf : p.consts.all okCR = false := by
    rw [harg, List.all_append, List.all_cons]
    have : okCR y = false := by simp only [okCR, a0, bools, ↓reduceIte]
    rw [this]; simp
   rw [← wfR_wfP]
   simp only [wfR, hf, bools, ↓reduceIte]
end Go.Proofs.Am
set_option maxRecDepth 100000
set_option maxHeartbeats 4000000
namespace Go.Proofs.Am
open Nat (reduceEqDiff reduceAdd reduceMul reduceLeDiff reduceLT reduceSub)
/-- The elements stand in the list from place k on. -/
def Seg {α : Type} (e : α → List C) (xs : List A) (k : Nat) (L : List α) : Prop := ∀ i z, L[i]? = some z → xs[k + i]? = some (.agg (e z))
theorem Seg.left {α : Type} {e : α → List C} {xs : List A} {k : Nat} {a b : List α} (h : Seg e xs k (a ++ b)) : Seg e xs k a := fun i z hz => h i z (by rw [List.getElem?_append_left (List.getElem?_eq_some_iff.1 hz).1]; exact hz)
theorem Seg.right {α : Type} {e : α → List C} {xs : List A} {k : Nat} {a b : List α} (h : Seg e xs k (a ++ b)) : Seg e xs (k + a.length) b := fun i z hz => by
 have := h (a.length + i) z (by rw [List.getElem?_append_right (by omega)]; simpa using hz)
 rwa [← Nat.add_assoc] at this
theorem Seg.head {α : Type} {e : α → List C} {xs : List A} {k : Nat} {a : α} {b : List α} (h : Seg e xs k (a :: b)) : xs[k]? = some (.agg (e a)) := h 0 a rfl
theorem Seg.tail {α : Type} {e : α → List C} {xs : List A} {k : Nat} {a : α} {b : List α} (h : Seg e xs k (a :: b)) : Seg e xs (k + 1) b := Seg.right (a := [a]) h
/-- The consumer: it answers true till it answers false at place m. -/
def YSeq (v : Value) (xs : List A) (p : Nat → OP) (m : Nat) (ps : OP) : Prop :=
 (∀ i x, i < m → xs[i]? = some x → HoldsV Tryz.prog zG v [x] (p i) (some [.c (.bool true)]) (p (i + 1))) ∧ ∀ x, xs[m]? = some x → HoldsV Tryz.prog zG v [x] (p m) (some [.c (.bool false)]) ps
theorem YSeq.at {v : Value} {xs : List A} {p : Nat → OP} {m : Nat} {ps : OP} (h : YSeq v xs p m ps) {k : Nat} (hk : k ≤ m) {x : A} (hx : xs[k]? = some x) : HoldsV Tryz.prog zG v [x] (p k) (some [.c (.bool (decide (k < m)))]) (if decide (k < m) = true then p (k + 1) else ps) := by
 by_cases h1 : k < m
 ·
  rw [decide_eq_true h1, if_pos rfl]; exact h.1 k x h1 hx
 ·
  obtain rfl : k = m := by omega
  rw [decide_eq_false h1, if_neg (by simp)]; exact h.2 x hx
theorem prog117 : Tryz.prog.funcs[117]? = some Tryz.f117 := by kernel_rfl
theorem step117 (v : Value) (xs : List A) (p : Nat → OP) (m : Nat) (ps : OP) (hy : YSeq v xs p m ps) (hp : ∀ i, Stab (p i)) (hps : Stab ps) (l : List St) (k : Nat) (hk : k ≤ m) (hseg : Seg encS xs k (stmL l)) (ih : ∀ l2 : List St, SizeOf.sizeOf l2 < SizeOf.sizeOf l → ∀ k, k ≤ m → Seg encS xs k (stmL l2) → HoldsO Tryz.prog zG 117 [.c (.sl 7 (encSs l2)), .c (.val v)] (p k) (some [.c (.bool (decide (k + (stmL l2).length ≤ m)))]) (if decide (k + (stmL l2).length ≤ m) = true then p (k + (stmL l2).length) else ps)) : HoldsO Tryz.prog zG 117 [.c (.sl 7 (encSs l)), .c (.val v)] (p k) (some [.c (.bool (decide (k + (stmL l).length ≤ m)))]) (if decide (k + (stmL l).length ≤ m) = true then p (k + (stmL l).length) else ps) := by
 refine holdsO_of_body zT prog117 rfl rfl rfl (by simp [Tryz.f117]) (hp k) (by split; exact hp _; exact hps) ?_
 refine aw_ops zT fun K1 hK1 => ?_
 refine sg ?_
 refine hK1 _ ?_
 clear hK1
 refine aw_seq fun K2 hK2 => ?_
 refine aw_ops zT fun K3 hK3 => ?_
 refine sg ?_
 intros
 refine hK3 _ ?_
 clear hK3
 refine aw_block ?_
 refine aw_range (α := St) (l) (fun dn => k + (stmL dn).length ≤ m) (fun dn => [(9, .cell (.c (.int .i64 dn.length)))]) (fun dn => [(1000000, [.objst (p (k + (stmL dn).length))])]) [] [4, 6, 9, 10, 11, 12, 13, 14, 15, 16, 17, 18, 19, 20, 21, 22, 23, 24, 25, 26, 27, 28, 29, 30, 31] [6, 1000000] (by simpa [stmL] using hk) ?_ ?_ ?_ ?_
 ·
  simp only [amset, amlib, zset, eq_self, ↓reduceIte, reduceCtorEq, Nat.reduceBEq, reduceEqDiff, reduceAdd, reduceMul, reduceLeDiff, reduceLT, reduceSub] <;> simp [stmL_append, stmL, stmS_eq, List.length_append, List.length_cons, List.length_nil, List.append_nil, Nat.add_assoc, Nat.add_comm, Nat.add_left_comm, Nat.add_zero]
 ·
  simp only [amset, amlib, zset, eq_self, ↓reduceIte, reduceCtorEq, Nat.reduceBEq, reduceEqDiff, reduceAdd, reduceMul, reduceLeDiff, reduceLT, reduceSub] <;> simp [stmL_append, stmL, stmS_eq, List.length_append, List.length_cons, List.length_nil, List.append_nil, Nat.add_assoc, Nat.add_comm, Nat.add_left_comm, Nat.add_zero]
 ·
  intro hI R
  refine aw_nm ?_
  refine aw_ops zT fun K4 hK4 => ?_
  refine sg ?_
  refine hK4 _ ?_
  clear hK4
  refine aw_seq fun K5 hK5 => ?_
  refine aw_cond (t := false) (by simp [evalO, S.get, amLook]) (fun h => nomatch h) (fun _ => ?_)
  refine aw_exit ?_
  simp only [thenQ, blkQ, if_true, reduceIte, Nat.reduceEqDiff, eq_self]
  refine hK2 _ ?_
  clear hK2
  refine aw_ops zT fun K6 hK6 => ?_
  refine sg ?_
  refine hK6 _ ?_
  clear hK6
  refine aw_ret ?_
  try show resOf zG _ [.tmp 4] = some _ ∧ _ ∧ _
  simp only [amset, amlib, zset, eq_self, ↓reduceIte, reduceCtorEq, Nat.reduceBEq, reduceEqDiff, reduceAdd, reduceMul, reduceLeDiff, reduceLT, reduceSub]
  rw [decide_eq_true hI]
  simp only [↓reduceIte, and_self]
 ·
  intro dn y td harg hI R hR
  have hl : (l).length = dn.length + (td.length + 1) := by rw [harg]; simp
  have hmem : y ∈ l := by rw [harg]; simp
  refine aw_nm ?_
  have hget : (encSs (l)).getD dn.length [] = encS y := by rw [harg]; exact encSs_mid dn td y
  have hseg2 := hseg
  rw [harg, stmL_append, stmL, stmS_eq] at hseg2
  have hs0 := Seg.right hseg2
  have hs1 := Seg.left hs0
  have hyl := (hy.at (k := k + (stmL dn).length) hI (Seg.head hs1))
  rw [encS_eq] at hyl
  have hs2 := Seg.left (Seg.tail hs1)
  have hs3 := Seg.right (Seg.tail hs1)
  have hlen : (stmL l).length = (stmL dn).length + (1 + ((stmL y.body).length + (stmL y.els).length) + (stmL td).length) := by rw [harg, stmL_append, stmL, stmS_eq]; simp only [List.length_append, List.length_cons]; omega
  refine aw_ops zT fun K7 hK7 => ?_
  refine sg ?_
  refine hK7 _ ?_
  clear hK7
  refine aw_seq fun K8 hK8 => ?_
  refine aw_cond (t := true) (by simp [evalO, S.get, amLook]; omega) (fun _ => ?_) (fun h => nomatch h)
  refine aw_skip ?_
  simp only [thenQ, blkQ, if_true, reduceIte, Nat.reduceEqDiff, eq_self]
  refine hK8 _ ?_
  clear hK8
  refine aw_seq fun K9 hK9 => ?_
  refine aw_block ?_
  refine aw_ops zT fun K10 hK10 => ?_
  simp only [amset, amlib, zset, hget, eq_self, ↓reduceIte, reduceCtorEq, Nat.reduceBEq, reduceEqDiff, reduceAdd, reduceMul, reduceLeDiff, reduceLT, reduceSub]
  refine ⟨⟨by omega, by omega⟩, ?_⟩
  refine hK10 _ ?_
  clear hK10
  refine aw_ops zT fun K11 hK11 => ?_
  cases y0 : decide (k + (stmL dn).length < m) with
  | true =>
   cases y1 : decide (k + (stmL dn).length + 1 + (stmL y.body).length ≤ m) with
   | true =>
    cases y2 : decide (k + (stmL dn).length + 1 + (stmL y.body).length + (stmL y.els).length ≤ m) with
    | true =>
     simp only [amset, amlib, zset, y0, y1, y2, eq_self, ↓reduceIte, reduceCtorEq, Nat.reduceBEq, reduceEqDiff, reduceAdd, reduceMul, reduceLeDiff, reduceLT, reduceSub]
     refine ⟨_, _, hyl, ?_⟩
     simp only [later]
     simp only [amset, amlib, zset, y0, y1, y2, eq_self, ↓reduceIte, reduceCtorEq, Nat.reduceBEq, reduceEqDiff, reduceAdd, reduceMul, reduceLeDiff, reduceLT, reduceSub]
     refine ⟨_, _, ih y.body (sizeOf_body hmem) _ (by simp at y0; omega) hs2, ?_⟩
     simp only [later]
     simp only [amset, amlib, zset, y0, y1, y2, eq_self, ↓reduceIte, reduceCtorEq, Nat.reduceBEq, reduceEqDiff, reduceAdd, reduceMul, reduceLeDiff, reduceLT, reduceSub]
     refine ⟨_, _, ih y.els (sizeOf_els hmem) _ (by simp at y1; omega) hs3, ?_⟩
     simp only [later]
     simp only [amset, amlib, zset, y0, y1, y2, eq_self, ↓reduceIte, reduceCtorEq, Nat.reduceBEq, reduceEqDiff, reduceAdd, reduceMul, reduceLeDiff, reduceLT, reduceSub]
     refine hK11 _ ?_
     clear hK11
     refine aw_cond (t := false) rfl (fun h => nomatch h) (fun _ => ?_)
     refine aw_skip ?_
     simp only [thenQ, blkQ, if_true, reduceIte, Nat.reduceEqDiff, eq_self]
     refine hK9 _ ?_
     clear hK9
     refine aw_region zT ?_
     refine sg ?_
     refine ⟨⟨by omega, by omega⟩, ?_⟩
     refine hR _ (by simp only [stmL_append, stmL, stmS_eq, List.length_append, List.length_cons, List.length_nil]; simp at y2; omega) ?_
     refine Reach.to ?_ ?_
     ·
      simp only [amset, amlib, zset, eq_self, ↓reduceIte, reduceCtorEq, Nat.reduceBEq, reduceEqDiff, reduceAdd, reduceMul, reduceLeDiff, reduceLT, reduceSub] <;> simp [stmL_append, stmL, stmS_eq, List.length_append, List.length_cons, List.length_nil, List.append_nil, Nat.add_assoc, Nat.add_comm, Nat.add_left_comm, Nat.add_zero]
     ·
      simp only [amset, amlib, zset, eq_self, ↓reduceIte, reduceCtorEq, Nat.reduceBEq, reduceEqDiff, reduceAdd, reduceMul, reduceLeDiff, reduceLT, reduceSub] <;> simp [stmL_append, stmL, stmS_eq, List.length_append, List.length_cons, List.length_nil, List.append_nil, Nat.add_assoc, Nat.add_comm, Nat.add_left_comm, Nat.add_zero]
    | false =>
     simp only [amset, amlib, zset, y0, y1, y2, eq_self, ↓reduceIte, reduceCtorEq, Nat.reduceBEq, reduceEqDiff, reduceAdd, reduceMul, reduceLeDiff, reduceLT, reduceSub]
     refine ⟨_, _, hyl, ?_⟩
     simp only [later]
     simp only [amset, amlib, zset, y0, y1, y2, eq_self, ↓reduceIte, reduceCtorEq, Nat.reduceBEq, reduceEqDiff, reduceAdd, reduceMul, reduceLeDiff, reduceLT, reduceSub]
     refine ⟨_, _, ih y.body (sizeOf_body hmem) _ (by simp at y0; omega) hs2, ?_⟩
     simp only [later]
     simp only [amset, amlib, zset, y0, y1, y2, eq_self, ↓reduceIte, reduceCtorEq, Nat.reduceBEq, reduceEqDiff, reduceAdd, reduceMul, reduceLeDiff, reduceLT, reduceSub]
     refine ⟨_, _, ih y.els (sizeOf_els hmem) _ (by simp at y1; omega) hs3, ?_⟩
     simp only [later]
     simp only [amset, amlib, zset, y0, y1, y2, eq_self, ↓reduceIte, reduceCtorEq, Nat.reduceBEq, reduceEqDiff, reduceAdd, reduceMul, reduceLeDiff, reduceLT, reduceSub]
     refine hK11 _ ?_
     clear hK11
     refine aw_cond (t := true) rfl (fun _ => ?_) (fun h => nomatch h)
     refine aw_ops zT fun K12 hK12 => ?_
     refine sg ?_
     refine hK12 _ ?_
     clear hK12
     refine aw_ret ?_
     try show resOf zG _ [.tmp 4] = some _ ∧ _ ∧ _
     refine sg ?_
     have hf : decide (k + (stmL l).length ≤ m) = false := by rw [decide_eq_false_iff_not]; simp at y2; omega
     rw [hf]
     simp only [y0, y1, y2, Bool.false_eq_true, ↓reduceIte, and_self]
   | false =>
    simp only [amset, amlib, zset, y0, y1, eq_self, ↓reduceIte, reduceCtorEq, Nat.reduceBEq, reduceEqDiff, reduceAdd, reduceMul, reduceLeDiff, reduceLT, reduceSub]
    refine ⟨_, _, hyl, ?_⟩
    simp only [later]
    simp only [amset, amlib, zset, y0, y1, eq_self, ↓reduceIte, reduceCtorEq, Nat.reduceBEq, reduceEqDiff, reduceAdd, reduceMul, reduceLeDiff, reduceLT, reduceSub]
    refine ⟨_, _, ih y.body (sizeOf_body hmem) _ (by simp at y0; omega) hs2, ?_⟩
    simp only [later]
    simp only [amset, amlib, zset, y0, y1, eq_self, ↓reduceIte, reduceCtorEq, Nat.reduceBEq, reduceEqDiff, reduceAdd, reduceMul, reduceLeDiff, reduceLT, reduceSub]
    refine hK11 _ ?_
    clear hK11
    refine aw_cond (t := true) rfl (fun _ => ?_) (fun h => nomatch h)
    refine aw_ops zT fun K13 hK13 => ?_
    refine sg ?_
    refine hK13 _ ?_
    clear hK13
    refine aw_ret ?_
    try show resOf zG _ [.tmp 4] = some _ ∧ _ ∧ _
    refine sg ?_
    have hf : decide (k + (stmL l).length ≤ m) = false := by rw [decide_eq_false_iff_not]; simp at y1; omega
    rw [hf]
    simp only [y0, y1, Bool.false_eq_true, ↓reduceIte, and_self]
  | false =>
   simp only [amset, amlib, zset, y0, eq_self, ↓reduceIte, reduceCtorEq, Nat.reduceBEq, reduceEqDiff, reduceAdd, reduceMul, reduceLeDiff, reduceLT, reduceSub]
   refine ⟨_, _, hyl, ?_⟩
   simp only [later]
   simp only [amset, amlib, zset, y0, eq_self, ↓reduceIte, reduceCtorEq, Nat.reduceBEq, reduceEqDiff, reduceAdd, reduceMul, reduceLeDiff, reduceLT, reduceSub]
   refine hK11 _ ?_
   clear hK11
   refine aw_cond (t := true) rfl (fun _ => ?_) (fun h => nomatch h)
   refine aw_ops zT fun K14 hK14 => ?_
   refine sg ?_
   refine hK14 _ ?_
   clear hK14
   refine aw_ret ?_
   try show resOf zG _ [.tmp 4] = some _ ∧ _ ∧ _
   refine sg ?_
   have hf : decide (k + (stmL l).length ≤ m) = false := by rw [decide_eq_false_iff_not]; simp at y0; omega
   rw [hf]
   simp only [y0, Bool.false_eq_true, ↓reduceIte, and_self]
theorem holds117 (v : Value) (xs : List A) (p : Nat → OP) (m : Nat) (ps : OP) (hy : YSeq v xs p m ps) (hp : ∀ i, Stab (p i)) (hps : Stab ps) (l : List St) (k : Nat) (hk : k ≤ m) (hseg : Seg encS xs k (stmL l)) : HoldsO Tryz.prog zG 117 [.c (.sl 7 (encSs l)), .c (.val v)] (p k) (some [.c (.bool (decide (k + (stmL l).length ≤ m)))]) (if decide (k + (stmL l).length ≤ m) = true then p (k + (stmL l).length) else ps) :=
 step117 v xs p m ps hy hp hps l k hk hseg fun l2 h2 k hk hs => holds117 v xs p m ps hy hp hps l2 k hk hs
  termination_by SizeOf.sizeOf l
  decreasing_by exact h2
end Go.Proofs.Am
set_option maxRecDepth 100000
set_option maxHeartbeats 4000000
namespace Go.Proofs.Am
open Nat (reduceEqDiff reduceAdd reduceMul reduceLeDiff reduceLT reduceSub)
theorem sizeOf_args' {x : Ex} {l : List Ex} (h : x ∈ l) : SizeOf.sizeOf x.args < SizeOf.sizeOf l := by
 have h1 := List.sizeOf_lt_of_mem h
 have h2 : SizeOf.sizeOf x.args < SizeOf.sizeOf x := by cases x; simp [Ex.args]; omega
 omega
theorem prog119 : Tryz.prog.funcs[119]? = some Tryz.f119 := by kernel_rfl
theorem step119 (v : Value) (xs : List A) (p : Nat → OP) (m : Nat) (ps : OP) (hy : YSeq v xs p m ps) (hp : ∀ i, Stab (p i)) (hps : Stab ps) (l : List Ex) (k : Nat) (hk : k ≤ m) (hseg : Seg encE xs k (subL l)) (ih : ∀ l2 : List Ex, SizeOf.sizeOf l2 < SizeOf.sizeOf l → ∀ k, k ≤ m → Seg encE xs k (subL l2) → HoldsO Tryz.prog zG 119 [.c (.sl 6 (encEs l2)), .c (.val v)] (p k) (some [.c (.bool (decide (k + (subL l2).length ≤ m)))]) (if decide (k + (subL l2).length ≤ m) = true then p (k + (subL l2).length) else ps)) : HoldsO Tryz.prog zG 119 [.c (.sl 6 (encEs l)), .c (.val v)] (p k) (some [.c (.bool (decide (k + (subL l).length ≤ m)))]) (if decide (k + (subL l).length ≤ m) = true then p (k + (subL l).length) else ps) := by
 refine holdsO_of_body zT prog119 rfl rfl rfl (by simp [Tryz.f119]) (hp k) (by split; exact hp _; exact hps) ?_
 refine aw_ops zT fun K1 hK1 => ?_
 refine sg ?_
 refine hK1 _ ?_
 clear hK1
 refine aw_seq fun K2 hK2 => ?_
 refine aw_ops zT fun K3 hK3 => ?_
 refine sg ?_
 intros
 refine hK3 _ ?_
 clear hK3
 refine aw_block ?_
 refine aw_range (α := Ex) (l) (fun dn => k + (subL dn).length ≤ m) (fun dn => [(9, .cell (.c (.int .i64 dn.length)))]) (fun dn => [(1000000, [.objst (p (k + (subL dn).length))])]) [] [4, 6, 9, 10, 11, 12, 13, 14, 15, 16, 17, 18, 19, 20, 21, 22, 23, 24] [6, 1000000] (by simpa [subL] using hk) ?_ ?_ ?_ ?_
 ·
  simp only [amset, amlib, zset, eq_self, ↓reduceIte, reduceCtorEq, Nat.reduceBEq, reduceEqDiff, reduceAdd, reduceMul, reduceLeDiff, reduceLT, reduceSub] <;> simp [subL_append, subL, subE_eq, List.length_append, List.length_cons, List.length_nil, List.append_nil, Nat.add_assoc, Nat.add_comm, Nat.add_left_comm, Nat.add_zero]
 ·
  simp only [amset, amlib, zset, eq_self, ↓reduceIte, reduceCtorEq, Nat.reduceBEq, reduceEqDiff, reduceAdd, reduceMul, reduceLeDiff, reduceLT, reduceSub] <;> simp [subL_append, subL, subE_eq, List.length_append, List.length_cons, List.length_nil, List.append_nil, Nat.add_assoc, Nat.add_comm, Nat.add_left_comm, Nat.add_zero]
 ·
  intro hI R
  refine aw_nm ?_
  refine aw_ops zT fun K4 hK4 => ?_
  refine sg ?_
  refine hK4 _ ?_
  clear hK4
  refine aw_seq fun K5 hK5 => ?_
  refine aw_cond (t := false) (by simp [evalO, S.get, amLook]) (fun h => nomatch h) (fun _ => ?_)
  refine aw_exit ?_
  simp only [thenQ, blkQ, if_true, reduceIte, Nat.reduceEqDiff, eq_self]
  refine hK2 _ ?_
  clear hK2
  refine aw_ops zT fun K6 hK6 => ?_
  refine sg ?_
  refine hK6 _ ?_
  clear hK6
  refine aw_ret ?_
  try show resOf zG _ [.tmp 4] = some _ ∧ _ ∧ _
  simp only [amset, amlib, zset, eq_self, ↓reduceIte, reduceCtorEq, Nat.reduceBEq, reduceEqDiff, reduceAdd, reduceMul, reduceLeDiff, reduceLT, reduceSub]
  rw [decide_eq_true hI]
  simp only [↓reduceIte, and_self]
 ·
  intro dn y td harg hI R hR
  have hl : (l).length = dn.length + (td.length + 1) := by rw [harg]; simp
  have hmem : y ∈ l := by rw [harg]; simp
  refine aw_nm ?_
  have hget : (encEs (l)).getD dn.length [] = encE y := by rw [harg]; exact encEs_mid dn td y
  have hseg2 := hseg
  rw [harg, subL_append, subL, subE_eq] at hseg2
  have hs0 := Seg.right hseg2
  have hs1 := Seg.left hs0
  have hyl := (hy.at (k := k + (subL dn).length) hI (Seg.head hs1))
  rw [encE_eq] at hyl
  have hs2 := Seg.tail hs1
  have hlen : (subL l).length = (subL dn).length + (1 + (subL y.args).length + (subL td).length) := by rw [harg, subL_append, subL, subE_eq]; simp only [List.length_append, List.length_cons]; omega
  refine aw_ops zT fun K7 hK7 => ?_
  refine sg ?_
  refine hK7 _ ?_
  clear hK7
  refine aw_seq fun K8 hK8 => ?_
  refine aw_cond (t := true) (by simp [evalO, S.get, amLook]; omega) (fun _ => ?_) (fun h => nomatch h)
  refine aw_skip ?_
  simp only [thenQ, blkQ, if_true, reduceIte, Nat.reduceEqDiff, eq_self]
  refine hK8 _ ?_
  clear hK8
  refine aw_seq fun K9 hK9 => ?_
  refine aw_block ?_
  refine aw_ops zT fun K10 hK10 => ?_
  simp only [amset, amlib, zset, hget, eq_self, ↓reduceIte, reduceCtorEq, Nat.reduceBEq, reduceEqDiff, reduceAdd, reduceMul, reduceLeDiff, reduceLT, reduceSub]
  refine ⟨⟨by omega, by omega⟩, ?_⟩
  refine hK10 _ ?_
  clear hK10
  refine aw_ops zT fun K11 hK11 => ?_
  cases y0 : decide (k + (subL dn).length < m) with
  | true =>
   cases y1 : decide (k + (subL dn).length + 1 + (subL y.args).length ≤ m) with
   | true =>
    simp only [amset, amlib, zset, y0, y1, eq_self, ↓reduceIte, reduceCtorEq, Nat.reduceBEq, reduceEqDiff, reduceAdd, reduceMul, reduceLeDiff, reduceLT, reduceSub]
    refine ⟨_, _, hyl, ?_⟩
    simp only [later]
    simp only [amset, amlib, zset, y0, y1, eq_self, ↓reduceIte, reduceCtorEq, Nat.reduceBEq, reduceEqDiff, reduceAdd, reduceMul, reduceLeDiff, reduceLT, reduceSub]
    refine ⟨_, _, ih y.args (sizeOf_args' hmem) _ (by simp at y0; omega) hs2, ?_⟩
    simp only [later]
    simp only [amset, amlib, zset, y0, y1, eq_self, ↓reduceIte, reduceCtorEq, Nat.reduceBEq, reduceEqDiff, reduceAdd, reduceMul, reduceLeDiff, reduceLT, reduceSub]
    refine hK11 _ ?_
    clear hK11
    refine aw_cond (t := false) rfl (fun h => nomatch h) (fun _ => ?_)
    refine aw_skip ?_
    simp only [thenQ, blkQ, if_true, reduceIte, Nat.reduceEqDiff, eq_self]
    refine hK9 _ ?_
    clear hK9
    refine aw_region zT ?_
    refine sg ?_
    refine ⟨⟨by omega, by omega⟩, ?_⟩
    refine hR _ (by simp only [subL_append, subL, subE_eq, List.length_append, List.length_cons, List.length_nil]; simp at y1; omega) ?_
    refine Reach.to ?_ ?_
    ·
     simp only [amset, amlib, zset, eq_self, ↓reduceIte, reduceCtorEq, Nat.reduceBEq, reduceEqDiff, reduceAdd, reduceMul, reduceLeDiff, reduceLT, reduceSub] <;> simp [subL_append, subL, subE_eq, List.length_append, List.length_cons, List.length_nil, List.append_nil, Nat.add_assoc, Nat.add_comm, Nat.add_left_comm, Nat.add_zero]
    ·
     simp only [amset, amlib, zset, eq_self, ↓reduceIte, reduceCtorEq, Nat.reduceBEq, reduceEqDiff, reduceAdd, reduceMul, reduceLeDiff, reduceLT, reduceSub] <;> simp [subL_append, subL, subE_eq, List.length_append, List.length_cons, List.length_nil, List.append_nil, Nat.add_assoc, Nat.add_comm, Nat.add_left_comm, Nat.add_zero]
   | false =>
    simp only [amset, amlib, zset, y0, y1, eq_self, ↓reduceIte, reduceCtorEq, Nat.reduceBEq, reduceEqDiff, reduceAdd, reduceMul, reduceLeDiff, reduceLT, reduceSub]
    refine ⟨_, _, hyl, ?_⟩
    simp only [later]
    simp only [amset, amlib, zset, y0, y1, eq_self, ↓reduceIte, reduceCtorEq, Nat.reduceBEq, reduceEqDiff, reduceAdd, reduceMul, reduceLeDiff, reduceLT, reduceSub]
    refine ⟨_, _, ih y.args (sizeOf_args' hmem) _ (by simp at y0; omega) hs2, ?_⟩
    simp only [later]
    simp only [amset, amlib, zset, y0, y1, eq_self, ↓reduceIte, reduceCtorEq, Nat.reduceBEq, reduceEqDiff, reduceAdd, reduceMul, reduceLeDiff, reduceLT, reduceSub]
    refine hK11 _ ?_
    clear hK11
    refine aw_cond (t := true) rfl (fun _ => ?_) (fun h => nomatch h)
    refine aw_ops zT fun K12 hK12 => ?_
    refine sg ?_
    refine hK12 _ ?_
    clear hK12
    refine aw_ret ?_
    try show resOf zG _ [.tmp 4] = some _ ∧ _ ∧ _
    refine sg ?_
    have hf : decide (k + (subL l).length ≤ m) = false := by rw [decide_eq_false_iff_not]; simp at y1; omega
    rw [hf]
    simp only [y0, y1, Bool.false_eq_true, ↓reduceIte, and_self]
  | false =>
   simp only [amset, amlib, zset, y0, eq_self, ↓reduceIte, reduceCtorEq, Nat.reduceBEq, reduceEqDiff, reduceAdd, reduceMul, reduceLeDiff, reduceLT, reduceSub]
   refine ⟨_, _, hyl, ?_⟩
   simp only [later]
   simp only [amset, amlib, zset, y0, eq_self, ↓reduceIte, reduceCtorEq, Nat.reduceBEq, reduceEqDiff, reduceAdd, reduceMul, reduceLeDiff, reduceLT, reduceSub]
   refine hK11 _ ?_
   clear hK11
   refine aw_cond (t := true) rfl (fun _ => ?_) (fun h => nomatch h)
   refine aw_ops zT fun K13 hK13 => ?_
   refine sg ?_
   refine hK13 _ ?_
   clear hK13
   refine aw_ret ?_
   try show resOf zG _ [.tmp 4] = some _ ∧ _ ∧ _
   refine sg ?_
   have hf : decide (k + (subL l).length ≤ m) = false := by rw [decide_eq_false_iff_not]; simp at y0; omega
   rw [hf]
   simp only [y0, Bool.false_eq_true, ↓reduceIte, and_self]
theorem holds119 (v : Value) (xs : List A) (p : Nat → OP) (m : Nat) (ps : OP) (hy : YSeq v xs p m ps) (hp : ∀ i, Stab (p i)) (hps : Stab ps) (l : List Ex) (k : Nat) (hk : k ≤ m) (hseg : Seg encE xs k (subL l)) : HoldsO Tryz.prog zG 119 [.c (.sl 6 (encEs l)), .c (.val v)] (p k) (some [.c (.bool (decide (k + (subL l).length ≤ m)))]) (if decide (k + (subL l).length ≤ m) = true then p (k + (subL l).length) else ps) :=
 step119 v xs p m ps hy hp hps l k hk hseg fun l2 h2 k hk hs => holds119 v xs p m ps hy hp hps l2 k hk hs
  termination_by SizeOf.sizeOf l
  decreasing_by exact h2
end Go.Proofs.Am
set_option maxRecDepth 100000
set_option maxHeartbeats 4000000
namespace Go.Proofs.Am
open Nat (reduceEqDiff reduceAdd reduceMul reduceLeDiff reduceLT reduceSub)
theorem prog42 : Tryz.prog.funcs[42]? = some Tryz.f42 := by kernel_rfl
theorem holds42 (l : List St) : Holds Tryz.prog zG 42 [.c (.sl 7 (encSs l))] [.c (.clo 116 [.sl 7 (encSs l)])] := by
 refine holds_of_body zT prog42 rfl rfl rfl (by simp [Tryz.f42]) ?_
 refine aw_ops zT fun K1 hK1 => ?_
 refine sg ?_
 refine hK1 _ ?_
 clear hK1
 refine aw_ops zT fun K2 hK2 => ?_
 refine sg ?_
 refine hK2 _ ?_
 clear hK2
 refine aw_seal 2 1 (f := 116) (x := .sl 7 (encSs l)) tsg tsg ?_
 refine aw_ret ?_
 show resOf zG _ [.tmp 2] = some _
 simp only [amset, amlib, zset, eq_self, ↓reduceIte, reduceCtorEq, Nat.reduceBEq, reduceEqDiff, reduceAdd, reduceMul, reduceLeDiff, reduceLT, reduceSub]
theorem prog44 : Tryz.prog.funcs[44]? = some Tryz.f44 := by kernel_rfl
theorem holds44 (l : List St) : Holds Tryz.prog zG 44 [.c (.sl 7 (encSs l))] [.c (.clo 118 [.sl 7 (encSs l)])] := by
 refine holds_of_body zT prog44 rfl rfl rfl (by simp [Tryz.f44]) ?_
 refine aw_ops zT fun K1 hK1 => ?_
 refine sg ?_
 refine hK1 _ ?_
 clear hK1
 refine aw_ops zT fun K2 hK2 => ?_
 refine sg ?_
 refine hK2 _ ?_
 clear hK2
 refine aw_seal 2 1 (f := 118) (x := .sl 7 (encSs l)) tsg tsg ?_
 refine aw_ret ?_
 show resOf zG _ [.tmp 2] = some _
 simp only [amset, amlib, zset, eq_self, ↓reduceIte, reduceCtorEq, Nat.reduceBEq, reduceEqDiff, reduceAdd, reduceMul, reduceLeDiff, reduceLT, reduceSub]
theorem prog116 : Tryz.prog.funcs[116]? = some Tryz.f116 := by kernel_rfl
theorem holds116 (v : Value) (xs : List A) (p : Nat → OP) (m : Nat) (ps : OP) (hy : YSeq v xs p m ps) (hp : ∀ i, Stab (p i)) (hps : Stab ps) (l : List St) (hseg : Seg encS xs 0 (stmL l)) : HoldsO Tryz.prog zG 116 [.c (.val v), .ref [.sl 7 (encSs l)]] (p 0) (some []) (if decide (0 + (stmL l).length ≤ m) = true then p (0 + (stmL l).length) else ps) := by
 refine holdsO_of_body zT prog116 rfl rfl rfl (by simp [Tryz.f116]) (hp 0) (by split; exact hp _; exact hps) ?_
 refine aw_region zT ?_
 refine sg ?_
 refine ⟨_, _, holds117 v xs p m ps hy hp hps l 0 (Nat.zero_le m) hseg, ?_⟩
 simp only [later]
 simp only [amset, amlib, zset, eq_self, ↓reduceIte, reduceCtorEq, Nat.reduceBEq, reduceEqDiff, reduceAdd, reduceMul, reduceLeDiff, reduceLT, reduceSub]
 try show resOf zG _ [] = some _ ∧ _ ∧ _
 try simp only [amset, amlib, zset, eq_self, ↓reduceIte, reduceCtorEq, Nat.reduceBEq, reduceEqDiff, reduceAdd, reduceMul, reduceLeDiff, reduceLT, reduceSub]
 all_goals first | exact ⟨rfl, trivial, rfl⟩ | exact ⟨rfl, trivial⟩ | rfl
theorem seg_all {α : Type} (e : α → List C) (L : List α) : Seg e (L.map fun z => A.agg (e z)) 0 L := fun i z hz => by
 rw [Nat.zero_add, List.getElem?_map, hz]; rfl
theorem iter116 (l : List St) : IterOk Tryz.prog zG 116 [.sl 7 (encSs l)] ((stmL l).map fun z => .agg (encS z)) := by
 intro v p m ps hp hps _ _ hm hy hs
 have h := holds116 v _ p m ps ⟨hy, hs⟩ hp hps l (seg_all encS (stmL l))
 rw [List.length_map] at hm ⊢
 by_cases hl : m < (stmL l).length
 ·
  rw [if_pos hl]
  rw [decide_eq_false (by omega), if_neg (by simp)] at h
  exact h
 ·
  rw [if_neg hl]
  obtain rfl : m = (stmL l).length := by omega
  rw [decide_eq_true (by omega), if_pos rfl, Nat.zero_add] at h
  exact h
theorem fnOk116 : FnOk Tryz.prog 116 := ⟨Tryz.f116, by kernel_rfl, rfl, by rfl⟩
theorem fnOk118 : FnOk Tryz.prog 118 := ⟨Tryz.f118, by kernel_rfl, rfl, by rfl⟩
end Go.Proofs.Am
set_option maxRecDepth 100000
set_option maxHeartbeats 4000000
namespace Go.Proofs.Am
open Nat (reduceEqDiff reduceAdd reduceMul reduceLeDiff reduceLT reduceSub)
theorem stop_at (c : Nat → Nat) (m : Nat) (h0 : c 0 ≤ m) : ∀ n, ∃ M, M ≤ n ∧ c M ≤ m ∧ (M < n → m < c (M + 1)) := by
 intro n
 induction n with
 | zero => exact ⟨0, Nat.le_refl _, h0, fun h => absurd h (Nat.lt_irrefl _)⟩
 | succ n ih =>
  obtain ⟨M, h1, h2, h3⟩ := ih
  by_cases hM : M < n
  ·
   exact ⟨M, by omega, h2, fun _ => h3 hM⟩
  ·
   obtain rfl : M = n := by omega
   by_cases hc : c (M + 1) ≤ m
   ·
    exact ⟨M + 1, Nat.le_refl _, hc, fun h => absurd h (Nat.lt_irrefl _)⟩
   ·
    exact ⟨M, by omega, h2, fun _ => by omega⟩
/-- How many expressions the first statements hold. -/
def cntX (L : List St) (i : Nat) : Nat := (allL (L.take i)).length
theorem take_get {α : Type} {L : List α} {i : Nat} {z : α} (h : L[i]? = some z) : L = L.take i ++ z :: L.drop (i + 1) ∧ L.take (i + 1) = L.take i ++ [z] := by
 obtain ⟨hi, he⟩ := List.getElem?_eq_some_iff.1 h
 constructor
 ·
  conv => lhs; rw [← List.take_append_drop i L]
  rw [List.drop_eq_getElem_cons hi, he]
 ·
  rw [List.take_add_one, h]; rfl
theorem cntX_succ {L : List St} {i : Nat} {z : St} (h : L[i]? = some z) : cntX L (i + 1) = cntX L i + (subL z.args).length := by
 unfold cntX
 rw [(take_get h).2, allL_append, List.length_append]
 simp [allL]
theorem seg_at {L : List St} {xs : List A} (hs : Seg encE xs 0 (allL L)) {i : Nat} {z : St} (h : L[i]? = some z) : Seg encE xs (cntX L i) (subL z.args) := by
 rw [(take_get h).1, allL_append] at hs
 have h1 := Seg.right hs
 rw [Nat.zero_add] at h1
 have e : allL (z :: L.drop (i + 1)) = subL z.args ++ allL (L.drop (i + 1)) := rfl
 rw [e] at h1
 exact Seg.left h1
theorem cntX_mono (L : List St) : ∀ i j, i ≤ j → cntX L i ≤ cntX L j := by
 intro i j h
 obtain ⟨k, rfl⟩ := Nat.exists_eq_add_of_le h
 unfold cntX
 rw [List.take_add, allL_append, List.length_append]
 omega
theorem prog118 : Tryz.prog.funcs[118]? = some Tryz.f118 := by kernel_rfl
theorem holds118 (v : Value) (xs : List A) (p : Nat → OP) (m : Nat) (ps : OP) (hy : YSeq v xs p m ps) (hp : ∀ i, Stab (p i)) (hps : Stab ps) (l : List St) (hseg : Seg encE xs 0 (allL (stmL l))) (hm : m ≤ (allL (stmL l)).length) (M : Nat) (hM1 : M ≤ (stmL l).length) (hM2 : cntX (stmL l) M ≤ m) (hM3 : M < (stmL l).length → m < cntX (stmL l) (M + 1)) : HoldsO Tryz.prog zG 118 [.c (.val v), .ref [.sl 7 (encSs l)]] (p 0) (some []) (if m < (allL (stmL l)).length then ps else p m) := by
 refine holdsOM_of_body zTm prog118 rfl rfl rfl rfl (by simp [Tryz.f118]) (hp 0) (by split; exact hps; exact hp _) ?_
 have hc0 : cntX (stmL l) 0 = 0 := rfl
 have htot : cntX (stmL l) (stmL l).length = (allL (stmL l)).length := by unfold cntX; rw [List.take_length]
 refine aw_ops zTm fun K1 hK1 => ?_
 refine sg ?_
 refine hK1 _ ?_
 clear hK1
 refine aw_ops zTm fun K2 hK2 => ?_
 refine sg ?_
 refine ⟨_, holds42 l, ?_⟩
 refine sgl ?_
 refine hK2 _ ?_
 clear hK2
 refine aw_block ?_
 refine aw_ghost 101 2 (by simp only [amset, amlib, zset, eq_self, ↓reduceIte, reduceCtorEq, Nat.reduceBEq, reduceEqDiff, reduceAdd, reduceMul, reduceLeDiff, reduceLT, reduceSub]; exact rfl) (by decide) (by decide) fun b2 => ?_
 refine aw_rangeFunc (G := zG) rfl (f := 116) (caps := [.sl 7 (encSs l)]) (env0 := [(101, .at 2 b2), (2, .ptr 2 0)]) (gh := [(101, .at 2 b2)]) (fun _ => [(2, [.c (.val v)])]) (fun i => p (cntX (stmL l) i)) M ((stmL l).map fun z => .agg (encS z)) ps [(2, [.c (.val v)])] rfl rfl (by decide) tsg fnOk116 (iter116 l) (by rw [List.length_map]; exact hM1) (fun i => hp _) hps tsg (by simp only [amset, amlib, zset, eq_self, ↓reduceIte, reduceCtorEq, Nat.reduceBEq, reduceEqDiff, reduceAdd, reduceMul, reduceLeDiff, reduceLT, reduceSub]; exact hc0 ▸ rfl) tsg tsg tsg (fun _ => by simp only [amset, amlib, zset, eq_self, ↓reduceIte, reduceCtorEq, Nat.reduceBEq, reduceEqDiff, reduceAdd, reduceMul, reduceLeDiff, reduceLT, reduceSub]) tsg rfl ?_ ?_ ?_ ?_
 ·
  intro i x hi hx
  obtain ⟨z, hz, rfl⟩ : ∃ z, (stmL l)[i]? = some z ∧ x = .agg (encS z) := by
   rw [List.getElem?_map, Option.map_eq_some_iff] at hx
   obtain ⟨z, h1, h2⟩ := hx
   exact ⟨z, h1, h2.symm⟩
  rw [encS_eq]
  intro r hr
  have hcs := cntX_succ hz
  have hsz := seg_at hseg hz
  have hle : cntX (stmL l) i ≤ m := by have := cntX_mono (stmL l) i M (by omega); omega
  have hT : decide (cntX (stmL l) i + (subL z.args).length ≤ m) = true := by rw [decide_eq_true_eq]; have := cntX_mono (stmL l) (i + 1) M (by omega); omega
  refine aw_region zT ?_
  refine sg ?_
  refine ⟨rfl, tsg, p (cntX (stmL l) i), hp _, tsg, fun r' hr' => ?_⟩
  refine aw_block ?_
  refine aw_ops zT fun K hK => ?_
  refine sg ?_
  refine ⟨_, _, HoldsO.frame (holds119 v xs p m ps hy hp hps z.args (cntX (stmL l) i) hle hsz) hr', ?_⟩
  simp only [later]
  simp only [amset, amlib, zset, hT, eq_self, ↓reduceIte, reduceCtorEq, Nat.reduceBEq, reduceEqDiff, reduceAdd, reduceMul, reduceLeDiff, reduceLT, reduceSub]
  refine hK _ ?_
  clear hK
  refine aw_cond (t := false) rfl (fun h => nomatch h) (fun _ => ?_)
  refine aw_skip ?_
  rw [hcs]
  refine ⟨rfl, tsg, tsg, tsg, tsg⟩
 ·
  intro x hx
  obtain ⟨i, rfl⟩ : ∃ i, i = M := ⟨M, rfl⟩
  obtain ⟨z, hz, rfl⟩ : ∃ z, (stmL l)[i]? = some z ∧ x = .agg (encS z) := by
   rw [List.getElem?_map, Option.map_eq_some_iff] at hx
   obtain ⟨z, h1, h2⟩ := hx
   exact ⟨z, h1, h2.symm⟩
  rw [encS_eq]
  intro r hr
  have hcs := cntX_succ hz
  have hsz := seg_at hseg hz
  have hle : cntX (stmL l) i ≤ m := hM2
  have hT : decide (cntX (stmL l) i + (subL z.args).length ≤ m) = false := by rw [decide_eq_false_iff_not]; have h1 := (List.getElem?_eq_some_iff.1 hz).1; have := hM3 h1; omega
  refine aw_region zT ?_
  refine sg ?_
  refine ⟨rfl, tsg, p (cntX (stmL l) i), hp _, tsg, fun r' hr' => ?_⟩
  refine aw_block ?_
  refine aw_ops zT fun K hK => ?_
  refine sg ?_
  refine ⟨_, _, HoldsO.frame (holds119 v xs p m ps hy hp hps z.args (cntX (stmL l) i) hle hsz) hr', ?_⟩
  simp only [later]
  simp only [amset, amlib, zset, hT, eq_self, ↓reduceIte, reduceCtorEq, Nat.reduceBEq, reduceEqDiff, reduceAdd, reduceMul, reduceLeDiff, reduceLT, reduceSub]
  refine hK _ ?_
  clear hK
  refine aw_cond (t := true) rfl (fun _ => ?_) (fun h => nomatch h)
  refine aw_ret ?_
  refine ⟨rfl, tsg, tsg, tsg, tsg⟩
 ·
  intro hm1
  simp only [thenQ, blkQ, ↓reduceIte, Nat.reduceEqDiff, eq_self]
  try show resOf zGm _ [] = some _ ∧ _ ∧ _
  try simp only [amset, amlib, zset, eq_self, ↓reduceIte, reduceCtorEq, Nat.reduceBEq, reduceEqDiff, reduceAdd, reduceMul, reduceLeDiff, reduceLT, reduceSub]
  rw [List.length_map] at hm1
  have hmm : m = (allL (stmL l)).length := by rw [hm1, htot] at hM2; omega
  rw [if_neg (by omega), hm1, htot, ← hmm]
  all_goals first | exact ⟨rfl, rfl, rfl⟩ | exact ⟨rfl, trivial, rfl⟩ | exact ⟨rfl, trivial⟩ | rfl
 ·
  intro hm1
  simp only [thenQ, blkQ, ↓reduceIte, Nat.reduceEqDiff, eq_self]
  try show resOf zGm _ [] = some _ ∧ _ ∧ _
  try simp only [amset, amlib, zset, eq_self, ↓reduceIte, reduceCtorEq, Nat.reduceBEq, reduceEqDiff, reduceAdd, reduceMul, reduceLeDiff, reduceLT, reduceSub]
  rw [List.length_map] at hm1
  have hmm : m < (allL (stmL l)).length := by have h1 := hM3 hm1; have h2 := cntX_mono (stmL l) (M + 1) (stmL l).length hm1; omega
  rw [if_pos hmm]
  all_goals first | exact ⟨rfl, rfl, rfl⟩ | exact ⟨rfl, trivial, rfl⟩ | exact ⟨rfl, trivial⟩ | rfl
theorem iter118 (l : List St) : IterOk Tryz.prog zG 118 [.sl 7 (encSs l)] ((allL (stmL l)).map fun z => .agg (encE z)) := by
 intro v p m ps hp hps _ _ hm hy hs
 rw [List.length_map] at hm ⊢
 obtain ⟨M, h1, h2, h3⟩ := stop_at (cntX (stmL l)) m (Nat.zero_le _) (stmL l).length
 exact holds118 v _ p m ps ⟨hy, hs⟩ hp hps l (seg_all encE _) hm M h1 h2 h3
end Go.Proofs.Am
set_option maxRecDepth 100000
set_option maxHeartbeats 4000000
namespace Go.Proofs.Am
open Nat (reduceEqDiff reduceAdd reduceMul reduceLeDiff reduceLT reduceSub)
theorem prog83 : Tryz.prog.funcs[83]? = some Tryz.f83 := by kernel_rfl
theorem holds83 (p : Pg) (hb : szT p.tasks ≤ 1000000000000) : HoldsO Tryz.prog zG 83 [.agg [.sl 3 (encCs p.consts), .sl 4 (encGs p.globals), .sl 1 (encStrs p.sensors), .sl 1 (encStrs p.outputs), .sl 3 (encHs p.channels), .sl 8 (encTs p.tasks)]] (empP) (some [.c (.int .i64 (szT p.tasks : Nat))]) (empP) := by
 refine holdsOM_of_body zTm prog83 rfl rfl rfl rfl (by simp [Tryz.f83]) (Stab.emp) (Stab.emp) ?_
 refine aw_ops zTm fun K1 hK1 => ?_
 refine sg ?_
 refine hK1 _ ?_
 clear hK1
 refine aw_ops zTm fun K2 hK2 => ?_
 refine sg ?_
 refine hK2 _ ?_
 clear hK2
 refine aw_seq fun K3 hK3 => ?_
 refine aw_ops zTm fun K4 hK4 => ?_
 refine sg ?_
 intros
 refine hK4 _ ?_
 clear hK4
 refine aw_block ?_
 refine aw_to ⟨[(1, .ptr 1 0), (3, .ptr 3 0), (7, .cell (.c (.sl 8 (encTs p.tasks)))), (8, .cell (.c (.int .i64 p.tasks.length))), (9, .cell (.c (.int .i64 0)))], [(3, [.c (.int .i64 0)]), (1, [.c (.sl 3 (encCs p.consts)), .c (.sl 4 (encGs p.globals)), .c (.sl 1 (encStrs p.sensors)), .c (.sl 1 (encStrs p.outputs)), .c (.sl 3 (encHs p.channels)), .c (.sl 8 (encTs p.tasks))]), (1000000, [.objst empP])]⟩ ?_ ?_ ?_
 ·
  simp only [amset, amlib, zset, eq_self, ↓reduceIte, reduceCtorEq, Nat.reduceBEq, reduceEqDiff, reduceAdd, reduceMul, reduceLeDiff, reduceLT, reduceSub] <;> simp [szT, szT_append, szB, Int.natCast_add, Int.add_assoc, Nat.add_assoc, Nat.add_zero]
 ·
  simp only [amset, amlib, zset, eq_self, ↓reduceIte, reduceCtorEq, Nat.reduceBEq, reduceEqDiff, reduceAdd, reduceMul, reduceLeDiff, reduceLT, reduceSub] <;> simp [szT, szT_append, szB, Int.natCast_add, Int.add_assoc, Nat.add_assoc, Nat.add_zero]
 refine aw_range (α := Tk) (p.tasks) (fun dn => True) (fun dn => [(9, .cell (.c (.int .i64 dn.length)))]) (fun dn => [(3, [.c (.int .i64 (szT dn : Nat))])]) [] [5, 9, 10, 11, 12, 13, 14, 15, 17, 18, 19, 20, 21, 23, 24, 25] [3, 5] trivial ?_ ?_ ?_ ?_
 ·
  simp only [amset, amlib, zset, eq_self, ↓reduceIte, reduceCtorEq, Nat.reduceBEq, reduceEqDiff, reduceAdd, reduceMul, reduceLeDiff, reduceLT, reduceSub] <;> simp [szT, szT_append, szB, Int.natCast_add, Int.add_assoc, Nat.add_assoc, Nat.add_zero]
 ·
  simp only [amset, amlib, zset, eq_self, ↓reduceIte, reduceCtorEq, Nat.reduceBEq, reduceEqDiff, reduceAdd, reduceMul, reduceLeDiff, reduceLT, reduceSub] <;> simp [szT, szT_append, szB, Int.natCast_add, Int.add_assoc, Nat.add_assoc, Nat.add_zero]
 ·
  intro hI R
  refine aw_nm ?_
  refine aw_ops zTm fun K5 hK5 => ?_
  refine sg ?_
  refine hK5 _ ?_
  clear hK5
  refine aw_seq fun K6 hK6 => ?_
  refine aw_cond (t := false) (by simp [evalO, S.get, amLook]) (fun h => nomatch h) (fun _ => ?_)
  refine aw_exit ?_
  simp only [thenQ, blkQ, if_true, reduceIte, Nat.reduceEqDiff, eq_self]
  refine hK3 _ ?_
  clear hK3
  refine aw_ops zTm fun K7 hK7 => ?_
  refine sg ?_
  refine hK7 _ ?_
  clear hK7
  refine aw_ret ?_
  try show resOf zGm _ [.tmp 2] = some _ ∧ _ ∧ _
  try simp only [amset, amlib, zset, eq_self, ↓reduceIte, reduceCtorEq, Nat.reduceBEq, reduceEqDiff, reduceAdd, reduceMul, reduceLeDiff, reduceLT, reduceSub]
  all_goals first | exact ⟨rfl, rfl, rfl⟩ | exact ⟨rfl, trivial, rfl⟩ | exact ⟨rfl, trivial⟩ | rfl
 ·
  intro dn y td harg hI R hR
  have hl : (p.tasks).length = dn.length + (td.length + 1) := by rw [harg]; simp
  have hmem : y ∈ p.tasks := by rw [harg]; simp
  refine aw_nm ?_
  have hget : (encTs (p.tasks)).getD dn.length [] = encT y := by rw [harg]; exact encTs_mid dn td y
  have h1 : szT p.tasks = szT dn + ((stmL y.body).length + (allL (stmL y.body)).length) + szT td := by
   rw [harg, szT_append]
   simp [szT, szB]
   omega
  refine aw_ops zTm fun K8 hK8 => ?_
  refine sg ?_
  refine hK8 _ ?_
  clear hK8
  refine aw_seq fun K9 hK9 => ?_
  refine aw_cond (t := true) (by simp [evalO, S.get, amLook]; omega) (fun _ => ?_) (fun h => nomatch h)
  refine aw_skip ?_
  simp only [thenQ, blkQ, if_true, reduceIte, Nat.reduceEqDiff, eq_self]
  refine hK9 _ ?_
  clear hK9
  refine aw_seq fun K10 hK10 => ?_
  refine aw_block ?_
  refine aw_ops zTm fun K11 hK11 => ?_
  simp only [amset, amlib, zset, hget, eq_self, ↓reduceIte, reduceCtorEq, Nat.reduceBEq, reduceEqDiff, reduceAdd, reduceMul, reduceLeDiff, reduceLT, reduceSub]
  refine ⟨⟨by omega, by omega⟩, ?_⟩
  refine hK11 _ ?_
  clear hK11
  refine aw_seq fun K12 hK12 => ?_
  refine aw_ops zTm fun K13 hK13 => ?_
  refine sg ?_
  refine ⟨_, holds42 y.body, ?_⟩
  refine sgl ?_
  refine hK13 _ ?_
  clear hK13
  refine aw_block ?_
  refine aw_ghost 101 1 (by simp only [amset, amlib, zset, eq_self, ↓reduceIte, reduceCtorEq, Nat.reduceBEq, reduceEqDiff, reduceAdd, reduceMul, reduceLeDiff, reduceLT, reduceSub]; exact rfl) (by decide) (by decide) fun b1 => ?_
  refine aw_ghost 102 3 (by simp only [amset, amlib, zset, eq_self, ↓reduceIte, reduceCtorEq, Nat.reduceBEq, reduceEqDiff, reduceAdd, reduceMul, reduceLeDiff, reduceLT, reduceSub]; exact rfl) (by decide) (by decide) fun b3 => ?_
  refine aw_ghost 103 5 (by simp only [amset, amlib, zset, eq_self, ↓reduceIte, reduceCtorEq, Nat.reduceBEq, reduceEqDiff, reduceAdd, reduceMul, reduceLeDiff, reduceLT, reduceSub]; exact rfl) (by decide) (by decide) fun b5 => ?_
  refine aw_rangeFunc (G := zG) rfl (f := 116) (caps := [.sl 7 (encSs y.body)]) (env0 := ([(101, .at 1 b1), (102, .at 3 b3), (103, .at 5 b5)] ++ [(1, .ptr 1 0), (3, .ptr 3 0), (5, .ptr 5 0), (7, .cell (.c (.sl 8 (encTs p.tasks)))), (8, .cell (.c (.int .i64 p.tasks.length))), (9, .cell (.c (.int .i64 dn.length)))] : List (Nat × V))) (gh := [(101, .at 1 b1), (102, .at 3 b3), (103, .at 5 b5)]) (fun i => [(3, [.c (.int .i64 ((szT dn + i : Nat)))]), (1, [.c (.sl 3 (encCs p.consts)), .c (.sl 4 (encGs p.globals)), .c (.sl 1 (encStrs p.sensors)), .c (.sl 1 (encStrs p.outputs)), .c (.sl 3 (encHs p.channels)), .c (.sl 8 (encTs p.tasks))]), (5, [.c (.str y.name), .c (.int .i64 y.period), .c (.int .i64 y.deadline), .c (.str y.channel), .c (.str y.param), .c (.int .i64 y.within), .c (.sl 7 (encSs y.body)), .c (.int .i64 y.pos)])]) (fun _ => empP) ((stmL y.body).map fun z => A.agg (encS z)).length ((stmL y.body).map fun z => A.agg (encS z)) empP [] rfl rfl (by decide) tsg fnOk116 (iter116 y.body) (Nat.le_refl _) (fun _ => Stab.emp) Stab.emp tsg tsg (by simp only [amset, amlib, zset, eq_self, ↓reduceIte, reduceCtorEq, Nat.reduceBEq, reduceEqDiff, reduceAdd, reduceMul, reduceLeDiff, reduceLT, reduceSub] <;> try simp only [Nat.add_zero]) tsg tsg (fun h => absurd h (Nat.lt_irrefl _)) tsg rfl ?_ ?_ ?_ (fun h => absurd h (Nat.lt_irrefl _))
  ·
   intro i x hi hx
   obtain ⟨z, hz, rfl⟩ : ∃ z, (stmL y.body)[i]? = some z ∧ x = .agg (encS z) := by
    rw [List.getElem?_map, Option.map_eq_some_iff] at hx
    obtain ⟨z, h1, h2⟩ := hx
    exact ⟨z, h1, h2.symm⟩
   rw [List.length_map] at hi
   rw [encS_eq]
   intro r hr
   refine aw_skip ?_
   refine ⟨rfl, tsg, empP, Stab.emp, tsg, fun r' hr' => ?_⟩
   refine aw_block ?_
   refine aw_region zT ?_
   refine sg ?_
   refine ⟨⟨by omega, by omega⟩, ?_⟩
   refine ⟨rfl, tsg, tsg, tsg, ?_⟩
   simp only [amset, amlib, zset, eq_self, ↓reduceIte, reduceCtorEq, Nat.reduceBEq, reduceEqDiff, reduceAdd, reduceMul, reduceLeDiff, reduceLT, reduceSub]
   simp only [Nat.add_assoc, Int.natCast_add, Int.natCast_one, and_self, Int.add_assoc]
  ·
   intro x hx
   rw [List.getElem?_eq_none (Nat.le_refl _)] at hx
   cases hx
  intro _
  rw [List.length_map]
  simp only [thenQ, blkQ, ↓reduceIte, Nat.reduceEqDiff, eq_self]
  refine hK12 _ ?_
  clear hK12
  refine aw_ops zTm fun K14 hK14 => ?_
  refine sg ?_
  refine ⟨_, holds44 y.body, ?_⟩
  refine sgl ?_
  refine hK14 _ ?_
  clear hK14
  refine aw_block ?_
  refine aw_ghost 111 1 (by simp only [amset, amlib, zset, eq_self, ↓reduceIte, reduceCtorEq, Nat.reduceBEq, reduceEqDiff, reduceAdd, reduceMul, reduceLeDiff, reduceLT, reduceSub]; exact rfl) (by decide) (by decide) fun b1 => ?_
  refine aw_ghost 112 3 (by simp only [amset, amlib, zset, eq_self, ↓reduceIte, reduceCtorEq, Nat.reduceBEq, reduceEqDiff, reduceAdd, reduceMul, reduceLeDiff, reduceLT, reduceSub]; exact rfl) (by decide) (by decide) fun b3 => ?_
  refine aw_ghost 113 5 (by simp only [amset, amlib, zset, eq_self, ↓reduceIte, reduceCtorEq, Nat.reduceBEq, reduceEqDiff, reduceAdd, reduceMul, reduceLeDiff, reduceLT, reduceSub]; exact rfl) (by decide) (by decide) fun b5 => ?_
  refine aw_rangeFunc (G := zG) rfl (f := 118) (caps := [.sl 7 (encSs y.body)]) (env0 := ([(111, .at 1 b1), (112, .at 3 b3), (113, .at 5 b5)] ++ [(1, .ptr 1 0), (3, .ptr 3 0), (5, .ptr 5 0), (7, .cell (.c (.sl 8 (encTs p.tasks)))), (8, .cell (.c (.int .i64 p.tasks.length))), (9, .cell (.c (.int .i64 dn.length)))] : List (Nat × V))) (gh := [(111, .at 1 b1), (112, .at 3 b3), (113, .at 5 b5)]) (fun i => [(3, [.c (.int .i64 ((szT dn + (stmL y.body).length + i : Nat)))]), (1, [.c (.sl 3 (encCs p.consts)), .c (.sl 4 (encGs p.globals)), .c (.sl 1 (encStrs p.sensors)), .c (.sl 1 (encStrs p.outputs)), .c (.sl 3 (encHs p.channels)), .c (.sl 8 (encTs p.tasks))]), (5, [.c (.str y.name), .c (.int .i64 y.period), .c (.int .i64 y.deadline), .c (.str y.channel), .c (.str y.param), .c (.int .i64 y.within), .c (.sl 7 (encSs y.body)), .c (.int .i64 y.pos)])]) (fun _ => empP) ((allL (stmL y.body)).map fun z => A.agg (encE z)).length ((allL (stmL y.body)).map fun z => A.agg (encE z)) empP [] rfl rfl (by decide) tsg fnOk118 (iter118 y.body) (Nat.le_refl _) (fun _ => Stab.emp) Stab.emp tsg tsg (by simp only [amset, amlib, zset, eq_self, ↓reduceIte, reduceCtorEq, Nat.reduceBEq, reduceEqDiff, reduceAdd, reduceMul, reduceLeDiff, reduceLT, reduceSub] <;> try simp only [Nat.add_zero]) tsg tsg (fun h => absurd h (Nat.lt_irrefl _)) tsg rfl ?_ ?_ ?_ (fun h => absurd h (Nat.lt_irrefl _))
  ·
   intro i x hi hx
   obtain ⟨z, hz, rfl⟩ : ∃ z, (allL (stmL y.body))[i]? = some z ∧ x = .agg (encE z) := by
    rw [List.getElem?_map, Option.map_eq_some_iff] at hx
    obtain ⟨z, h1, h2⟩ := hx
    exact ⟨z, h1, h2.symm⟩
   rw [List.length_map] at hi
   rw [encE_eq]
   intro r hr
   refine aw_skip ?_
   refine ⟨rfl, tsg, empP, Stab.emp, tsg, fun r' hr' => ?_⟩
   refine aw_block ?_
   refine aw_region zT ?_
   refine sg ?_
   refine ⟨⟨by omega, by omega⟩, ?_⟩
   refine ⟨rfl, tsg, tsg, tsg, ?_⟩
   simp only [amset, amlib, zset, eq_self, ↓reduceIte, reduceCtorEq, Nat.reduceBEq, reduceEqDiff, reduceAdd, reduceMul, reduceLeDiff, reduceLT, reduceSub]
   simp only [Nat.add_assoc, Int.natCast_add, Int.natCast_one, and_self, Int.add_assoc]
  ·
   intro x hx
   rw [List.getElem?_eq_none (Nat.le_refl _)] at hx
   cases hx
  intro _
  rw [List.length_map]
  simp only [thenQ, blkQ, ↓reduceIte, Nat.reduceEqDiff, eq_self]
  refine hK10 _ ?_
  clear hK10
  refine aw_region zTm ?_
  refine sg ?_
  refine ⟨⟨by omega, by omega⟩, ?_⟩
  refine hR _ trivial ?_
  refine Reach.to ?_ ?_
  ·
   simp only [amset, amlib, zset, eq_self, ↓reduceIte, reduceCtorEq, Nat.reduceBEq, reduceEqDiff, reduceAdd, reduceMul, reduceLeDiff, reduceLT, reduceSub] <;> simp [szT, szT_append, szB, Int.natCast_add, Int.add_assoc, Nat.add_assoc, Nat.add_zero]
  ·
   simp only [amset, amlib, zset, eq_self, ↓reduceIte, reduceCtorEq, Nat.reduceBEq, reduceEqDiff, reduceAdd, reduceMul, reduceLeDiff, reduceLT, reduceSub] <;> simp [szT, szT_append, szB, Int.natCast_add, Int.add_assoc, Nat.add_assoc, Nat.add_zero]
theorem holdsSize (p : Pg) (hb : szT p.tasks ≤ 1000000000000) : Holds Tryz.prog zG 83 [.agg [.sl 3 (encCs p.consts), .sl 4 (encGs p.globals), .sl 1 (encStrs p.sensors), .sl 1 (encStrs p.outputs), .sl 3 (encHs p.channels), .sl 8 (encTs p.tasks)]] [.c (.int .i64 (szT p.tasks : Nat))] := Holds.of_emp (holds83 p hb)
end Go.Proofs.Am
set_option maxRecDepth 100000
set_option maxHeartbeats 4000000
namespace Go.Proofs.Am
open Nat (reduceEqDiff reduceAdd reduceMul reduceLeDiff reduceLT reduceSub)
theorem max_cast2 (a b : Nat) : (if (1 : Int) + (b : Int) > (a : Int) then 1 + (b : Int) else (a : Int)) = ((max a (b + 1) : Nat) : Int) := by
 split <;> omega
theorem depL_mem' {x : Ex} {l : List Ex} (h : x ∈ l) : depL x.args + 1 ≤ depL l := by
 have := depL_mem h
 rwa [depE_eq] at this
theorem prog197 : Tryz.prog.funcs[197]? = some Tryz.f197 := by kernel_rfl
theorem step197 (l : List Ex) (hb : depL l ≤ 1000000000000) (ih : ∀ y ∈ l, depL y.args ≤ 1000000000000 → Holds Tryz.prog zG 197 [.c (.sl 6 (encEs y.args))] [.c (.int .i64 (depL y.args))]) : Holds Tryz.prog zG 197 [.c (.sl 6 (encEs l))] [.c (.int .i64 (depL l))] := by
 refine holds_of_body zT prog197 rfl rfl rfl (by simp [Tryz.f197]) ?_
 refine aw_ops zT fun K1 hK1 => ?_
 simp only [amset, amlib, zset, max_cast, max_cast1, max_cast2, max_nat, eq_self, ↓reduceIte, reduceCtorEq, Nat.reduceBEq, reduceEqDiff, reduceAdd, reduceMul, reduceLeDiff, reduceLT, reduceSub]
 refine hK1 _ ?_
 clear hK1
 refine aw_ops zT fun K2 hK2 => ?_
 simp only [amset, amlib, zset, max_cast, max_cast1, max_cast2, max_nat, eq_self, ↓reduceIte, reduceCtorEq, Nat.reduceBEq, reduceEqDiff, reduceAdd, reduceMul, reduceLeDiff, reduceLT, reduceSub]
 refine hK2 _ ?_
 clear hK2
 refine aw_seq fun K3 hK3 => ?_
 refine aw_ops zT fun K4 hK4 => ?_
 simp only [amset, amlib, zset, max_cast, max_cast1, max_cast2, max_nat, eq_self, ↓reduceIte, reduceCtorEq, Nat.reduceBEq, reduceEqDiff, reduceAdd, reduceMul, reduceLeDiff, reduceLT, reduceSub]
 intros
 refine hK4 _ ?_
 clear hK4
 refine aw_block ?_
 refine aw_range (α := Ex) (l) (fun dn => True) (fun dn => [(3, .cell (.c (.int .i64 (depL dn : Nat)))), (8, .cell (.c (.int .i64 dn.length)))]) (fun dn => []) [] [3, 5, 8, 9, 10, 11, 12, 13, 14, 15, 16, 17, 18] [5] trivial ?_ ?_ ?_ ?_
 ·
  simp only [amset, amlib, zset, max_cast, max_cast1, max_cast2, max_nat, eq_self, ↓reduceIte, reduceCtorEq, Nat.reduceBEq, reduceEqDiff, reduceAdd, reduceMul, reduceLeDiff, reduceLT, reduceSub] <;> simp [depL, depL_append, depE_eq, Nat.max_assoc, Nat.max_comm, Nat.max_left_comm, max_cast, max_cast1, max_cast2, max_nat]
 ·
  simp only [amset, amlib, zset, max_cast, max_cast1, max_cast2, max_nat, eq_self, ↓reduceIte, reduceCtorEq, Nat.reduceBEq, reduceEqDiff, reduceAdd, reduceMul, reduceLeDiff, reduceLT, reduceSub] <;> simp [depL, depL_append, depE_eq, Nat.max_assoc, Nat.max_comm, Nat.max_left_comm, max_cast, max_cast1, max_cast2, max_nat]
 ·
  intro hI R
  refine aw_norm (by simp only [amset, amlib, zset, max_cast, max_cast1, max_cast2, max_nat, eq_self, ↓reduceIte, reduceCtorEq, Nat.reduceBEq, reduceEqDiff, reduceAdd, reduceMul, reduceLeDiff, reduceLT, reduceSub]; exact rfl) ?_
  refine aw_ops zT fun K5 hK5 => ?_
  simp only [amset, amlib, zset, max_cast, max_cast1, max_cast2, max_nat, eq_self, ↓reduceIte, reduceCtorEq, Nat.reduceBEq, reduceEqDiff, reduceAdd, reduceMul, reduceLeDiff, reduceLT, reduceSub]
  refine hK5 _ ?_
  clear hK5
  refine aw_seq fun K6 hK6 => ?_
  refine aw_cond (t := false) (by simp [evalO, S.get, amLook]) (fun h => nomatch h) (fun _ => ?_)
  refine aw_exit ?_
  simp only [thenQ, blkQ, if_true, reduceIte, Nat.reduceEqDiff, eq_self]
  refine hK3 _ ?_
  clear hK3
  refine aw_ops zT fun K7 hK7 => ?_
  simp only [amset, amlib, zset, max_cast, max_cast1, max_cast2, max_nat, eq_self, ↓reduceIte, reduceCtorEq, Nat.reduceBEq, reduceEqDiff, reduceAdd, reduceMul, reduceLeDiff, reduceLT, reduceSub]
  refine hK7 _ ?_
  clear hK7
  refine aw_ret ?_
  show resOf zG _ [.tmp 2] = some _
  simp only [amset, amlib, zset, max_cast, max_cast1, max_cast2, max_nat, eq_self, ↓reduceIte, reduceCtorEq, Nat.reduceBEq, reduceEqDiff, reduceAdd, reduceMul, reduceLeDiff, reduceLT, reduceSub]
 ·
  intro dn y td harg hI R hR
  have hl : (l).length = dn.length + (td.length + 1) := by rw [harg]; simp
  have hmem : y ∈ l := by rw [harg]; simp
  refine aw_norm (by simp only [amset, amlib, zset, max_cast, max_cast1, max_cast2, max_nat, eq_self, ↓reduceIte, reduceCtorEq, Nat.reduceBEq, reduceEqDiff, reduceAdd, reduceMul, reduceLeDiff, reduceLT, reduceSub]; exact rfl) ?_
  have hget : (encEs (l)).getD dn.length [] = encE y := by rw [harg]; exact encEs_mid dn td y
  have hy := depL_mem' hmem
  refine aw_ops zT fun K8 hK8 => ?_
  simp only [amset, amlib, zset, max_cast, max_cast1, max_cast2, max_nat, eq_self, ↓reduceIte, reduceCtorEq, Nat.reduceBEq, reduceEqDiff, reduceAdd, reduceMul, reduceLeDiff, reduceLT, reduceSub]
  refine hK8 _ ?_
  clear hK8
  refine aw_seq fun K9 hK9 => ?_
  refine aw_cond (t := true) (by simp [evalO, S.get, amLook]; omega) (fun _ => ?_) (fun h => nomatch h)
  refine aw_skip ?_
  simp only [thenQ, blkQ, if_true, reduceIte, Nat.reduceEqDiff, eq_self]
  refine hK9 _ ?_
  clear hK9
  refine aw_seq fun K10 hK10 => ?_
  refine aw_block ?_
  refine aw_ops zT fun K11 hK11 => ?_
  simp only [amset, amlib, zset, hget, max_cast, max_cast1, max_cast2, max_nat, eq_self, ↓reduceIte, reduceCtorEq, Nat.reduceBEq, reduceEqDiff, reduceAdd, reduceMul, reduceLeDiff, reduceLT, reduceSub]
  refine ⟨⟨by omega, by omega⟩, ?_⟩
  refine hK11 _ ?_
  clear hK11
  refine aw_region zT ?_
  simp only [amset, amlib, zset, max_cast, max_cast1, max_cast2, max_nat, eq_self, ↓reduceIte, reduceCtorEq, Nat.reduceBEq, reduceEqDiff, reduceAdd, reduceMul, reduceLeDiff, reduceLT, reduceSub]
  refine ⟨_, ih y hmem (by omega), ?_⟩
  simp only [later]
  simp only [amset, amlib, zset, max_cast, max_cast1, max_cast2, max_nat, eq_self, ↓reduceIte, reduceCtorEq, Nat.reduceBEq, reduceEqDiff, reduceAdd, reduceMul, reduceLeDiff, reduceLT, reduceSub]
  refine ⟨⟨by omega, by omega⟩, ?_⟩
  refine hK10 _ ?_
  clear hK10
  refine aw_region zT ?_
  simp only [amset, amlib, zset, max_cast, max_cast1, max_cast2, max_nat, eq_self, ↓reduceIte, reduceCtorEq, Nat.reduceBEq, reduceEqDiff, reduceAdd, reduceMul, reduceLeDiff, reduceLT, reduceSub]
  refine ⟨⟨by omega, by omega⟩, ?_⟩
  refine hR _ trivial ?_
  refine Reach.to ?_ ?_
  ·
   simp only [amset, amlib, zset, max_cast, max_cast1, max_cast2, max_nat, eq_self, ↓reduceIte, reduceCtorEq, Nat.reduceBEq, reduceEqDiff, reduceAdd, reduceMul, reduceLeDiff, reduceLT, reduceSub] <;> simp [depL, depL_append, depE_eq, Nat.max_assoc, Nat.max_comm, Nat.max_left_comm, max_cast, max_cast1, max_cast2, max_nat]
  ·
   simp only [amset, amlib, zset, max_cast, max_cast1, max_cast2, max_nat, eq_self, ↓reduceIte, reduceCtorEq, Nat.reduceBEq, reduceEqDiff, reduceAdd, reduceMul, reduceLeDiff, reduceLT, reduceSub] <;> simp [depL, depL_append, depE_eq, Nat.max_assoc, Nat.max_comm, Nat.max_left_comm, max_cast, max_cast1, max_cast2, max_nat]
theorem holds197 (l : List Ex) (hb : depL l ≤ 1000000000000) : Holds Tryz.prog zG 197 [.c (.sl 6 (encEs l))] [.c (.int .i64 (depL l))] := step197 l hb fun y hy hb => holds197 y.args hb
  termination_by SizeOf.sizeOf l
  decreasing_by
 have h1 := List.sizeOf_lt_of_mem hy
 have h2 : SizeOf.sizeOf y.args < SizeOf.sizeOf y := by cases y; simp [Ex.args]; omega
 omega
theorem prog157 : Tryz.prog.funcs[157]? = some Tryz.f157 := by kernel_rfl
theorem step157 (l : List St) (hb : depM l ≤ 1000000000000) (ih : ∀ m : List St, SizeOf.sizeOf m < SizeOf.sizeOf l → depM m ≤ 1000000000000 → Holds Tryz.prog zG 157 [.c (.sl 7 (encSs m))] [.c (.int .i64 (depM m))]) : Holds Tryz.prog zG 157 [.c (.sl 7 (encSs l))] [.c (.int .i64 (depM l))] := by
 refine holds_of_body zT prog157 rfl rfl rfl (by simp [Tryz.f157]) ?_
 refine aw_ops zT fun K1 hK1 => ?_
 simp only [amset, amlib, zset, max_cast, max_cast1, max_cast2, max_nat, eq_self, ↓reduceIte, reduceCtorEq, Nat.reduceBEq, reduceEqDiff, reduceAdd, reduceMul, reduceLeDiff, reduceLT, reduceSub]
 refine hK1 _ ?_
 clear hK1
 refine aw_ops zT fun K2 hK2 => ?_
 simp only [amset, amlib, zset, max_cast, max_cast1, max_cast2, max_nat, eq_self, ↓reduceIte, reduceCtorEq, Nat.reduceBEq, reduceEqDiff, reduceAdd, reduceMul, reduceLeDiff, reduceLT, reduceSub]
 refine hK2 _ ?_
 clear hK2
 refine aw_seq fun K3 hK3 => ?_
 refine aw_ops zT fun K4 hK4 => ?_
 simp only [amset, amlib, zset, max_cast, max_cast1, max_cast2, max_nat, eq_self, ↓reduceIte, reduceCtorEq, Nat.reduceBEq, reduceEqDiff, reduceAdd, reduceMul, reduceLeDiff, reduceLT, reduceSub]
 intros
 refine hK4 _ ?_
 clear hK4
 refine aw_block ?_
 refine aw_range (α := St) (l) (fun dn => True) (fun dn => [(3, .cell (.c (.int .i64 (depM dn : Nat)))), (8, .cell (.c (.int .i64 dn.length)))]) (fun dn => []) [] [3, 5, 8, 9, 10, 11, 12, 13, 14, 15, 16, 17, 18, 19, 20, 21, 22, 23, 24, 25] [5] trivial ?_ ?_ ?_ ?_
 ·
  simp only [amset, amlib, zset, max_cast, max_cast1, max_cast2, max_nat, eq_self, ↓reduceIte, reduceCtorEq, Nat.reduceBEq, reduceEqDiff, reduceAdd, reduceMul, reduceLeDiff, reduceLT, reduceSub] <;> simp [depM, depM_append, depL, depL_append, depS_eq, Nat.max_assoc, Nat.max_comm, Nat.max_left_comm, max_cast, max_cast1, max_cast2, max_nat]
 ·
  simp only [amset, amlib, zset, max_cast, max_cast1, max_cast2, max_nat, eq_self, ↓reduceIte, reduceCtorEq, Nat.reduceBEq, reduceEqDiff, reduceAdd, reduceMul, reduceLeDiff, reduceLT, reduceSub] <;> simp [depM, depM_append, depL, depL_append, depS_eq, Nat.max_assoc, Nat.max_comm, Nat.max_left_comm, max_cast, max_cast1, max_cast2, max_nat]
 ·
  intro hI R
  refine aw_norm (by simp only [amset, amlib, zset, max_cast, max_cast1, max_cast2, max_nat, eq_self, ↓reduceIte, reduceCtorEq, Nat.reduceBEq, reduceEqDiff, reduceAdd, reduceMul, reduceLeDiff, reduceLT, reduceSub]; exact rfl) ?_
  refine aw_ops zT fun K5 hK5 => ?_
  simp only [amset, amlib, zset, max_cast, max_cast1, max_cast2, max_nat, eq_self, ↓reduceIte, reduceCtorEq, Nat.reduceBEq, reduceEqDiff, reduceAdd, reduceMul, reduceLeDiff, reduceLT, reduceSub]
  refine hK5 _ ?_
  clear hK5
  refine aw_seq fun K6 hK6 => ?_
  refine aw_cond (t := false) (by simp [evalO, S.get, amLook]) (fun h => nomatch h) (fun _ => ?_)
  refine aw_exit ?_
  simp only [thenQ, blkQ, if_true, reduceIte, Nat.reduceEqDiff, eq_self]
  refine hK3 _ ?_
  clear hK3
  refine aw_ops zT fun K7 hK7 => ?_
  simp only [amset, amlib, zset, max_cast, max_cast1, max_cast2, max_nat, eq_self, ↓reduceIte, reduceCtorEq, Nat.reduceBEq, reduceEqDiff, reduceAdd, reduceMul, reduceLeDiff, reduceLT, reduceSub]
  refine hK7 _ ?_
  clear hK7
  refine aw_ret ?_
  show resOf zG _ [.tmp 2] = some _
  simp only [amset, amlib, zset, max_cast, max_cast1, max_cast2, max_nat, eq_self, ↓reduceIte, reduceCtorEq, Nat.reduceBEq, reduceEqDiff, reduceAdd, reduceMul, reduceLeDiff, reduceLT, reduceSub]
 ·
  intro dn y td harg hI R hR
  have hl : (l).length = dn.length + (td.length + 1) := by rw [harg]; simp
  have hmem : y ∈ l := by rw [harg]; simp
  refine aw_norm (by simp only [amset, amlib, zset, max_cast, max_cast1, max_cast2, max_nat, eq_self, ↓reduceIte, reduceCtorEq, Nat.reduceBEq, reduceEqDiff, reduceAdd, reduceMul, reduceLeDiff, reduceLT, reduceSub]; exact rfl) ?_
  have hget : (encSs (l)).getD dn.length [] = encS y := by rw [harg]; exact encSs_mid dn td y
  have hy := depM_mem hmem
  rw [depS_eq] at hy
  refine aw_ops zT fun K8 hK8 => ?_
  simp only [amset, amlib, zset, max_cast, max_cast1, max_cast2, max_nat, eq_self, ↓reduceIte, reduceCtorEq, Nat.reduceBEq, reduceEqDiff, reduceAdd, reduceMul, reduceLeDiff, reduceLT, reduceSub]
  refine hK8 _ ?_
  clear hK8
  refine aw_seq fun K9 hK9 => ?_
  refine aw_cond (t := true) (by simp [evalO, S.get, amLook]; omega) (fun _ => ?_) (fun h => nomatch h)
  refine aw_skip ?_
  simp only [thenQ, blkQ, if_true, reduceIte, Nat.reduceEqDiff, eq_self]
  refine hK9 _ ?_
  clear hK9
  refine aw_seq fun K10 hK10 => ?_
  refine aw_block ?_
  refine aw_ops zT fun K11 hK11 => ?_
  simp only [amset, amlib, zset, hget, max_cast, max_cast1, max_cast2, max_nat, eq_self, ↓reduceIte, reduceCtorEq, Nat.reduceBEq, reduceEqDiff, reduceAdd, reduceMul, reduceLeDiff, reduceLT, reduceSub]
  refine ⟨⟨by omega, by omega⟩, ?_⟩
  refine hK11 _ ?_
  clear hK11
  refine aw_draw_region zT prog_mixed ?_
  simp only [amset, amlib, zset, max_cast, max_cast1, max_cast2, max_nat, eq_self, ↓reduceIte, reduceCtorEq, Nat.reduceBEq, reduceEqDiff, reduceAdd, reduceMul, reduceLeDiff, reduceLT, reduceSub]
  refine ⟨_, holds197 y.args (by omega), ?_⟩
  simp only [later]
  simp only [amset, amlib, zset, max_cast, max_cast1, max_cast2, max_nat, eq_self, ↓reduceIte, reduceCtorEq, Nat.reduceBEq, reduceEqDiff, reduceAdd, reduceMul, reduceLeDiff, reduceLT, reduceSub]
  refine ⟨_, ih y.body (sizeOf_body hmem) (by omega), ?_⟩
  simp only [later]
  simp only [amset, amlib, zset, max_cast, max_cast1, max_cast2, max_nat, eq_self, ↓reduceIte, reduceCtorEq, Nat.reduceBEq, reduceEqDiff, reduceAdd, reduceMul, reduceLeDiff, reduceLT, reduceSub]
  refine ⟨_, ih y.els (sizeOf_els hmem) (by omega), ?_⟩
  simp only [later]
  simp only [amset, amlib, zset, max_cast, max_cast1, max_cast2, max_nat, eq_self, ↓reduceIte, reduceCtorEq, Nat.reduceBEq, reduceEqDiff, reduceAdd, reduceMul, reduceLeDiff, reduceLT, reduceSub]
  refine ⟨⟨by omega, by omega⟩, ?_⟩
  refine ⟨by kernel_rfl, ?_⟩
  refine hK10 _ ?_
  clear hK10
  refine aw_region zT ?_
  simp only [amset, amlib, zset, max_cast, max_cast1, max_cast2, max_nat, eq_self, ↓reduceIte, reduceCtorEq, Nat.reduceBEq, reduceEqDiff, reduceAdd, reduceMul, reduceLeDiff, reduceLT, reduceSub]
  refine ⟨⟨by omega, by omega⟩, ?_⟩
  refine hR _ trivial ?_
  refine Reach.to ?_ ?_
  ·
   simp only [amset, amlib, zset, max_cast, max_cast1, max_cast2, max_nat, eq_self, ↓reduceIte, reduceCtorEq, Nat.reduceBEq, reduceEqDiff, reduceAdd, reduceMul, reduceLeDiff, reduceLT, reduceSub] <;> simp [depM, depM_append, depL, depL_append, depS_eq, Nat.max_assoc, Nat.max_comm, Nat.max_left_comm, max_cast, max_cast1, max_cast2, max_nat]
  ·
   simp only [amset, amlib, zset, max_cast, max_cast1, max_cast2, max_nat, eq_self, ↓reduceIte, reduceCtorEq, Nat.reduceBEq, reduceEqDiff, reduceAdd, reduceMul, reduceLeDiff, reduceLT, reduceSub] <;> simp [depM, depM_append, depL, depL_append, depS_eq, Nat.max_assoc, Nat.max_comm, Nat.max_left_comm, max_cast, max_cast1, max_cast2, max_nat]
theorem holds157 (l : List St) (hb : depM l ≤ 1000000000000) : Holds Tryz.prog zG 157 [.c (.sl 7 (encSs l))] [.c (.int .i64 (depM l))] := step157 l hb fun m hm hb => holds157 m hb
  termination_by SizeOf.sizeOf l
  decreasing_by exact hm
theorem prog84 : Tryz.prog.funcs[84]? = some Tryz.f84 := by kernel_rfl
theorem holds84 (p : Pg) (hb : depT p.tasks ≤ 1000000000000) : Holds Tryz.prog zG 84 [.agg [.sl 3 (encCs p.consts), .sl 4 (encGs p.globals), .sl 1 (encStrs p.sensors), .sl 1 (encStrs p.outputs), .sl 3 (encHs p.channels), .sl 8 (encTs p.tasks)]] [.c (.int .i64 (depT p.tasks))] := by
 refine holds_of_body zT prog84 rfl rfl rfl (by simp [Tryz.f84]) ?_
 refine aw_ops zT fun K1 hK1 => ?_
 simp only [amset, amlib, zset, max_cast, max_cast1, eq_self, ↓reduceIte, reduceCtorEq, Nat.reduceBEq, reduceEqDiff, reduceAdd, reduceMul, reduceLeDiff, reduceLT, reduceSub]
 refine hK1 _ ?_
 clear hK1
 refine aw_ops zT fun K2 hK2 => ?_
 simp only [amset, amlib, zset, max_cast, max_cast1, eq_self, ↓reduceIte, reduceCtorEq, Nat.reduceBEq, reduceEqDiff, reduceAdd, reduceMul, reduceLeDiff, reduceLT, reduceSub]
 refine hK2 _ ?_
 clear hK2
 refine aw_seq fun K3 hK3 => ?_
 refine aw_ops zT fun K4 hK4 => ?_
 simp only [amset, amlib, zset, max_cast, max_cast1, eq_self, ↓reduceIte, reduceCtorEq, Nat.reduceBEq, reduceEqDiff, reduceAdd, reduceMul, reduceLeDiff, reduceLT, reduceSub]
 intros
 refine hK4 _ ?_
 clear hK4
 refine aw_block ?_
 refine aw_range (α := Tk) (p.tasks) (fun dn => True) (fun dn => [(3, .cell (.c (.int .i64 (depT dn : Nat)))), (9, .cell (.c (.int .i64 dn.length)))]) (fun dn => []) [] [3, 5, 9, 10, 11, 12, 13, 14, 15, 16, 17, 18] [5] trivial ?_ ?_ ?_ ?_
 ·
  simp only [amset, amlib, zset, max_cast, max_cast1, eq_self, ↓reduceIte, reduceCtorEq, Nat.reduceBEq, reduceEqDiff, reduceAdd, reduceMul, reduceLeDiff, reduceLT, reduceSub] <;> simp [depT, depT_append, max_cast, max_nat, Nat.max_comm]
 ·
  simp only [amset, amlib, zset, max_cast, max_cast1, eq_self, ↓reduceIte, reduceCtorEq, Nat.reduceBEq, reduceEqDiff, reduceAdd, reduceMul, reduceLeDiff, reduceLT, reduceSub] <;> simp [depT, depT_append, max_cast, max_nat, Nat.max_comm]
 ·
  intro hI R
  refine aw_norm (by simp only [amset, amlib, zset, max_cast, max_cast1, eq_self, ↓reduceIte, reduceCtorEq, Nat.reduceBEq, reduceEqDiff, reduceAdd, reduceMul, reduceLeDiff, reduceLT, reduceSub]; exact rfl) ?_
  refine aw_ops zT fun K5 hK5 => ?_
  simp only [amset, amlib, zset, max_cast, max_cast1, eq_self, ↓reduceIte, reduceCtorEq, Nat.reduceBEq, reduceEqDiff, reduceAdd, reduceMul, reduceLeDiff, reduceLT, reduceSub]
  refine hK5 _ ?_
  clear hK5
  refine aw_seq fun K6 hK6 => ?_
  refine aw_cond (t := false) (by simp [evalO, S.get, amLook]) (fun h => nomatch h) (fun _ => ?_)
  refine aw_exit ?_
  simp only [thenQ, blkQ, if_true, reduceIte, Nat.reduceEqDiff, eq_self]
  refine hK3 _ ?_
  clear hK3
  refine aw_ops zT fun K7 hK7 => ?_
  simp only [amset, amlib, zset, max_cast, max_cast1, eq_self, ↓reduceIte, reduceCtorEq, Nat.reduceBEq, reduceEqDiff, reduceAdd, reduceMul, reduceLeDiff, reduceLT, reduceSub]
  refine hK7 _ ?_
  clear hK7
  refine aw_ret ?_
  show resOf zG _ [.tmp 2] = some _
  simp only [amset, amlib, zset, max_cast, max_cast1, eq_self, ↓reduceIte, reduceCtorEq, Nat.reduceBEq, reduceEqDiff, reduceAdd, reduceMul, reduceLeDiff, reduceLT, reduceSub]
 ·
  intro dn y td harg hI R hR
  have hl : (p.tasks).length = dn.length + (td.length + 1) := by rw [harg]; simp
  have hmem : y ∈ p.tasks := by rw [harg]; simp
  refine aw_norm (by simp only [amset, amlib, zset, max_cast, max_cast1, eq_self, ↓reduceIte, reduceCtorEq, Nat.reduceBEq, reduceEqDiff, reduceAdd, reduceMul, reduceLeDiff, reduceLT, reduceSub]; exact rfl) ?_
  have hget : (encTs (p.tasks)).getD dn.length [] = encT y := by rw [harg]; exact encTs_mid dn td y
  have hy := depT_mem hmem
  refine aw_ops zT fun K8 hK8 => ?_
  simp only [amset, amlib, zset, max_cast, max_cast1, eq_self, ↓reduceIte, reduceCtorEq, Nat.reduceBEq, reduceEqDiff, reduceAdd, reduceMul, reduceLeDiff, reduceLT, reduceSub]
  refine hK8 _ ?_
  clear hK8
  refine aw_seq fun K9 hK9 => ?_
  refine aw_cond (t := true) (by simp [evalO, S.get, amLook]; omega) (fun _ => ?_) (fun h => nomatch h)
  refine aw_skip ?_
  simp only [thenQ, blkQ, if_true, reduceIte, Nat.reduceEqDiff, eq_self]
  refine hK9 _ ?_
  clear hK9
  refine aw_seq fun K10 hK10 => ?_
  refine aw_block ?_
  refine aw_ops zT fun K11 hK11 => ?_
  simp only [amset, amlib, zset, hget, max_cast, max_cast1, eq_self, ↓reduceIte, reduceCtorEq, Nat.reduceBEq, reduceEqDiff, reduceAdd, reduceMul, reduceLeDiff, reduceLT, reduceSub]
  refine ⟨⟨by omega, by omega⟩, ?_⟩
  refine hK11 _ ?_
  clear hK11
  refine aw_region zT ?_
  simp only [amset, amlib, zset, max_cast, max_cast1, eq_self, ↓reduceIte, reduceCtorEq, Nat.reduceBEq, reduceEqDiff, reduceAdd, reduceMul, reduceLeDiff, reduceLT, reduceSub]
  refine ⟨_, holds157 y.body (by omega), ?_⟩
  simp only [later]
  simp only [amset, amlib, zset, max_cast, max_cast1, eq_self, ↓reduceIte, reduceCtorEq, Nat.reduceBEq, reduceEqDiff, reduceAdd, reduceMul, reduceLeDiff, reduceLT, reduceSub]
  refine hK10 _ ?_
  clear hK10
  refine aw_region zT ?_
  simp only [amset, amlib, zset, max_cast, max_cast1, eq_self, ↓reduceIte, reduceCtorEq, Nat.reduceBEq, reduceEqDiff, reduceAdd, reduceMul, reduceLeDiff, reduceLT, reduceSub]
  refine ⟨⟨by omega, by omega⟩, ?_⟩
  refine hR _ trivial ?_
  refine Reach.to ?_ ?_
  ·
   simp only [amset, amlib, zset, max_cast, max_cast1, eq_self, ↓reduceIte, reduceCtorEq, Nat.reduceBEq, reduceEqDiff, reduceAdd, reduceMul, reduceLeDiff, reduceLT, reduceSub] <;> simp [depT, depT_append, max_cast, max_nat, Nat.max_comm]
  ·
   simp only [amset, amlib, zset, max_cast, max_cast1, eq_self, ↓reduceIte, reduceCtorEq, Nat.reduceBEq, reduceEqDiff, reduceAdd, reduceMul, reduceLeDiff, reduceLT, reduceSub] <;> simp [depT, depT_append, max_cast, max_nat, Nat.max_comm]
end Go.Proofs.Am
set_option maxRecDepth 100000
set_option maxHeartbeats 4000000
namespace Go.Proofs.Am
mutual
def eqE : Ex → Ex → Bool
 | .mk k n v o a _, .mk k' n' v' o' a' _ => k == k' && n == n' && v == v' && o == o' && eqL a a'
def eqL : List Ex → List Ex → Bool
 | [], [] => true
 | x :: r, y :: s => eqE x y && eqL r s
 | _, _ => false
end
theorem eqE_eq (x y : Ex) : eqE x y = (x.kind == y.kind && x.name == y.name && x.value == y.value && x.op == y.op && eqL x.args y.args) := by cases x; cases y; simp [eqE, Ex.kind, Ex.name, Ex.value, Ex.op, Ex.args]
/-- The member at the same place. -/
theorem take_snoc {α : Type} {a p r : List α} {z : α} {n : Nat} (h : a = p ++ z :: r) (hp : p.length = n) : a.take (n + 1) = p ++ [z] := by
 subst hp
 rw [h, List.take_append]
 simp
 exact List.take_of_length_le (by omega)
theorem at_same {α : Type} {a : List α} (n : Nat) (h : n < a.length) : ∃ y r, a = a.take n ++ y :: r ∧ y ∈ a ∧ (a.take n).length = n := by
 refine ⟨a[n], a.drop (n + 1), ?_, List.getElem_mem h, by simp; omega⟩
 rw [List.getElem_cons_drop, List.take_append_drop]
end Go.Proofs.Am
