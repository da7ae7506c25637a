/- Part 7 of a proof that the law holds of every input of the given bulk. -/
import Derived.Test.YtfflfbhnedkppaaGreatDoorPart06
import Derived.Test.YtfflfbhnedkppaaGreatDoorPart05
import Derived.Test.YtfflfbhnedkppaaGreatDoorPart04
import Derived.Test.YtfflfbhnedkppaaGreatDoorPart02
set_option autoImplicit false
set_option linter.unusedSimpArgs false
set_option linter.unusedVariables false
set_option linter.unusedSectionVars false
set_option maxRecDepth 100000
set_option maxHeartbeats 4000000
namespace Go.Proofs.Am
def cnA (c : Cn) : List UInt8 := [99, 111, 110, 115, 116, 32] ++ c.name ++ [32, 61, 32] ++ Lib.itoa c.value ++ [59, 10]
def snA (s : List UInt8) : List UInt8 := [115, 101, 110, 115, 111, 114, 32] ++ s ++ [59, 10]
def ouA (s : List UInt8) : List UInt8 := [111, 117, 116, 112, 117, 116, 32] ++ s ++ [59, 10]
def chA (c : Ch) : List UInt8 := [99, 104, 97, 110, 110, 101, 108, 32] ++ c.name ++ [91] ++ Lib.itoa c.cap ++ [93, 59, 10]
def tkH (t : Tk) : List UInt8 := if decide (t.period > 0) then [32, 101, 118, 101, 114, 121, 32] ++ Lib.itoa t.period else [32, 111, 110, 32] ++ t.channel ++ [40] ++ t.param ++ [41]
def tkA (t : Tk) : List UInt8 := [116, 97, 115, 107, 32] ++ t.name ++ (tkH t ++ (optA [119, 105, 116, 104, 105, 110] t.within ++ optA [100, 101, 97, 100, 108, 105, 110, 101] t.deadline ++ [32, 123, 10] ++ (lnsA t.body [32, 32, 32, 32] ++ [125, 10])))
def fmtA (p : Pg) : List UInt8 := p.consts.flatMap cnA ++ (p.globals.flatMap varA ++ (p.sensors.flatMap snA ++ (p.outputs.flatMap ouA ++ (p.channels.flatMap chA ++ p.tasks.flatMap tkA))))
theorem zero117 : ∃ i, Tryz.prog.info? 117 = some i ∧ i.zero = some (.agg #[.pointer none, .slice none 0 0]) := by
  have h : (Tryz.prog.info? 117).map (·.zero) = some (some (.agg #[.pointer none, .slice none 0 0])) := by kernel_rfl
  obtain ⟨i, hi, hz⟩ := Option.map_eq_some_iff.1 h
  exact ⟨i, hi, hz⟩
theorem bld_new (b : Nat) (w : World) (F fp : Nat → Prop) (h : w.heap[b]? = some (.cells (Value.agg #[.pointer none, .slice none 0 0]).cells 117 (0, 0))) (hfp : ∀ x, fp x ↔ x = b) : bldP b [] F w fp :=
  ⟨.pointer none, .slice none 0 0, ⟨.inl rfl, h, ⟨rfl, .inl ⟨rfl, rfl⟩⟩, (by simp [Value.ownBlock]), fun _ => rfl⟩, fun x => by rw [hfp]; simp [Value.ownBlock]⟩
theorem flat_len {α : Type} {f : α → List UInt8} {l a b : List α} {y : α} (h : l = a ++ y :: b) : (l.flatMap f).length = (a.flatMap f).length + (f y).length + (b.flatMap f).length := by
  rw [h, List.flatMap_append, List.flatMap_cons]
  simp only [List.length_append]
  omega
theorem wfS_facts {x : St} (h : wfS x = true) : (1 ≤ x.kind ∧ x.kind ≤ 13) ∧ agOK x ∧ (∀ y ∈ x.args, wfA y = true) ∧ (0 ≤ x.n ∧ x.n ≤ 32767) ∧ wfSs x.body = true ∧ wfSs x.els = true := by
  have hn : (!wfS x) = false := by rw [h]; rfl
  rw [wfS_not] at hn
  simp only [bdA, Bool.or_eq_false_iff, Bool.not_eq_false', decide_eq_false_iff_not, bne_eq_false_iff_eq, List.any_eq_false, Bool.not_eq_true] at hn
  obtain ⟨⟨⟨⟨⟨⟨⟨⟨h1, h2⟩, h3⟩, h4⟩, h5⟩, h6⟩, h7⟩, h8⟩, h9⟩ := hn
  have hk : 1 ≤ x.kind ∧ x.kind ≤ 13 := by omega
  have hnum : 0 ≤ x.n ∧ x.n ≤ 32767 := by
    unfold nuA at h4
    cases hi : sI x.kind with
    | true => rw [hi] at h4; simp [numA] at h4; omega
    | false => rw [hi] at h4; simp at h4; omega
  refine ⟨hk, ?_, fun y hy => by simpa using h7 y hy, hnum, h8, h9⟩
  obtain ⟨k1, k2⟩ := hk
  have hc : x.kind = 1 ∨ x.kind = 2 ∨ x.kind = 3 ∨ x.kind = 4 ∨ x.kind = 5 ∨ x.kind = 6 ∨ x.kind = 7 ∨ x.kind = 8 ∨ x.kind = 9 ∨ x.kind = 10 ∨ x.kind = 11 ∨ x.kind = 12 ∨ x.kind = 13 := by omega
  unfold agOK
  rcases hc with e | e | e | e | e | e | e | e | e | e | e | e | e <;> rw [e] at h6 ⊢ <;> simp [sC, stR, stTab] at h6 ⊢ <;> omega
mutual
theorem wf_stmS : ∀ x : St, wfS x = true → ∀ z ∈ stmS x, wfS z = true
  | .mk k n v a b e p, h, z, hz => by
    rw [stmS_eq] at hz
    have hf := wfS_facts h
    simp only [List.mem_cons, List.mem_append] at hz
    rcases hz with rfl | hz | hz
    · exact h
    · exact wf_stmL b hf.2.2.2.2.1 z hz
    · exact wf_stmL e hf.2.2.2.2.2 z hz
theorem wf_stmL : ∀ l : List St, wfSs l = true → ∀ z ∈ stmL l, wfS z = true
  | [], _, z, hz => by cases hz
  | x :: r, h, z, hz => by
    rw [wfSs, Bool.and_eq_true] at h
    rw [stmL, List.mem_append] at hz
    rcases hz with hz | hz
    · exact wf_stmS x h.1 z hz
    · exact wf_stmL r h.2 z hz
end
/-- What the statements of a program are asked beside being well-formed. -/
def sized (l : List St) : Prop := ∀ z ∈ stmL l, wdL z.args ∧ (subL z.args).length ≤ 1000000000000
theorem okSt_of {l : List St} (h : wfSs l = true) (hs : sized l) : ∀ z ∈ stmL l, okSt z := fun z hz =>
  have hf := wfS_facts (wf_stmL l h z hz)
  ⟨hf.1, hf.2.1, hf.2.2.1, (hs z hz).1, (hs z hz).2, hf.2.2.2.1⟩
structure WfP (p : Pg) : Prop where
  c : ∀ c ∈ p.consts, okC c = true
  g : ∀ c ∈ p.globals, okG c = true
  s : ∀ s ∈ p.sensors, ident s = true
  o : ∀ s ∈ p.outputs, ident s = true
  h : ∀ c ∈ p.channels, okH c = true
  t : ∀ t ∈ p.tasks, wfT t = true
theorem wfP_facts {p : Pg} (h : wfP p = true) : WfP p := by
  simp only [wfP, Bool.and_eq_true, List.all_eq_true, List.mem_append] at h
  exact ⟨h.1.1.1.1, h.1.1.1.2, fun s hs => h.1.1.2 s (.inl hs), fun s hs => h.1.1.2 s (.inr hs), h.1.2, h.2⟩
theorem varA_ne (g : Gl) : varA g ≠ [] := by
  unfold varA
  split
  · simp
  · split <;> simp
theorem optA_len (w : List UInt8) (n : Int) (h : 0 ≤ n ∧ n ≤ 32767) : (optA w n).length ≤ w.length + 40 := by
  have := i64_itoa n h
  unfold optA
  split
  · simp
  · simp only [List.length_append, List.length_cons, List.length_nil]; omega
theorem prog32 : Tryz.prog.funcs[32]? = some Tryz.f32 := by kernel_rfl
theorem holds32 (p : Pg) (h36 : Holds Tryz.prog zG 36 [.agg [.sl 3 (encCs p.consts), .sl 4 (encGs p.globals), .sl 1 (encStrs p.sensors), .sl 1 (encStrs p.outputs), .sl 3 (encHs p.channels), .sl 8 (encTs p.tasks)]] [.c (.bool (wfP p))]) (hst : ∀ t ∈ p.tasks, sized t.body) (hd : depT p.tasks ≤ 100000000000) (hci : ∀ c ∈ p.consts, i16r c.value) (hgi : ∀ g ∈ p.globals, i16r g.init) (hl : (fmtA p).length ≤ 1000000000000) : HoldsO Tryz.prog zG 32 [.agg [.sl 3 (encCs p.consts), .sl 4 (encGs p.globals), .sl 1 (encStrs p.sensors), .sl 1 (encStrs p.outputs), .sl 3 (encHs p.channels), .sl 8 (encTs p.tasks)]] (empP) (some [.c (.str (if wfP p then fmtA p else []))]) (if wfP p then spentP else empP) := by
  refine holdsO_of_body zT prog32 rfl rfl rfl (by simp [Tryz.f32]) (Stab.emp) (by split; exact Stab.spent; exact Stab.emp) ?_
  refine aw_ops zT fun K1 hK1 => ?_
  simp only [amset, amlib, zset, eq_self, ↓reduceIte, reduceCtorEq, Nat.reduceBEq, Nat.reduceEqDiff, Nat.reduceAdd, Nat.reduceMul, Nat.reduceLeDiff, Nat.reduceLT, Nat.reduceSub]
  refine hK1 _ ?_
  clear hK1
  refine aw_seq fun K2 hK2 => ?_
  refine aw_ops zT fun K3 hK3 => ?_
  simp only [amset, amlib, zset, eq_self, ↓reduceIte, reduceCtorEq, Nat.reduceBEq, Nat.reduceEqDiff, Nat.reduceAdd, Nat.reduceMul, Nat.reduceLeDiff, Nat.reduceLT, Nat.reduceSub]
  refine ⟨_, h36, ?_⟩
  simp only [later]
  simp only [amset, amlib, zset, eq_self, ↓reduceIte, reduceCtorEq, Nat.reduceBEq, Nat.reduceEqDiff, Nat.reduceAdd, Nat.reduceMul, Nat.reduceLeDiff, Nat.reduceLT, Nat.reduceSub]
  refine hK3 _ ?_
  clear hK3
  refine aw_cond rfl (fun h0 => ?_) (fun h0 => ?_)
  · skip
    refine aw_ops zT fun K4 hK4 => ?_
    simp only [amset, amlib, zset, eq_self, ↓reduceIte, reduceCtorEq, Nat.reduceBEq, Nat.reduceEqDiff, Nat.reduceAdd, Nat.reduceMul, Nat.reduceLeDiff, Nat.reduceLT, Nat.reduceSub]
    refine hK4 _ ?_
    clear hK4
    refine aw_ret ?_
    try show resOf zG _ [.tmp 2] = some _ ∧ _ ∧ _
    simp only [amset, amlib, zset, eq_self, ↓reduceIte, reduceCtorEq, Nat.reduceBEq, Nat.reduceEqDiff, Nat.reduceAdd, Nat.reduceMul, Nat.reduceLeDiff, Nat.reduceLT, Nat.reduceSub]
    have hw0 : wfP p = false := by simpa using h0
    simp [hw0]
  · skip
    refine aw_skip ?_
    simp only [thenQ, blkQ, if_true, reduceIte, Nat.reduceEqDiff, eq_self]
    refine hK2 _ ?_
    clear hK2
    have hwp : wfP p = true := by simpa using h0
    have hwf := wfP_facts hwp
    simp only [fmtA, List.length_append, List.length_cons, List.length_nil] at hl
    refine aw_newobj rfl rfl rfl zero117 (q := fun b => bldP b []) (fun b => Stab.bld) (fun b w F fp h1 h2 => bld_new b w F fp h1 h2) (by simp only [amset, amlib, zset, eq_self, ↓reduceIte, reduceCtorEq, Nat.reduceBEq, Nat.reduceEqDiff, Nat.reduceAdd, Nat.reduceMul, Nat.reduceLeDiff, Nat.reduceLT, Nat.reduceSub]) (by simp only [amset, amlib, zset, eq_self, ↓reduceIte, reduceCtorEq, Nat.reduceBEq, Nat.reduceEqDiff, Nat.reduceAdd, Nat.reduceMul, Nat.reduceLeDiff, Nat.reduceLT, Nat.reduceSub]) fun b => ?_
    refine aw_seq fun K6 hK6 => ?_
    refine aw_ops zT fun K7 hK7 => ?_
    simp only [amset, amlib, zset, eq_self, ↓reduceIte, reduceCtorEq, Nat.reduceBEq, Nat.reduceEqDiff, Nat.reduceAdd, Nat.reduceMul, Nat.reduceLeDiff, Nat.reduceLT, Nat.reduceSub]
    intros
    refine hK7 _ ?_
    clear hK7
    refine aw_block ?_
    refine aw_range (α := Cn) (p.consts) (fun dn => True) (fun dn => [(22, .cell (.c (.int .i64 dn.length)))]) (fun dn => [(1000000, [.objst (bldP b (dn.flatMap cnA))])]) [] [5, 22, 23, 24, 25, 26, 27, 28, 29, 30, 31, 32, 33, 34, 35, 36, 37] [5, 1000000] trivial ?_ ?_ ?_ ?_
    · simp only [amset, amlib, zset, eq_self, ↓reduceIte, reduceCtorEq, Nat.reduceBEq, Nat.reduceEqDiff, Nat.reduceAdd, Nat.reduceMul, Nat.reduceLeDiff, Nat.reduceLT, Nat.reduceSub] <;> simp [List.flatMap_nil, List.flatMap_append, List.flatMap_cons, List.append_nil, List.nil_append, List.append_assoc, List.cons_append, cnA, varA, snA, ouA, chA, tkA, tkH, h0]
    · simp only [amset, amlib, zset, eq_self, ↓reduceIte, reduceCtorEq, Nat.reduceBEq, Nat.reduceEqDiff, Nat.reduceAdd, Nat.reduceMul, Nat.reduceLeDiff, Nat.reduceLT, Nat.reduceSub] <;> simp [List.flatMap_nil, List.flatMap_append, List.flatMap_cons, List.append_nil, List.nil_append, List.append_assoc, List.cons_append, cnA, varA, snA, ouA, chA, tkA, tkH, h0]
    · intro hI R
      refine aw_norm (by simp only [amset, amlib, zset, eq_self, ↓reduceIte, reduceCtorEq, Nat.reduceBEq, Nat.reduceEqDiff, Nat.reduceAdd, Nat.reduceMul, Nat.reduceLeDiff, Nat.reduceLT, Nat.reduceSub]; exact rfl) ?_
      refine aw_ops zT fun K8 hK8 => ?_
      simp only [amset, amlib, zset, eq_self, ↓reduceIte, reduceCtorEq, Nat.reduceBEq, Nat.reduceEqDiff, Nat.reduceAdd, Nat.reduceMul, Nat.reduceLeDiff, Nat.reduceLT, Nat.reduceSub]
      refine hK8 _ ?_
      clear hK8
      refine aw_seq fun K9 hK9 => ?_
      refine aw_cond (t := false) (by simp [evalO, S.get, amLook]) (fun h => nomatch h) (fun _ => ?_)
      refine aw_exit ?_
      simp only [thenQ, blkQ, if_true, reduceIte, Nat.reduceEqDiff, eq_self]
      refine hK6 _ ?_
      clear hK6
      refine aw_seq fun K10 hK10 => ?_
      refine aw_ops zT fun K11 hK11 => ?_
      simp only [amset, amlib, zset, eq_self, ↓reduceIte, reduceCtorEq, Nat.reduceBEq, Nat.reduceEqDiff, Nat.reduceAdd, Nat.reduceMul, Nat.reduceLeDiff, Nat.reduceLT, Nat.reduceSub]
      intros
      refine hK11 _ ?_
      clear hK11
      refine aw_block ?_
      refine aw_range (α := Gl) (p.globals) (fun dn1 => True) (fun dn1 => [(41, .cell (.c (.int .i64 dn1.length)))]) (fun dn1 => [(1000000, [.objst (bldP b (p.consts.flatMap cnA ++ (dn1.flatMap varA)))])]) [] [7, 41, 42, 43, 44, 45, 46, 47, 48] [7, 1000000] trivial ?_ ?_ ?_ ?_
      · simp only [amset, amlib, zset, eq_self, ↓reduceIte, reduceCtorEq, Nat.reduceBEq, Nat.reduceEqDiff, Nat.reduceAdd, Nat.reduceMul, Nat.reduceLeDiff, Nat.reduceLT, Nat.reduceSub] <;> simp [List.flatMap_nil, List.flatMap_append, List.flatMap_cons, List.append_nil, List.nil_append, List.append_assoc, List.cons_append, cnA, varA, snA, ouA, chA, tkA, tkH, h0]
      · simp only [amset, amlib, zset, eq_self, ↓reduceIte, reduceCtorEq, Nat.reduceBEq, Nat.reduceEqDiff, Nat.reduceAdd, Nat.reduceMul, Nat.reduceLeDiff, Nat.reduceLT, Nat.reduceSub] <;> simp [List.flatMap_nil, List.flatMap_append, List.flatMap_cons, List.append_nil, List.nil_append, List.append_assoc, List.cons_append, cnA, varA, snA, ouA, chA, tkA, tkH, h0]
      · intro hI1 R1
        refine aw_norm (by simp only [amset, amlib, zset, eq_self, ↓reduceIte, reduceCtorEq, Nat.reduceBEq, Nat.reduceEqDiff, Nat.reduceAdd, Nat.reduceMul, Nat.reduceLeDiff, Nat.reduceLT, Nat.reduceSub]; exact rfl) ?_
        refine aw_ops zT fun K12 hK12 => ?_
        simp only [amset, amlib, zset, eq_self, ↓reduceIte, reduceCtorEq, Nat.reduceBEq, Nat.reduceEqDiff, Nat.reduceAdd, Nat.reduceMul, Nat.reduceLeDiff, Nat.reduceLT, Nat.reduceSub]
        refine hK12 _ ?_
        clear hK12
        refine aw_seq fun K13 hK13 => ?_
        refine aw_cond (t := false) (by simp [evalO, S.get, amLook]) (fun h => nomatch h) (fun _ => ?_)
        refine aw_exit ?_
        simp only [thenQ, blkQ, if_true, reduceIte, Nat.reduceEqDiff, eq_self]
        refine hK10 _ ?_
        clear hK10
        refine aw_seq fun K14 hK14 => ?_
        refine aw_ops zT fun K15 hK15 => ?_
        simp only [amset, amlib, zset, eq_self, ↓reduceIte, reduceCtorEq, Nat.reduceBEq, Nat.reduceEqDiff, Nat.reduceAdd, Nat.reduceMul, Nat.reduceLeDiff, Nat.reduceLT, Nat.reduceSub]
        intros
        refine hK15 _ ?_
        clear hK15
        refine aw_block ?_
        refine aw_range (α := (List UInt8)) (p.sensors) (fun dn2 => True) (fun dn2 => [(52, .cell (.c (.int .i64 dn2.length)))]) (fun dn2 => [(1000000, [.objst (bldP b (p.consts.flatMap cnA ++ p.globals.flatMap varA ++ (dn2.flatMap snA)))])]) [] [9, 52, 53, 54, 55, 56, 57, 58, 59, 60] [1000000] trivial ?_ ?_ ?_ ?_
        · simp only [amset, amlib, zset, eq_self, ↓reduceIte, reduceCtorEq, Nat.reduceBEq, Nat.reduceEqDiff, Nat.reduceAdd, Nat.reduceMul, Nat.reduceLeDiff, Nat.reduceLT, Nat.reduceSub] <;> simp [List.flatMap_nil, List.flatMap_append, List.flatMap_cons, List.append_nil, List.nil_append, List.append_assoc, List.cons_append, cnA, varA, snA, ouA, chA, tkA, tkH, h0]
        · simp only [amset, amlib, zset, eq_self, ↓reduceIte, reduceCtorEq, Nat.reduceBEq, Nat.reduceEqDiff, Nat.reduceAdd, Nat.reduceMul, Nat.reduceLeDiff, Nat.reduceLT, Nat.reduceSub] <;> simp [List.flatMap_nil, List.flatMap_append, List.flatMap_cons, List.append_nil, List.nil_append, List.append_assoc, List.cons_append, cnA, varA, snA, ouA, chA, tkA, tkH, h0]
        · intro hI2 R2
          refine aw_norm (by simp only [amset, amlib, zset, eq_self, ↓reduceIte, reduceCtorEq, Nat.reduceBEq, Nat.reduceEqDiff, Nat.reduceAdd, Nat.reduceMul, Nat.reduceLeDiff, Nat.reduceLT, Nat.reduceSub]; exact rfl) ?_
          refine aw_ops zT fun K16 hK16 => ?_
          simp only [amset, amlib, zset, eq_self, ↓reduceIte, reduceCtorEq, Nat.reduceBEq, Nat.reduceEqDiff, Nat.reduceAdd, Nat.reduceMul, Nat.reduceLeDiff, Nat.reduceLT, Nat.reduceSub]
          refine hK16 _ ?_
          clear hK16
          refine aw_seq fun K17 hK17 => ?_
          refine aw_cond (t := false) (by simp [evalO, S.get, amLook]) (fun h => nomatch h) (fun _ => ?_)
          refine aw_exit ?_
          simp only [thenQ, blkQ, if_true, reduceIte, Nat.reduceEqDiff, eq_self]
          refine hK14 _ ?_
          clear hK14
          refine aw_seq fun K18 hK18 => ?_
          refine aw_ops zT fun K19 hK19 => ?_
          simp only [amset, amlib, zset, eq_self, ↓reduceIte, reduceCtorEq, Nat.reduceBEq, Nat.reduceEqDiff, Nat.reduceAdd, Nat.reduceMul, Nat.reduceLeDiff, Nat.reduceLT, Nat.reduceSub]
          intros
          refine hK19 _ ?_
          clear hK19
          refine aw_block ?_
          refine aw_range (α := (List UInt8)) (p.outputs) (fun dn3 => True) (fun dn3 => [(64, .cell (.c (.int .i64 dn3.length)))]) (fun dn3 => [(1000000, [.objst (bldP b (p.consts.flatMap cnA ++ p.globals.flatMap varA ++ p.sensors.flatMap snA ++ (dn3.flatMap ouA)))])]) [] [11, 64, 65, 66, 67, 68, 69, 70, 71, 72] [1000000] trivial ?_ ?_ ?_ ?_
          · simp only [amset, amlib, zset, eq_self, ↓reduceIte, reduceCtorEq, Nat.reduceBEq, Nat.reduceEqDiff, Nat.reduceAdd, Nat.reduceMul, Nat.reduceLeDiff, Nat.reduceLT, Nat.reduceSub] <;> simp [List.flatMap_nil, List.flatMap_append, List.flatMap_cons, List.append_nil, List.nil_append, List.append_assoc, List.cons_append, cnA, varA, snA, ouA, chA, tkA, tkH, h0]
          · simp only [amset, amlib, zset, eq_self, ↓reduceIte, reduceCtorEq, Nat.reduceBEq, Nat.reduceEqDiff, Nat.reduceAdd, Nat.reduceMul, Nat.reduceLeDiff, Nat.reduceLT, Nat.reduceSub] <;> simp [List.flatMap_nil, List.flatMap_append, List.flatMap_cons, List.append_nil, List.nil_append, List.append_assoc, List.cons_append, cnA, varA, snA, ouA, chA, tkA, tkH, h0]
          · intro hI3 R3
            refine aw_norm (by simp only [amset, amlib, zset, eq_self, ↓reduceIte, reduceCtorEq, Nat.reduceBEq, Nat.reduceEqDiff, Nat.reduceAdd, Nat.reduceMul, Nat.reduceLeDiff, Nat.reduceLT, Nat.reduceSub]; exact rfl) ?_
            refine aw_ops zT fun K20 hK20 => ?_
            simp only [amset, amlib, zset, eq_self, ↓reduceIte, reduceCtorEq, Nat.reduceBEq, Nat.reduceEqDiff, Nat.reduceAdd, Nat.reduceMul, Nat.reduceLeDiff, Nat.reduceLT, Nat.reduceSub]
            refine hK20 _ ?_
            clear hK20
            refine aw_seq fun K21 hK21 => ?_
            refine aw_cond (t := false) (by simp [evalO, S.get, amLook]) (fun h => nomatch h) (fun _ => ?_)
            refine aw_exit ?_
            simp only [thenQ, blkQ, if_true, reduceIte, Nat.reduceEqDiff, eq_self]
            refine hK18 _ ?_
            clear hK18
            refine aw_seq fun K22 hK22 => ?_
            refine aw_ops zT fun K23 hK23 => ?_
            simp only [amset, amlib, zset, eq_self, ↓reduceIte, reduceCtorEq, Nat.reduceBEq, Nat.reduceEqDiff, Nat.reduceAdd, Nat.reduceMul, Nat.reduceLeDiff, Nat.reduceLT, Nat.reduceSub]
            intros
            refine hK23 _ ?_
            clear hK23
            refine aw_block ?_
            refine aw_range (α := Ch) (p.channels) (fun dn4 => True) (fun dn4 => [(76, .cell (.c (.int .i64 dn4.length)))]) (fun dn4 => [(1000000, [.objst (bldP b (p.consts.flatMap cnA ++ p.globals.flatMap varA ++ p.sensors.flatMap snA ++ p.outputs.flatMap ouA ++ (dn4.flatMap chA)))])]) [] [13, 76, 77, 78, 79, 80, 81, 82, 83, 84, 85, 86, 87, 88, 89, 90] [13, 1000000] trivial ?_ ?_ ?_ ?_
            · simp only [amset, amlib, zset, eq_self, ↓reduceIte, reduceCtorEq, Nat.reduceBEq, Nat.reduceEqDiff, Nat.reduceAdd, Nat.reduceMul, Nat.reduceLeDiff, Nat.reduceLT, Nat.reduceSub] <;> simp [List.flatMap_nil, List.flatMap_append, List.flatMap_cons, List.append_nil, List.nil_append, List.append_assoc, List.cons_append, cnA, varA, snA, ouA, chA, tkA, tkH, h0]
            · simp only [amset, amlib, zset, eq_self, ↓reduceIte, reduceCtorEq, Nat.reduceBEq, Nat.reduceEqDiff, Nat.reduceAdd, Nat.reduceMul, Nat.reduceLeDiff, Nat.reduceLT, Nat.reduceSub] <;> simp [List.flatMap_nil, List.flatMap_append, List.flatMap_cons, List.append_nil, List.nil_append, List.append_assoc, List.cons_append, cnA, varA, snA, ouA, chA, tkA, tkH, h0]
            · intro hI4 R4
              refine aw_norm (by simp only [amset, amlib, zset, eq_self, ↓reduceIte, reduceCtorEq, Nat.reduceBEq, Nat.reduceEqDiff, Nat.reduceAdd, Nat.reduceMul, Nat.reduceLeDiff, Nat.reduceLT, Nat.reduceSub]; exact rfl) ?_
              refine aw_ops zT fun K24 hK24 => ?_
              simp only [amset, amlib, zset, eq_self, ↓reduceIte, reduceCtorEq, Nat.reduceBEq, Nat.reduceEqDiff, Nat.reduceAdd, Nat.reduceMul, Nat.reduceLeDiff, Nat.reduceLT, Nat.reduceSub]
              refine hK24 _ ?_
              clear hK24
              refine aw_seq fun K25 hK25 => ?_
              refine aw_cond (t := false) (by simp [evalO, S.get, amLook]) (fun h => nomatch h) (fun _ => ?_)
              refine aw_exit ?_
              simp only [thenQ, blkQ, if_true, reduceIte, Nat.reduceEqDiff, eq_self]
              refine hK22 _ ?_
              clear hK22
              refine aw_seq fun K26 hK26 => ?_
              refine aw_ops zT fun K27 hK27 => ?_
              simp only [amset, amlib, zset, eq_self, ↓reduceIte, reduceCtorEq, Nat.reduceBEq, Nat.reduceEqDiff, Nat.reduceAdd, Nat.reduceMul, Nat.reduceLeDiff, Nat.reduceLT, Nat.reduceSub]
              intros
              refine hK27 _ ?_
              clear hK27
              refine aw_block ?_
              refine aw_range (α := Tk) (p.tasks) (fun dn5 => True) (fun dn5 => [(94, .cell (.c (.int .i64 dn5.length)))]) (fun dn5 => [(1000000, [.objst (bldP b (p.consts.flatMap cnA ++ p.globals.flatMap varA ++ p.sensors.flatMap snA ++ p.outputs.flatMap ouA ++ p.channels.flatMap chA ++ (dn5.flatMap tkA)))])]) [] [15, 94, 95, 96, 97, 98, 99, 100, 101, 102, 103, 104, 105, 106, 107, 108, 109, 110, 111, 112, 113, 114, 115, 116, 117, 118, 119, 120, 121, 122, 123, 124, 125, 126, 127, 128, 129, 130, 131, 132] [15, 1000000] trivial ?_ ?_ ?_ ?_
              · simp only [amset, amlib, zset, eq_self, ↓reduceIte, reduceCtorEq, Nat.reduceBEq, Nat.reduceEqDiff, Nat.reduceAdd, Nat.reduceMul, Nat.reduceLeDiff, Nat.reduceLT, Nat.reduceSub] <;> simp [List.flatMap_nil, List.flatMap_append, List.flatMap_cons, List.append_nil, List.nil_append, List.append_assoc, List.cons_append, cnA, varA, snA, ouA, chA, tkA, tkH, h0]
              · simp only [amset, amlib, zset, eq_self, ↓reduceIte, reduceCtorEq, Nat.reduceBEq, Nat.reduceEqDiff, Nat.reduceAdd, Nat.reduceMul, Nat.reduceLeDiff, Nat.reduceLT, Nat.reduceSub] <;> simp [List.flatMap_nil, List.flatMap_append, List.flatMap_cons, List.append_nil, List.nil_append, List.append_assoc, List.cons_append, cnA, varA, snA, ouA, chA, tkA, tkH, h0]
              · intro hI5 R5
                refine aw_norm (by simp only [amset, amlib, zset, eq_self, ↓reduceIte, reduceCtorEq, Nat.reduceBEq, Nat.reduceEqDiff, Nat.reduceAdd, Nat.reduceMul, Nat.reduceLeDiff, Nat.reduceLT, Nat.reduceSub]; exact rfl) ?_
                refine aw_ops zT fun K28 hK28 => ?_
                simp only [amset, amlib, zset, eq_self, ↓reduceIte, reduceCtorEq, Nat.reduceBEq, Nat.reduceEqDiff, Nat.reduceAdd, Nat.reduceMul, Nat.reduceLeDiff, Nat.reduceLT, Nat.reduceSub]
                refine hK28 _ ?_
                clear hK28
                refine aw_seq fun K29 hK29 => ?_
                refine aw_cond (t := false) (by simp [evalO, S.get, amLook]) (fun h => nomatch h) (fun _ => ?_)
                refine aw_exit ?_
                simp only [thenQ, blkQ, if_true, reduceIte, Nat.reduceEqDiff, eq_self]
                refine hK26 _ ?_
                clear hK26
                refine aw_ops zT fun K30 hK30 => ?_
                simp only [amset, amlib, zset, eq_self, ↓reduceIte, reduceCtorEq, Nat.reduceBEq, Nat.reduceEqDiff, Nat.reduceAdd, Nat.reduceMul, Nat.reduceLeDiff, Nat.reduceLT, Nat.reduceSub]
                refine ⟨_, _, holds90 _ _, ?_⟩
                simp only [later]
                simp only [amset, amlib, zset, eq_self, ↓reduceIte, reduceCtorEq, Nat.reduceBEq, Nat.reduceEqDiff, Nat.reduceAdd, Nat.reduceMul, Nat.reduceLeDiff, Nat.reduceLT, Nat.reduceSub]
                refine hK30 _ ?_
                clear hK30
                refine aw_ret ?_
                try show resOf zG _ [.tmp 2] = some _ ∧ _ ∧ _
                simp only [amset, amlib, zset, eq_self, ↓reduceIte, reduceCtorEq, Nat.reduceBEq, Nat.reduceEqDiff, Nat.reduceAdd, Nat.reduceMul, Nat.reduceLeDiff, Nat.reduceLT, Nat.reduceSub]
                simp [hwp, fmtA]
              · intro dn5 y5 td5 harg5 hI5 R5 hR5
                have hl5 : (p.tasks).length = dn5.length + (td5.length + 1) := by rw [harg5]; simp
                have hmem5 : y5 ∈ p.tasks := by rw [harg5]; simp
                refine aw_norm (by simp only [amset, amlib, zset, eq_self, ↓reduceIte, reduceCtorEq, Nat.reduceBEq, Nat.reduceEqDiff, Nat.reduceAdd, Nat.reduceMul, Nat.reduceLeDiff, Nat.reduceLT, Nat.reduceSub]; exact rfl) ?_
                have hget5 : (encTs (p.tasks)).getD dn5.length [] = encT y5 := by rw [harg5]; exact encTs_mid dn5 td5 y5
                have hlen5 := flat_len (f := tkA) harg5
                have hwy5 := hwf.t y5 hmem5
                refine aw_ops zT fun K31 hK31 => ?_
                simp only [amset, amlib, zset, eq_self, ↓reduceIte, reduceCtorEq, Nat.reduceBEq, Nat.reduceEqDiff, Nat.reduceAdd, Nat.reduceMul, Nat.reduceLeDiff, Nat.reduceLT, Nat.reduceSub]
                refine hK31 _ ?_
                clear hK31
                refine aw_seq fun K32 hK32 => ?_
                refine aw_cond (t := true) (by simp [evalO, S.get, amLook]; omega) (fun _ => ?_) (fun h => nomatch h)
                refine aw_skip ?_
                simp only [thenQ, blkQ, if_true, reduceIte, Nat.reduceEqDiff, eq_self]
                refine hK32 _ ?_
                clear hK32
                refine aw_seq fun K33 hK33 => ?_
                refine aw_block ?_
                refine aw_ops zT fun K34 hK34 => ?_
                simp only [amset, amlib, zset, hget5, eq_self, ↓reduceIte, reduceCtorEq, Nat.reduceBEq, Nat.reduceEqDiff, Nat.reduceAdd, Nat.reduceMul, Nat.reduceLeDiff, Nat.reduceLT, Nat.reduceSub]
                refine ⟨⟨by omega, by omega⟩, ?_⟩
                refine hK34 _ ?_
                clear hK34
                simp only [wfT, Bool.and_eq_true] at hwy5
                have htn := ident_len hwy5.1.1.1.1.1
                have hdl : 0 ≤ y5.deadline ∧ y5.deadline ≤ 32767 := by have := hwy5.1.1.1.1.2; simp [numA] at this; omega
                have hwi : 0 ≤ y5.within ∧ y5.within ≤ 32767 := by have := hwy5.1.1.1.2; simp [numA] at this; omega
                have hpe : 0 ≤ y5.period ∧ y5.period ≤ 32767 := by have := hwy5.1.1.2; simp [numA] at this; omega
                have hbd := hwy5.1.2
                have hpi := i64_itoa y5.period hpe
                have ho1 : (optA [119, 105, 116, 104, 105, 110] y5.within).length ≤ 60 := Nat.le_trans (optA_len _ _ hwi) (by decide)
                have ho2 : (optA [100, 101, 97, 100, 108, 105, 110, 101] y5.deadline).length ≤ 60 := Nat.le_trans (optA_len _ _ hdl) (by decide)
                refine aw_ops zT fun K35 hK35 => ?_
                simp only [amset, amlib, zset, eq_self, ↓reduceIte, reduceCtorEq, Nat.reduceBEq, Nat.reduceEqDiff, Nat.reduceAdd, Nat.reduceMul, Nat.reduceLeDiff, Nat.reduceLT, Nat.reduceSub]
                refine ⟨by omega, ?_⟩
                refine ⟨_, _, holds85 _ _ _ (by simp only [tkA, tkH, List.length_append, List.length_cons, List.length_nil] at hlen5 ⊢; (try simp only [h0, ↓reduceIte, Bool.false_eq_true, List.length_append, List.length_cons, List.length_nil] at hlen5); omega) (by simp), ?_⟩
                simp only [later]
                simp only [amset, amlib, zset, eq_self, ↓reduceIte, reduceCtorEq, Nat.reduceBEq, Nat.reduceEqDiff, Nat.reduceAdd, Nat.reduceMul, Nat.reduceLeDiff, Nat.reduceLT, Nat.reduceSub]
                refine hK35 _ ?_
                clear hK35
                refine aw_seq fun K36 hK36 => ?_
                refine aw_ops zT fun K37 hK37 => ?_
                simp only [amset, amlib, zset, eq_self, ↓reduceIte, reduceCtorEq, Nat.reduceBEq, Nat.reduceEqDiff, Nat.reduceAdd, Nat.reduceMul, Nat.reduceLeDiff, Nat.reduceLT, Nat.reduceSub]
                refine hK37 _ ?_
                clear hK37
                refine aw_cond rfl (fun h1 => ?_) (fun h1 => ?_)
                · skip
                  refine aw_region zT ?_
                  simp only [amset, amlib, zset, eq_self, ↓reduceIte, reduceCtorEq, Nat.reduceBEq, Nat.reduceEqDiff, Nat.reduceAdd, Nat.reduceMul, Nat.reduceLeDiff, Nat.reduceLT, Nat.reduceSub]
                  refine ⟨_, holds86 y5.period (by omega) (by omega), ?_⟩
                  simp only [later]
                  simp only [amset, amlib, zset, eq_self, ↓reduceIte, reduceCtorEq, Nat.reduceBEq, Nat.reduceEqDiff, Nat.reduceAdd, Nat.reduceMul, Nat.reduceLeDiff, Nat.reduceLT, Nat.reduceSub]
                  refine ⟨by omega, ?_⟩
                  refine ⟨_, _, holds85 _ _ _ (by simp only [tkA, tkH, List.length_append, List.length_cons, List.length_nil] at hlen5 ⊢; (try simp only [h0, h1, ↓reduceIte, Bool.false_eq_true, List.length_append, List.length_cons, List.length_nil] at hlen5); omega) (by simp), ?_⟩
                  simp only [later]
                  simp only [amset, amlib, zset, eq_self, ↓reduceIte, reduceCtorEq, Nat.reduceBEq, Nat.reduceEqDiff, Nat.reduceAdd, Nat.reduceMul, Nat.reduceLeDiff, Nat.reduceLT, Nat.reduceSub]
                  refine hK36 _ ?_
                  clear hK36
                  refine aw_draw zT prog_mixed fun K38 hK38 => ?_
                  simp only [amset, amlib, zset, eq_self, ↓reduceIte, reduceCtorEq, Nat.reduceBEq, Nat.reduceEqDiff, Nat.reduceAdd, Nat.reduceMul, Nat.reduceLeDiff, Nat.reduceLT, Nat.reduceSub]
                  refine ⟨_, holds88 _ y5.within hwi (by decide), ?_⟩
                  simp only [later]
                  simp only [amset, amlib, zset, eq_self, ↓reduceIte, reduceCtorEq, Nat.reduceBEq, Nat.reduceEqDiff, Nat.reduceAdd, Nat.reduceMul, Nat.reduceLeDiff, Nat.reduceLT, Nat.reduceSub]
                  refine ⟨_, holds88 _ y5.deadline hdl (by decide), ?_⟩
                  simp only [later]
                  simp only [amset, amlib, zset, eq_self, ↓reduceIte, reduceCtorEq, Nat.reduceBEq, Nat.reduceEqDiff, Nat.reduceAdd, Nat.reduceMul, Nat.reduceLeDiff, Nat.reduceLT, Nat.reduceSub]
                  refine ⟨by omega, ?_⟩
                  refine ⟨by omega, ?_⟩
                  refine ⟨_, _, holds85 _ _ _ (by simp only [tkA, tkH, List.length_append, List.length_cons, List.length_nil] at hlen5 ⊢; (try simp only [h0, h1, ↓reduceIte, Bool.false_eq_true, List.length_append, List.length_cons, List.length_nil] at hlen5); omega) (by simp), ?_⟩
                  simp only [later]
                  simp only [amset, amlib, zset, eq_self, ↓reduceIte, reduceCtorEq, Nat.reduceBEq, Nat.reduceEqDiff, Nat.reduceAdd, Nat.reduceMul, Nat.reduceLeDiff, Nat.reduceLT, Nat.reduceSub]
                  refine ⟨by kernel_rfl, ?_⟩
                  refine hK38 _ ?_
                  clear hK38
                  refine aw_ops zT fun K39 hK39 => ?_
                  simp only [amset, amlib, zset, eq_self, ↓reduceIte, reduceCtorEq, Nat.reduceBEq, Nat.reduceEqDiff, Nat.reduceAdd, Nat.reduceMul, Nat.reduceLeDiff, Nat.reduceLT, Nat.reduceSub]
                  refine ⟨_, _, holds89 _ _ _ _ (okSt_of hbd (hst y5 hmem5)) (by have := depT_mem hmem5; simp only [List.length_append, List.length_cons, List.length_nil]; omega) (by simp) (by simp only [tkA, tkH, List.length_append, List.length_cons, List.length_nil] at hlen5 ⊢; (try simp only [h0, h1, ↓reduceIte, Bool.false_eq_true, List.length_append, List.length_cons, List.length_nil] at hlen5); omega), ?_⟩
                  simp only [later]
                  simp only [amset, amlib, zset, eq_self, ↓reduceIte, reduceCtorEq, Nat.reduceBEq, Nat.reduceEqDiff, Nat.reduceAdd, Nat.reduceMul, Nat.reduceLeDiff, Nat.reduceLT, Nat.reduceSub]
                  refine hK39 _ ?_
                  clear hK39
                  refine aw_region zT ?_
                  simp only [amset, amlib, zset, eq_self, ↓reduceIte, reduceCtorEq, Nat.reduceBEq, Nat.reduceEqDiff, Nat.reduceAdd, Nat.reduceMul, Nat.reduceLeDiff, Nat.reduceLT, Nat.reduceSub]
                  refine ⟨_, _, holds85 _ _ _ (by simp only [tkA, tkH, List.length_append, List.length_cons, List.length_nil] at hlen5 ⊢; (try simp only [h0, h1, ↓reduceIte, Bool.false_eq_true, List.length_append, List.length_cons, List.length_nil] at hlen5); omega) (by simp), ?_⟩
                  simp only [later]
                  simp only [amset, amlib, zset, eq_self, ↓reduceIte, reduceCtorEq, Nat.reduceBEq, Nat.reduceEqDiff, Nat.reduceAdd, Nat.reduceMul, Nat.reduceLeDiff, Nat.reduceLT, Nat.reduceSub]
                  refine hK33 _ ?_
                  clear hK33
                  refine aw_region zT ?_
                  simp only [amset, amlib, zset, eq_self, ↓reduceIte, reduceCtorEq, Nat.reduceBEq, Nat.reduceEqDiff, Nat.reduceAdd, Nat.reduceMul, Nat.reduceLeDiff, Nat.reduceLT, Nat.reduceSub]
                  refine ⟨⟨by omega, by omega⟩, ?_⟩
                  refine hR5 _ trivial ?_
                  refine Reach.to ?_ ?_
                  · simp only [amset, amlib, zset, eq_self, ↓reduceIte, reduceCtorEq, Nat.reduceBEq, Nat.reduceEqDiff, Nat.reduceAdd, Nat.reduceMul, Nat.reduceLeDiff, Nat.reduceLT, Nat.reduceSub] <;> simp [List.flatMap_nil, List.flatMap_append, List.flatMap_cons, List.append_nil, List.nil_append, List.append_assoc, List.cons_append, cnA, varA, snA, ouA, chA, tkA, tkH, h0, h1]
                  · simp only [amset, amlib, zset, eq_self, ↓reduceIte, reduceCtorEq, Nat.reduceBEq, Nat.reduceEqDiff, Nat.reduceAdd, Nat.reduceMul, Nat.reduceLeDiff, Nat.reduceLT, Nat.reduceSub] <;> simp [List.flatMap_nil, List.flatMap_append, List.flatMap_cons, List.append_nil, List.nil_append, List.append_assoc, List.cons_append, cnA, varA, snA, ouA, chA, tkA, tkH, h0, h1]
                · skip
                  have hcp : ident y5.channel = true ∧ ident y5.param = true := by have := hwy5.2; simp only [h0, h1, Bool.false_eq_true, ↓reduceIte, Bool.and_eq_true] at this; exact this
                  have hc1 := ident_len hcp.1
                  have hc2 := ident_len hcp.2
                  refine aw_region zT ?_
                  simp only [amset, amlib, zset, eq_self, ↓reduceIte, reduceCtorEq, Nat.reduceBEq, Nat.reduceEqDiff, Nat.reduceAdd, Nat.reduceMul, Nat.reduceLeDiff, Nat.reduceLT, Nat.reduceSub]
                  refine ⟨by omega, ?_⟩
                  refine ⟨by omega, ?_⟩
                  refine ⟨by omega, ?_⟩
                  refine ⟨by omega, ?_⟩
                  refine ⟨_, _, holds85 _ _ _ (by simp only [tkA, tkH, List.length_append, List.length_cons, List.length_nil] at hlen5 ⊢; (try simp only [h0, h1, ↓reduceIte, Bool.false_eq_true, List.length_append, List.length_cons, List.length_nil] at hlen5); omega) (by simp), ?_⟩
                  simp only [later]
                  simp only [amset, amlib, zset, eq_self, ↓reduceIte, reduceCtorEq, Nat.reduceBEq, Nat.reduceEqDiff, Nat.reduceAdd, Nat.reduceMul, Nat.reduceLeDiff, Nat.reduceLT, Nat.reduceSub]
                  refine hK36 _ ?_
                  clear hK36
                  refine aw_draw zT prog_mixed fun K40 hK40 => ?_
                  simp only [amset, amlib, zset, eq_self, ↓reduceIte, reduceCtorEq, Nat.reduceBEq, Nat.reduceEqDiff, Nat.reduceAdd, Nat.reduceMul, Nat.reduceLeDiff, Nat.reduceLT, Nat.reduceSub]
                  refine ⟨_, holds88 _ y5.within hwi (by decide), ?_⟩
                  simp only [later]
                  simp only [amset, amlib, zset, eq_self, ↓reduceIte, reduceCtorEq, Nat.reduceBEq, Nat.reduceEqDiff, Nat.reduceAdd, Nat.reduceMul, Nat.reduceLeDiff, Nat.reduceLT, Nat.reduceSub]
                  refine ⟨_, holds88 _ y5.deadline hdl (by decide), ?_⟩
                  simp only [later]
                  simp only [amset, amlib, zset, eq_self, ↓reduceIte, reduceCtorEq, Nat.reduceBEq, Nat.reduceEqDiff, Nat.reduceAdd, Nat.reduceMul, Nat.reduceLeDiff, Nat.reduceLT, Nat.reduceSub]
                  refine ⟨by omega, ?_⟩
                  refine ⟨by omega, ?_⟩
                  refine ⟨_, _, holds85 _ _ _ (by simp only [tkA, tkH, List.length_append, List.length_cons, List.length_nil] at hlen5 ⊢; (try simp only [h0, h1, ↓reduceIte, Bool.false_eq_true, List.length_append, List.length_cons, List.length_nil] at hlen5); omega) (by simp), ?_⟩
                  simp only [later]
                  simp only [amset, amlib, zset, eq_self, ↓reduceIte, reduceCtorEq, Nat.reduceBEq, Nat.reduceEqDiff, Nat.reduceAdd, Nat.reduceMul, Nat.reduceLeDiff, Nat.reduceLT, Nat.reduceSub]
                  refine ⟨by kernel_rfl, ?_⟩
                  refine hK40 _ ?_
                  clear hK40
                  refine aw_ops zT fun K41 hK41 => ?_
                  simp only [amset, amlib, zset, eq_self, ↓reduceIte, reduceCtorEq, Nat.reduceBEq, Nat.reduceEqDiff, Nat.reduceAdd, Nat.reduceMul, Nat.reduceLeDiff, Nat.reduceLT, Nat.reduceSub]
                  refine ⟨_, _, holds89 _ _ _ _ (okSt_of hbd (hst y5 hmem5)) (by have := depT_mem hmem5; simp only [List.length_append, List.length_cons, List.length_nil]; omega) (by simp) (by simp only [tkA, tkH, List.length_append, List.length_cons, List.length_nil] at hlen5 ⊢; (try simp only [h0, h1, ↓reduceIte, Bool.false_eq_true, List.length_append, List.length_cons, List.length_nil] at hlen5); omega), ?_⟩
                  simp only [later]
                  simp only [amset, amlib, zset, eq_self, ↓reduceIte, reduceCtorEq, Nat.reduceBEq, Nat.reduceEqDiff, Nat.reduceAdd, Nat.reduceMul, Nat.reduceLeDiff, Nat.reduceLT, Nat.reduceSub]
                  refine hK41 _ ?_
                  clear hK41
                  refine aw_region zT ?_
                  simp only [amset, amlib, zset, eq_self, ↓reduceIte, reduceCtorEq, Nat.reduceBEq, Nat.reduceEqDiff, Nat.reduceAdd, Nat.reduceMul, Nat.reduceLeDiff, Nat.reduceLT, Nat.reduceSub]
                  refine ⟨_, _, holds85 _ _ _ (by simp only [tkA, tkH, List.length_append, List.length_cons, List.length_nil] at hlen5 ⊢; (try simp only [h0, h1, ↓reduceIte, Bool.false_eq_true, List.length_append, List.length_cons, List.length_nil] at hlen5); omega) (by simp), ?_⟩
                  simp only [later]
                  simp only [amset, amlib, zset, eq_self, ↓reduceIte, reduceCtorEq, Nat.reduceBEq, Nat.reduceEqDiff, Nat.reduceAdd, Nat.reduceMul, Nat.reduceLeDiff, Nat.reduceLT, Nat.reduceSub]
                  refine hK33 _ ?_
                  clear hK33
                  refine aw_region zT ?_
                  simp only [amset, amlib, zset, eq_self, ↓reduceIte, reduceCtorEq, Nat.reduceBEq, Nat.reduceEqDiff, Nat.reduceAdd, Nat.reduceMul, Nat.reduceLeDiff, Nat.reduceLT, Nat.reduceSub]
                  refine ⟨⟨by omega, by omega⟩, ?_⟩
                  refine hR5 _ trivial ?_
                  refine Reach.to ?_ ?_
                  · simp only [amset, amlib, zset, eq_self, ↓reduceIte, reduceCtorEq, Nat.reduceBEq, Nat.reduceEqDiff, Nat.reduceAdd, Nat.reduceMul, Nat.reduceLeDiff, Nat.reduceLT, Nat.reduceSub] <;> simp [List.flatMap_nil, List.flatMap_append, List.flatMap_cons, List.append_nil, List.nil_append, List.append_assoc, List.cons_append, cnA, varA, snA, ouA, chA, tkA, tkH, h0, h1]
                  · simp only [amset, amlib, zset, eq_self, ↓reduceIte, reduceCtorEq, Nat.reduceBEq, Nat.reduceEqDiff, Nat.reduceAdd, Nat.reduceMul, Nat.reduceLeDiff, Nat.reduceLT, Nat.reduceSub] <;> simp [List.flatMap_nil, List.flatMap_append, List.flatMap_cons, List.append_nil, List.nil_append, List.append_assoc, List.cons_append, cnA, varA, snA, ouA, chA, tkA, tkH, h0, h1]
            · intro dn4 y4 td4 harg4 hI4 R4 hR4
              have hl4 : (p.channels).length = dn4.length + (td4.length + 1) := by rw [harg4]; simp
              have hmem4 : y4 ∈ p.channels := by rw [harg4]; simp
              refine aw_norm (by simp only [amset, amlib, zset, eq_self, ↓reduceIte, reduceCtorEq, Nat.reduceBEq, Nat.reduceEqDiff, Nat.reduceAdd, Nat.reduceMul, Nat.reduceLeDiff, Nat.reduceLT, Nat.reduceSub]; exact rfl) ?_
              have hget4 : (encHs (p.channels)).getD dn4.length [] = encH y4 := by rw [harg4]; exact encHs_mid dn4 td4 y4
              have hlen4 := flat_len (f := chA) harg4
              have hwy4 := hwf.h y4 hmem4
              refine aw_ops zT fun K42 hK42 => ?_
              simp only [amset, amlib, zset, eq_self, ↓reduceIte, reduceCtorEq, Nat.reduceBEq, Nat.reduceEqDiff, Nat.reduceAdd, Nat.reduceMul, Nat.reduceLeDiff, Nat.reduceLT, Nat.reduceSub]
              refine hK42 _ ?_
              clear hK42
              refine aw_seq fun K43 hK43 => ?_
              refine aw_cond (t := true) (by simp [evalO, S.get, amLook]; omega) (fun _ => ?_) (fun h => nomatch h)
              refine aw_skip ?_
              simp only [thenQ, blkQ, if_true, reduceIte, Nat.reduceEqDiff, eq_self]
              refine hK43 _ ?_
              clear hK43
              refine aw_seq fun K44 hK44 => ?_
              refine aw_block ?_
              refine aw_ops zT fun K45 hK45 => ?_
              simp only [amset, amlib, zset, hget4, eq_self, ↓reduceIte, reduceCtorEq, Nat.reduceBEq, Nat.reduceEqDiff, Nat.reduceAdd, Nat.reduceMul, Nat.reduceLeDiff, Nat.reduceLT, Nat.reduceSub]
              refine ⟨⟨by omega, by omega⟩, ?_⟩
              refine hK45 _ ?_
              clear hK45
              simp only [okH, Bool.and_eq_true] at hwy4
              have hnl := ident_len hwy4.1
              have hcp : 0 ≤ y4.cap ∧ y4.cap ≤ 32767 := by have := hwy4.2; simp [numA] at this; omega
              have hci4 := i64_itoa y4.cap hcp
              refine aw_draw_region zT prog_mixed ?_
              simp only [amset, amlib, zset, eq_self, ↓reduceIte, reduceCtorEq, Nat.reduceBEq, Nat.reduceEqDiff, Nat.reduceAdd, Nat.reduceMul, Nat.reduceLeDiff, Nat.reduceLT, Nat.reduceSub]
              refine ⟨by omega, ?_⟩
              refine ⟨by omega, ?_⟩
              refine ⟨_, holds86 y4.cap (by omega) (by omega), ?_⟩
              simp only [later]
              simp only [amset, amlib, zset, eq_self, ↓reduceIte, reduceCtorEq, Nat.reduceBEq, Nat.reduceEqDiff, Nat.reduceAdd, Nat.reduceMul, Nat.reduceLeDiff, Nat.reduceLT, Nat.reduceSub]
              refine ⟨by omega, ?_⟩
              refine ⟨by omega, ?_⟩
              refine ⟨_, _, holds85 _ _ _ (by simp only [chA, List.length_append, List.length_cons, List.length_nil] at hlen4 ⊢; omega) (by simp), ?_⟩
              simp only [later]
              simp only [amset, amlib, zset, eq_self, ↓reduceIte, reduceCtorEq, Nat.reduceBEq, Nat.reduceEqDiff, Nat.reduceAdd, Nat.reduceMul, Nat.reduceLeDiff, Nat.reduceLT, Nat.reduceSub]
              refine ⟨by kernel_rfl, ?_⟩
              refine hK44 _ ?_
              clear hK44
              refine aw_region zT ?_
              simp only [amset, amlib, zset, eq_self, ↓reduceIte, reduceCtorEq, Nat.reduceBEq, Nat.reduceEqDiff, Nat.reduceAdd, Nat.reduceMul, Nat.reduceLeDiff, Nat.reduceLT, Nat.reduceSub]
              refine ⟨⟨by omega, by omega⟩, ?_⟩
              refine hR4 _ trivial ?_
              refine Reach.to ?_ ?_
              · simp only [amset, amlib, zset, eq_self, ↓reduceIte, reduceCtorEq, Nat.reduceBEq, Nat.reduceEqDiff, Nat.reduceAdd, Nat.reduceMul, Nat.reduceLeDiff, Nat.reduceLT, Nat.reduceSub] <;> simp [List.flatMap_nil, List.flatMap_append, List.flatMap_cons, List.append_nil, List.nil_append, List.append_assoc, List.cons_append, cnA, varA, snA, ouA, chA, tkA, tkH, h0]
              · simp only [amset, amlib, zset, eq_self, ↓reduceIte, reduceCtorEq, Nat.reduceBEq, Nat.reduceEqDiff, Nat.reduceAdd, Nat.reduceMul, Nat.reduceLeDiff, Nat.reduceLT, Nat.reduceSub] <;> simp [List.flatMap_nil, List.flatMap_append, List.flatMap_cons, List.append_nil, List.nil_append, List.append_assoc, List.cons_append, cnA, varA, snA, ouA, chA, tkA, tkH, h0]
          · intro dn3 y3 td3 harg3 hI3 R3 hR3
            have hl3 : (p.outputs).length = dn3.length + (td3.length + 1) := by rw [harg3]; simp
            have hmem3 : y3 ∈ p.outputs := by rw [harg3]; simp
            refine aw_norm (by simp only [amset, amlib, zset, eq_self, ↓reduceIte, reduceCtorEq, Nat.reduceBEq, Nat.reduceEqDiff, Nat.reduceAdd, Nat.reduceMul, Nat.reduceLeDiff, Nat.reduceLT, Nat.reduceSub]; exact rfl) ?_
            have hget3 : (encStrs (p.outputs)).getD dn3.length [] = encStr y3 := by rw [harg3]; exact encStrs_mid dn3 td3 y3
            have hlen3 := flat_len (f := ouA) harg3
            have hwy3 := hwf.o y3 hmem3
            refine aw_ops zT fun K46 hK46 => ?_
            simp only [amset, amlib, zset, eq_self, ↓reduceIte, reduceCtorEq, Nat.reduceBEq, Nat.reduceEqDiff, Nat.reduceAdd, Nat.reduceMul, Nat.reduceLeDiff, Nat.reduceLT, Nat.reduceSub]
            refine hK46 _ ?_
            clear hK46
            refine aw_seq fun K47 hK47 => ?_
            refine aw_cond (t := true) (by simp [evalO, S.get, amLook]; omega) (fun _ => ?_) (fun h => nomatch h)
            refine aw_skip ?_
            simp only [thenQ, blkQ, if_true, reduceIte, Nat.reduceEqDiff, eq_self]
            refine hK47 _ ?_
            clear hK47
            refine aw_seq fun K48 hK48 => ?_
            refine aw_block ?_
            refine aw_ops zT fun K49 hK49 => ?_
            simp only [amset, amlib, zset, hget3, eq_self, ↓reduceIte, reduceCtorEq, Nat.reduceBEq, Nat.reduceEqDiff, Nat.reduceAdd, Nat.reduceMul, Nat.reduceLeDiff, Nat.reduceLT, Nat.reduceSub]
            refine ⟨⟨by omega, by omega⟩, ?_⟩
            refine hK49 _ ?_
            clear hK49
            have hnl := ident_len hwy3
            refine aw_region zT ?_
            simp only [amset, amlib, zset, eq_self, ↓reduceIte, reduceCtorEq, Nat.reduceBEq, Nat.reduceEqDiff, Nat.reduceAdd, Nat.reduceMul, Nat.reduceLeDiff, Nat.reduceLT, Nat.reduceSub]
            refine ⟨by omega, ?_⟩
            refine ⟨by omega, ?_⟩
            refine ⟨_, _, holds85 _ _ _ (by simp only [ouA, List.length_append, List.length_cons, List.length_nil] at hlen3 ⊢; omega) (by simp), ?_⟩
            simp only [later]
            simp only [amset, amlib, zset, eq_self, ↓reduceIte, reduceCtorEq, Nat.reduceBEq, Nat.reduceEqDiff, Nat.reduceAdd, Nat.reduceMul, Nat.reduceLeDiff, Nat.reduceLT, Nat.reduceSub]
            refine hK48 _ ?_
            clear hK48
            refine aw_region zT ?_
            simp only [amset, amlib, zset, eq_self, ↓reduceIte, reduceCtorEq, Nat.reduceBEq, Nat.reduceEqDiff, Nat.reduceAdd, Nat.reduceMul, Nat.reduceLeDiff, Nat.reduceLT, Nat.reduceSub]
            refine ⟨⟨by omega, by omega⟩, ?_⟩
            refine hR3 _ trivial ?_
            refine Reach.to ?_ ?_
            · simp only [amset, amlib, zset, eq_self, ↓reduceIte, reduceCtorEq, Nat.reduceBEq, Nat.reduceEqDiff, Nat.reduceAdd, Nat.reduceMul, Nat.reduceLeDiff, Nat.reduceLT, Nat.reduceSub] <;> simp [List.flatMap_nil, List.flatMap_append, List.flatMap_cons, List.append_nil, List.nil_append, List.append_assoc, List.cons_append, cnA, varA, snA, ouA, chA, tkA, tkH, h0]
            · simp only [amset, amlib, zset, eq_self, ↓reduceIte, reduceCtorEq, Nat.reduceBEq, Nat.reduceEqDiff, Nat.reduceAdd, Nat.reduceMul, Nat.reduceLeDiff, Nat.reduceLT, Nat.reduceSub] <;> simp [List.flatMap_nil, List.flatMap_append, List.flatMap_cons, List.append_nil, List.nil_append, List.append_assoc, List.cons_append, cnA, varA, snA, ouA, chA, tkA, tkH, h0]
        · intro dn2 y2 td2 harg2 hI2 R2 hR2
          have hl2 : (p.sensors).length = dn2.length + (td2.length + 1) := by rw [harg2]; simp
          have hmem2 : y2 ∈ p.sensors := by rw [harg2]; simp
          refine aw_norm (by simp only [amset, amlib, zset, eq_self, ↓reduceIte, reduceCtorEq, Nat.reduceBEq, Nat.reduceEqDiff, Nat.reduceAdd, Nat.reduceMul, Nat.reduceLeDiff, Nat.reduceLT, Nat.reduceSub]; exact rfl) ?_
          have hget2 : (encStrs (p.sensors)).getD dn2.length [] = encStr y2 := by rw [harg2]; exact encStrs_mid dn2 td2 y2
          have hlen2 := flat_len (f := snA) harg2
          have hwy2 := hwf.s y2 hmem2
          refine aw_ops zT fun K50 hK50 => ?_
          simp only [amset, amlib, zset, eq_self, ↓reduceIte, reduceCtorEq, Nat.reduceBEq, Nat.reduceEqDiff, Nat.reduceAdd, Nat.reduceMul, Nat.reduceLeDiff, Nat.reduceLT, Nat.reduceSub]
          refine hK50 _ ?_
          clear hK50
          refine aw_seq fun K51 hK51 => ?_
          refine aw_cond (t := true) (by simp [evalO, S.get, amLook]; omega) (fun _ => ?_) (fun h => nomatch h)
          refine aw_skip ?_
          simp only [thenQ, blkQ, if_true, reduceIte, Nat.reduceEqDiff, eq_self]
          refine hK51 _ ?_
          clear hK51
          refine aw_seq fun K52 hK52 => ?_
          refine aw_block ?_
          refine aw_ops zT fun K53 hK53 => ?_
          simp only [amset, amlib, zset, hget2, eq_self, ↓reduceIte, reduceCtorEq, Nat.reduceBEq, Nat.reduceEqDiff, Nat.reduceAdd, Nat.reduceMul, Nat.reduceLeDiff, Nat.reduceLT, Nat.reduceSub]
          refine ⟨⟨by omega, by omega⟩, ?_⟩
          refine hK53 _ ?_
          clear hK53
          have hnl := ident_len hwy2
          refine aw_region zT ?_
          simp only [amset, amlib, zset, eq_self, ↓reduceIte, reduceCtorEq, Nat.reduceBEq, Nat.reduceEqDiff, Nat.reduceAdd, Nat.reduceMul, Nat.reduceLeDiff, Nat.reduceLT, Nat.reduceSub]
          refine ⟨by omega, ?_⟩
          refine ⟨by omega, ?_⟩
          refine ⟨_, _, holds85 _ _ _ (by simp only [snA, List.length_append, List.length_cons, List.length_nil] at hlen2 ⊢; omega) (by simp), ?_⟩
          simp only [later]
          simp only [amset, amlib, zset, eq_self, ↓reduceIte, reduceCtorEq, Nat.reduceBEq, Nat.reduceEqDiff, Nat.reduceAdd, Nat.reduceMul, Nat.reduceLeDiff, Nat.reduceLT, Nat.reduceSub]
          refine hK52 _ ?_
          clear hK52
          refine aw_region zT ?_
          simp only [amset, amlib, zset, eq_self, ↓reduceIte, reduceCtorEq, Nat.reduceBEq, Nat.reduceEqDiff, Nat.reduceAdd, Nat.reduceMul, Nat.reduceLeDiff, Nat.reduceLT, Nat.reduceSub]
          refine ⟨⟨by omega, by omega⟩, ?_⟩
          refine hR2 _ trivial ?_
          refine Reach.to ?_ ?_
          · simp only [amset, amlib, zset, eq_self, ↓reduceIte, reduceCtorEq, Nat.reduceBEq, Nat.reduceEqDiff, Nat.reduceAdd, Nat.reduceMul, Nat.reduceLeDiff, Nat.reduceLT, Nat.reduceSub] <;> simp [List.flatMap_nil, List.flatMap_append, List.flatMap_cons, List.append_nil, List.nil_append, List.append_assoc, List.cons_append, cnA, varA, snA, ouA, chA, tkA, tkH, h0]
          · simp only [amset, amlib, zset, eq_self, ↓reduceIte, reduceCtorEq, Nat.reduceBEq, Nat.reduceEqDiff, Nat.reduceAdd, Nat.reduceMul, Nat.reduceLeDiff, Nat.reduceLT, Nat.reduceSub] <;> simp [List.flatMap_nil, List.flatMap_append, List.flatMap_cons, List.append_nil, List.nil_append, List.append_assoc, List.cons_append, cnA, varA, snA, ouA, chA, tkA, tkH, h0]
      · intro dn1 y1 td1 harg1 hI1 R1 hR1
        have hl1 : (p.globals).length = dn1.length + (td1.length + 1) := by rw [harg1]; simp
        have hmem1 : y1 ∈ p.globals := by rw [harg1]; simp
        refine aw_norm (by simp only [amset, amlib, zset, eq_self, ↓reduceIte, reduceCtorEq, Nat.reduceBEq, Nat.reduceEqDiff, Nat.reduceAdd, Nat.reduceMul, Nat.reduceLeDiff, Nat.reduceLT, Nat.reduceSub]; exact rfl) ?_
        have hget1 : (encGs (p.globals)).getD dn1.length [] = encG y1 := by rw [harg1]; exact encGs_mid dn1 td1 y1
        have hlen1 := flat_len (f := varA) harg1
        have hwy1 := hwf.g y1 hmem1
        refine aw_ops zT fun K54 hK54 => ?_
        simp only [amset, amlib, zset, eq_self, ↓reduceIte, reduceCtorEq, Nat.reduceBEq, Nat.reduceEqDiff, Nat.reduceAdd, Nat.reduceMul, Nat.reduceLeDiff, Nat.reduceLT, Nat.reduceSub]
        refine hK54 _ ?_
        clear hK54
        refine aw_seq fun K55 hK55 => ?_
        refine aw_cond (t := true) (by simp [evalO, S.get, amLook]; omega) (fun _ => ?_) (fun h => nomatch h)
        refine aw_skip ?_
        simp only [thenQ, blkQ, if_true, reduceIte, Nat.reduceEqDiff, eq_self]
        refine hK55 _ ?_
        clear hK55
        refine aw_seq fun K56 hK56 => ?_
        refine aw_block ?_
        refine aw_ops zT fun K57 hK57 => ?_
        simp only [amset, amlib, zset, hget1, eq_self, ↓reduceIte, reduceCtorEq, Nat.reduceBEq, Nat.reduceEqDiff, Nat.reduceAdd, Nat.reduceMul, Nat.reduceLeDiff, Nat.reduceLT, Nat.reduceSub]
        refine ⟨⟨by omega, by omega⟩, ?_⟩
        refine hK57 _ ?_
        clear hK57
        have hr0 := hgi y1 hmem1
        unfold i16r at hr0
        simp only [okG, Bool.and_eq_true] at hwy1
        have hnl := ident_len hwy1.1.1.1
        have hln : y1.len ≤ 32767 := by have := hwy1.1.1.2; simp [numA] at this; omega
        refine aw_region zT ?_
        simp only [amset, amlib, zset, eq_self, ↓reduceIte, reduceCtorEq, Nat.reduceBEq, Nat.reduceEqDiff, Nat.reduceAdd, Nat.reduceMul, Nat.reduceLeDiff, Nat.reduceLT, Nat.reduceSub]
        refine ⟨_, holds87 y1 (by omega) hln hr0, ?_⟩
        simp only [later]
        simp only [amset, amlib, zset, eq_self, ↓reduceIte, reduceCtorEq, Nat.reduceBEq, Nat.reduceEqDiff, Nat.reduceAdd, Nat.reduceMul, Nat.reduceLeDiff, Nat.reduceLT, Nat.reduceSub]
        refine ⟨_, _, holds85 _ _ _ (by simp only [List.length_append, List.length_cons, List.length_nil] at hlen1 ⊢; omega) (varA_ne y1), ?_⟩
        simp only [later]
        simp only [amset, amlib, zset, eq_self, ↓reduceIte, reduceCtorEq, Nat.reduceBEq, Nat.reduceEqDiff, Nat.reduceAdd, Nat.reduceMul, Nat.reduceLeDiff, Nat.reduceLT, Nat.reduceSub]
        refine hK56 _ ?_
        clear hK56
        refine aw_region zT ?_
        simp only [amset, amlib, zset, eq_self, ↓reduceIte, reduceCtorEq, Nat.reduceBEq, Nat.reduceEqDiff, Nat.reduceAdd, Nat.reduceMul, Nat.reduceLeDiff, Nat.reduceLT, Nat.reduceSub]
        refine ⟨⟨by omega, by omega⟩, ?_⟩
        refine hR1 _ trivial ?_
        refine Reach.to ?_ ?_
        · simp only [amset, amlib, zset, eq_self, ↓reduceIte, reduceCtorEq, Nat.reduceBEq, Nat.reduceEqDiff, Nat.reduceAdd, Nat.reduceMul, Nat.reduceLeDiff, Nat.reduceLT, Nat.reduceSub] <;> simp [List.flatMap_nil, List.flatMap_append, List.flatMap_cons, List.append_nil, List.nil_append, List.append_assoc, List.cons_append, cnA, varA, snA, ouA, chA, tkA, tkH, h0]
        · simp only [amset, amlib, zset, eq_self, ↓reduceIte, reduceCtorEq, Nat.reduceBEq, Nat.reduceEqDiff, Nat.reduceAdd, Nat.reduceMul, Nat.reduceLeDiff, Nat.reduceLT, Nat.reduceSub] <;> simp [List.flatMap_nil, List.flatMap_append, List.flatMap_cons, List.append_nil, List.nil_append, List.append_assoc, List.cons_append, cnA, varA, snA, ouA, chA, tkA, tkH, h0]
    · intro dn y td harg hI R hR
      have hl : (p.consts).length = dn.length + (td.length + 1) := by rw [harg]; simp
      have hmem : y ∈ p.consts := by rw [harg]; simp
      refine aw_norm (by simp only [amset, amlib, zset, eq_self, ↓reduceIte, reduceCtorEq, Nat.reduceBEq, Nat.reduceEqDiff, Nat.reduceAdd, Nat.reduceMul, Nat.reduceLeDiff, Nat.reduceLT, Nat.reduceSub]; exact rfl) ?_
      have hget : (encCs (p.consts)).getD dn.length [] = encC y := by rw [harg]; exact encCs_mid dn td y
      have hlen := flat_len (f := cnA) harg
      have hwy := hwf.c y hmem
      refine aw_ops zT fun K58 hK58 => ?_
      simp only [amset, amlib, zset, eq_self, ↓reduceIte, reduceCtorEq, Nat.reduceBEq, Nat.reduceEqDiff, Nat.reduceAdd, Nat.reduceMul, Nat.reduceLeDiff, Nat.reduceLT, Nat.reduceSub]
      refine hK58 _ ?_
      clear hK58
      refine aw_seq fun K59 hK59 => ?_
      refine aw_cond (t := true) (by simp [evalO, S.get, amLook]; omega) (fun _ => ?_) (fun h => nomatch h)
      refine aw_skip ?_
      simp only [thenQ, blkQ, if_true, reduceIte, Nat.reduceEqDiff, eq_self]
      refine hK59 _ ?_
      clear hK59
      refine aw_seq fun K60 hK60 => ?_
      refine aw_block ?_
      refine aw_ops zT fun K61 hK61 => ?_
      simp only [amset, amlib, zset, hget, eq_self, ↓reduceIte, reduceCtorEq, Nat.reduceBEq, Nat.reduceEqDiff, Nat.reduceAdd, Nat.reduceMul, Nat.reduceLeDiff, Nat.reduceLT, Nat.reduceSub]
      refine ⟨⟨by omega, by omega⟩, ?_⟩
      refine hK61 _ ?_
      clear hK61
      have hr0 := hci y hmem
      unfold i16r at hr0
      have hit := Lib.itoa_length_le y.value (by omega) (by omega)
      have ev := i64_same (n := y.value) (by omega)
      simp only [okC, Bool.and_eq_true] at hwy
      have hnl := ident_len hwy.1
      refine aw_draw_region zT prog_mixed ?_
      simp only [amset, amlib, zset, ev, eq_self, ↓reduceIte, reduceCtorEq, Nat.reduceBEq, Nat.reduceEqDiff, Nat.reduceAdd, Nat.reduceMul, Nat.reduceLeDiff, Nat.reduceLT, Nat.reduceSub]
      refine ⟨by omega, ?_⟩
      refine ⟨by omega, ?_⟩
      refine ⟨_, holds86 y.value (by omega) (by omega), ?_⟩
      simp only [later]
      simp only [amset, amlib, zset, ev, eq_self, ↓reduceIte, reduceCtorEq, Nat.reduceBEq, Nat.reduceEqDiff, Nat.reduceAdd, Nat.reduceMul, Nat.reduceLeDiff, Nat.reduceLT, Nat.reduceSub]
      refine ⟨by omega, ?_⟩
      refine ⟨by omega, ?_⟩
      refine ⟨_, _, holds85 _ _ _ (by simp only [cnA, List.length_append, List.length_cons, List.length_nil] at hlen ⊢; omega) (by simp), ?_⟩
      simp only [later]
      simp only [amset, amlib, zset, ev, eq_self, ↓reduceIte, reduceCtorEq, Nat.reduceBEq, Nat.reduceEqDiff, Nat.reduceAdd, Nat.reduceMul, Nat.reduceLeDiff, Nat.reduceLT, Nat.reduceSub]
      refine ⟨by kernel_rfl, ?_⟩
      refine hK60 _ ?_
      clear hK60
      refine aw_region zT ?_
      simp only [amset, amlib, zset, eq_self, ↓reduceIte, reduceCtorEq, Nat.reduceBEq, Nat.reduceEqDiff, Nat.reduceAdd, Nat.reduceMul, Nat.reduceLeDiff, Nat.reduceLT, Nat.reduceSub]
      refine ⟨⟨by omega, by omega⟩, ?_⟩
      refine hR _ trivial ?_
      refine Reach.to ?_ ?_
      · simp only [amset, amlib, zset, eq_self, ↓reduceIte, reduceCtorEq, Nat.reduceBEq, Nat.reduceEqDiff, Nat.reduceAdd, Nat.reduceMul, Nat.reduceLeDiff, Nat.reduceLT, Nat.reduceSub] <;> simp [List.flatMap_nil, List.flatMap_append, List.flatMap_cons, List.append_nil, List.nil_append, List.append_assoc, List.cons_append, cnA, varA, snA, ouA, chA, tkA, tkH, h0]
      · simp only [amset, amlib, zset, eq_self, ↓reduceIte, reduceCtorEq, Nat.reduceBEq, Nat.reduceEqDiff, Nat.reduceAdd, Nat.reduceMul, Nat.reduceLeDiff, Nat.reduceLT, Nat.reduceSub] <;> simp [List.flatMap_nil, List.flatMap_append, List.flatMap_cons, List.append_nil, List.nil_append, List.append_assoc, List.cons_append, cnA, varA, snA, ouA, chA, tkA, tkH, h0]
theorem holdsFmt (p : Pg) (h36 : Holds Tryz.prog zG 36 [.agg [.sl 3 (encCs p.consts), .sl 4 (encGs p.globals), .sl 1 (encStrs p.sensors), .sl 1 (encStrs p.outputs), .sl 3 (encHs p.channels), .sl 8 (encTs p.tasks)]] [.c (.bool (wfP p))]) (hst : ∀ t ∈ p.tasks, sized t.body) (hd : depT p.tasks ≤ 100000000000) (hci : ∀ c ∈ p.consts, i16r c.value) (hgi : ∀ g ∈ p.globals, i16r g.init) (hl : (fmtA p).length ≤ 1000000000000) : Holds Tryz.prog zG 32 [.agg [.sl 3 (encCs p.consts), .sl 4 (encGs p.globals), .sl 1 (encStrs p.sensors), .sl 1 (encStrs p.outputs), .sl 3 (encHs p.channels), .sl 8 (encTs p.tasks)]] [.c (.str (if wfP p then fmtA p else []))] := Holds.of_emp (holds32 p h36 hst hd hci hgi hl)
end Go.Proofs.Am
set_option maxRecDepth 100000
set_option maxHeartbeats 4000000
namespace Go.Proofs.Am
/-- The elements stand in the list from place k on. -/
def Seg {α : Type} (e : α → List C) (xs : List A) (k : Nat) (L : List α) : Prop := ∀ i z, L[i]? = some z → xs[k + i]? = some (.agg (e z))
theorem Seg.left {α : Type} {e : α → List C} {xs : List A} {k : Nat} {a b : List α} (h : Seg e xs k (a ++ b)) : Seg e xs k a := fun i z hz => h i z (by rw [List.getElem?_append_left (List.getElem?_eq_some_iff.1 hz).1]; exact hz)
theorem Seg.right {α : Type} {e : α → List C} {xs : List A} {k : Nat} {a b : List α} (h : Seg e xs k (a ++ b)) : Seg e xs (k + a.length) b := fun i z hz => by
  have := h (a.length + i) z (by rw [List.getElem?_append_right (by omega)]; simpa using hz)
  rwa [← Nat.add_assoc] at this
theorem Seg.head {α : Type} {e : α → List C} {xs : List A} {k : Nat} {a : α} {b : List α} (h : Seg e xs k (a :: b)) : xs[k]? = some (.agg (e a)) := h 0 a rfl
theorem Seg.tail {α : Type} {e : α → List C} {xs : List A} {k : Nat} {a : α} {b : List α} (h : Seg e xs k (a :: b)) : Seg e xs (k + 1) b := Seg.right (a := [a]) h
/-- The consumer: it answers true till it answers false at place m. -/
def YSeq (v : Value) (xs : List A) (p : Nat → OP) (m : Nat) (ps : OP) : Prop :=
  (∀ i x, i < m → xs[i]? = some x → HoldsV Tryz.prog zG v [x] (p i) (some [.c (.bool true)]) (p (i + 1))) ∧ ∀ x, xs[m]? = some x → HoldsV Tryz.prog zG v [x] (p m) (some [.c (.bool false)]) ps
theorem YSeq.at {v : Value} {xs : List A} {p : Nat → OP} {m : Nat} {ps : OP} (h : YSeq v xs p m ps) {k : Nat} (hk : k ≤ m) {x : A} (hx : xs[k]? = some x) : HoldsV Tryz.prog zG v [x] (p k) (some [.c (.bool (decide (k < m)))]) (if decide (k < m) = true then p (k + 1) else ps) := by
  by_cases h1 : k < m
  · rw [decide_eq_true h1, if_pos rfl]; exact h.1 k x h1 hx
  · obtain rfl : k = m := by omega
    rw [decide_eq_false h1, if_neg (by simp)]; exact h.2 x hx
theorem prog117 : Tryz.prog.funcs[117]? = some Tryz.f117 := by kernel_rfl
theorem step117 (v : Value) (xs : List A) (p : Nat → OP) (m : Nat) (ps : OP) (hy : YSeq v xs p m ps) (hp : ∀ i, Stab (p i)) (hps : Stab ps) (l : List St) (k : Nat) (hk : k ≤ m) (hseg : Seg encS xs k (stmL l)) (ih : ∀ l2 : List St, SizeOf.sizeOf l2 < SizeOf.sizeOf l → ∀ k, k ≤ m → Seg encS xs k (stmL l2) → HoldsO Tryz.prog zG 117 [.c (.sl 7 (encSs l2)), .c (.val v)] (p k) (some [.c (.bool (decide (k + (stmL l2).length ≤ m)))]) (if decide (k + (stmL l2).length ≤ m) = true then p (k + (stmL l2).length) else ps)) : HoldsO Tryz.prog zG 117 [.c (.sl 7 (encSs l)), .c (.val v)] (p k) (some [.c (.bool (decide (k + (stmL l).length ≤ m)))]) (if decide (k + (stmL l).length ≤ m) = true then p (k + (stmL l).length) else ps) := by
  refine holdsO_of_body zT prog117 rfl rfl rfl (by simp [Tryz.f117]) (hp k) (by split; exact hp _; exact hps) ?_
  refine aw_ops zT fun K1 hK1 => ?_
  simp only [amset, amlib, zset, eq_self, ↓reduceIte, reduceCtorEq, Nat.reduceBEq, Nat.reduceEqDiff, Nat.reduceAdd, Nat.reduceMul, Nat.reduceLeDiff, Nat.reduceLT, Nat.reduceSub]
  refine hK1 _ ?_
  clear hK1
  refine aw_seq fun K2 hK2 => ?_
  refine aw_ops zT fun K3 hK3 => ?_
  simp only [amset, amlib, zset, eq_self, ↓reduceIte, reduceCtorEq, Nat.reduceBEq, Nat.reduceEqDiff, Nat.reduceAdd, Nat.reduceMul, Nat.reduceLeDiff, Nat.reduceLT, Nat.reduceSub]
  intros
  refine hK3 _ ?_
  clear hK3
  refine aw_block ?_
  refine aw_range (α := St) (l) (fun dn => k + (stmL dn).length ≤ m) (fun dn => [(9, .cell (.c (.int .i64 dn.length)))]) (fun dn => [(1000000, [.objst (p (k + (stmL dn).length))])]) [] [4, 6, 9, 10, 11, 12, 13, 14, 15, 16, 17, 18, 19, 20, 21, 22, 23, 24, 25, 26, 27, 28, 29, 30, 31] [6, 1000000] (by simpa [stmL] using hk) ?_ ?_ ?_ ?_
  · simp only [amset, amlib, zset, eq_self, ↓reduceIte, reduceCtorEq, Nat.reduceBEq, Nat.reduceEqDiff, Nat.reduceAdd, Nat.reduceMul, Nat.reduceLeDiff, Nat.reduceLT, Nat.reduceSub] <;> simp [stmL_append, stmL, stmS_eq, List.length_append, List.length_cons, List.length_nil, List.append_nil, Nat.add_assoc, Nat.add_comm, Nat.add_left_comm, Nat.add_zero]
  · simp only [amset, amlib, zset, eq_self, ↓reduceIte, reduceCtorEq, Nat.reduceBEq, Nat.reduceEqDiff, Nat.reduceAdd, Nat.reduceMul, Nat.reduceLeDiff, Nat.reduceLT, Nat.reduceSub] <;> simp [stmL_append, stmL, stmS_eq, List.length_append, List.length_cons, List.length_nil, List.append_nil, Nat.add_assoc, Nat.add_comm, Nat.add_left_comm, Nat.add_zero]
  · intro hI R
    refine aw_norm (by simp only [amset, amlib, zset, eq_self, ↓reduceIte, reduceCtorEq, Nat.reduceBEq, Nat.reduceEqDiff, Nat.reduceAdd, Nat.reduceMul, Nat.reduceLeDiff, Nat.reduceLT, Nat.reduceSub]; exact rfl) ?_
    refine aw_ops zT fun K4 hK4 => ?_
    simp only [amset, amlib, zset, eq_self, ↓reduceIte, reduceCtorEq, Nat.reduceBEq, Nat.reduceEqDiff, Nat.reduceAdd, Nat.reduceMul, Nat.reduceLeDiff, Nat.reduceLT, Nat.reduceSub]
    refine hK4 _ ?_
    clear hK4
    refine aw_seq fun K5 hK5 => ?_
    refine aw_cond (t := false) (by simp [evalO, S.get, amLook]) (fun h => nomatch h) (fun _ => ?_)
    refine aw_exit ?_
    simp only [thenQ, blkQ, if_true, reduceIte, Nat.reduceEqDiff, eq_self]
    refine hK2 _ ?_
    clear hK2
    refine aw_ops zT fun K6 hK6 => ?_
    simp only [amset, amlib, zset, eq_self, ↓reduceIte, reduceCtorEq, Nat.reduceBEq, Nat.reduceEqDiff, Nat.reduceAdd, Nat.reduceMul, Nat.reduceLeDiff, Nat.reduceLT, Nat.reduceSub]
    refine hK6 _ ?_
    clear hK6
    refine aw_ret ?_
    try show resOf zG _ [.tmp 4] = some _ ∧ _ ∧ _
    simp only [amset, amlib, zset, eq_self, ↓reduceIte, reduceCtorEq, Nat.reduceBEq, Nat.reduceEqDiff, Nat.reduceAdd, Nat.reduceMul, Nat.reduceLeDiff, Nat.reduceLT, Nat.reduceSub]
    rw [decide_eq_true hI]
    simp only [↓reduceIte, and_self]
  · intro dn y td harg hI R hR
    have hl : (l).length = dn.length + (td.length + 1) := by rw [harg]; simp
    have hmem : y ∈ l := by rw [harg]; simp
    refine aw_norm (by simp only [amset, amlib, zset, eq_self, ↓reduceIte, reduceCtorEq, Nat.reduceBEq, Nat.reduceEqDiff, Nat.reduceAdd, Nat.reduceMul, Nat.reduceLeDiff, Nat.reduceLT, Nat.reduceSub]; exact rfl) ?_
    have hget : (encSs (l)).getD dn.length [] = encS y := by rw [harg]; exact encSs_mid dn td y
    have hseg2 := hseg
    rw [harg, stmL_append, stmL, stmS_eq] at hseg2
    have hs0 := Seg.right hseg2
    have hs1 := Seg.left hs0
    have hyl := (hy.at (k := k + (stmL dn).length) hI (Seg.head hs1))
    rw [encS_eq] at hyl
    have hs2 := Seg.left (Seg.tail hs1)
    have hs3 := Seg.right (Seg.tail hs1)
    have hlen : (stmL l).length = (stmL dn).length + (1 + ((stmL y.body).length + (stmL y.els).length) + (stmL td).length) := by rw [harg, stmL_append, stmL, stmS_eq]; simp only [List.length_append, List.length_cons]; omega
    refine aw_ops zT fun K7 hK7 => ?_
    simp only [amset, amlib, zset, eq_self, ↓reduceIte, reduceCtorEq, Nat.reduceBEq, Nat.reduceEqDiff, Nat.reduceAdd, Nat.reduceMul, Nat.reduceLeDiff, Nat.reduceLT, Nat.reduceSub]
    refine hK7 _ ?_
    clear hK7
    refine aw_seq fun K8 hK8 => ?_
    refine aw_cond (t := true) (by simp [evalO, S.get, amLook]; omega) (fun _ => ?_) (fun h => nomatch h)
    refine aw_skip ?_
    simp only [thenQ, blkQ, if_true, reduceIte, Nat.reduceEqDiff, eq_self]
    refine hK8 _ ?_
    clear hK8
    refine aw_seq fun K9 hK9 => ?_
    refine aw_block ?_
    refine aw_ops zT fun K10 hK10 => ?_
    simp only [amset, amlib, zset, hget, eq_self, ↓reduceIte, reduceCtorEq, Nat.reduceBEq, Nat.reduceEqDiff, Nat.reduceAdd, Nat.reduceMul, Nat.reduceLeDiff, Nat.reduceLT, Nat.reduceSub]
    refine ⟨⟨by omega, by omega⟩, ?_⟩
    refine hK10 _ ?_
    clear hK10
    refine aw_ops zT fun K11 hK11 => ?_
    cases y0 : decide (k + (stmL dn).length < m) with
    | true =>
      cases y1 : decide (k + (stmL dn).length + 1 + (stmL y.body).length ≤ m) with
      | true =>
        cases y2 : decide (k + (stmL dn).length + 1 + (stmL y.body).length + (stmL y.els).length ≤ m) with
        | true =>
          simp only [amset, amlib, zset, y0, y1, y2, eq_self, ↓reduceIte, reduceCtorEq, Nat.reduceBEq, Nat.reduceEqDiff, Nat.reduceAdd, Nat.reduceMul, Nat.reduceLeDiff, Nat.reduceLT, Nat.reduceSub]
          refine ⟨_, _, hyl, ?_⟩
          simp only [later]
          simp only [amset, amlib, zset, y0, y1, y2, eq_self, ↓reduceIte, reduceCtorEq, Nat.reduceBEq, Nat.reduceEqDiff, Nat.reduceAdd, Nat.reduceMul, Nat.reduceLeDiff, Nat.reduceLT, Nat.reduceSub]
          refine ⟨_, _, ih y.body (sizeOf_body hmem) _ (by simp at y0; omega) hs2, ?_⟩
          simp only [later]
          simp only [amset, amlib, zset, y0, y1, y2, eq_self, ↓reduceIte, reduceCtorEq, Nat.reduceBEq, Nat.reduceEqDiff, Nat.reduceAdd, Nat.reduceMul, Nat.reduceLeDiff, Nat.reduceLT, Nat.reduceSub]
          refine ⟨_, _, ih y.els (sizeOf_els hmem) _ (by simp at y1; omega) hs3, ?_⟩
          simp only [later]
          simp only [amset, amlib, zset, y0, y1, y2, eq_self, ↓reduceIte, reduceCtorEq, Nat.reduceBEq, Nat.reduceEqDiff, Nat.reduceAdd, Nat.reduceMul, Nat.reduceLeDiff, Nat.reduceLT, Nat.reduceSub]
          refine hK11 _ ?_
          clear hK11
          refine aw_cond (t := false) rfl (fun h => nomatch h) (fun _ => ?_)
          refine aw_skip ?_
          simp only [thenQ, blkQ, if_true, reduceIte, Nat.reduceEqDiff, eq_self]
          refine hK9 _ ?_
          clear hK9
          refine aw_region zT ?_
          simp only [amset, amlib, zset, eq_self, ↓reduceIte, reduceCtorEq, Nat.reduceBEq, Nat.reduceEqDiff, Nat.reduceAdd, Nat.reduceMul, Nat.reduceLeDiff, Nat.reduceLT, Nat.reduceSub]
          refine ⟨⟨by omega, by omega⟩, ?_⟩
          refine hR _ (by simp only [stmL_append, stmL, stmS_eq, List.length_append, List.length_cons, List.length_nil]; simp at y2; omega) ?_
          refine Reach.to ?_ ?_
          · simp only [amset, amlib, zset, eq_self, ↓reduceIte, reduceCtorEq, Nat.reduceBEq, Nat.reduceEqDiff, Nat.reduceAdd, Nat.reduceMul, Nat.reduceLeDiff, Nat.reduceLT, Nat.reduceSub] <;> simp [stmL_append, stmL, stmS_eq, List.length_append, List.length_cons, List.length_nil, List.append_nil, Nat.add_assoc, Nat.add_comm, Nat.add_left_comm, Nat.add_zero]
          · simp only [amset, amlib, zset, eq_self, ↓reduceIte, reduceCtorEq, Nat.reduceBEq, Nat.reduceEqDiff, Nat.reduceAdd, Nat.reduceMul, Nat.reduceLeDiff, Nat.reduceLT, Nat.reduceSub] <;> simp [stmL_append, stmL, stmS_eq, List.length_append, List.length_cons, List.length_nil, List.append_nil, Nat.add_assoc, Nat.add_comm, Nat.add_left_comm, Nat.add_zero]
        | false =>
          simp only [amset, amlib, zset, y0, y1, y2, eq_self, ↓reduceIte, reduceCtorEq, Nat.reduceBEq, Nat.reduceEqDiff, Nat.reduceAdd, Nat.reduceMul, Nat.reduceLeDiff, Nat.reduceLT, Nat.reduceSub]
          refine ⟨_, _, hyl, ?_⟩
          simp only [later]
          simp only [amset, amlib, zset, y0, y1, y2, eq_self, ↓reduceIte, reduceCtorEq, Nat.reduceBEq, Nat.reduceEqDiff, Nat.reduceAdd, Nat.reduceMul, Nat.reduceLeDiff, Nat.reduceLT, Nat.reduceSub]
          refine ⟨_, _, ih y.body (sizeOf_body hmem) _ (by simp at y0; omega) hs2, ?_⟩
          simp only [later]
          simp only [amset, amlib, zset, y0, y1, y2, eq_self, ↓reduceIte, reduceCtorEq, Nat.reduceBEq, Nat.reduceEqDiff, Nat.reduceAdd, Nat.reduceMul, Nat.reduceLeDiff, Nat.reduceLT, Nat.reduceSub]
          refine ⟨_, _, ih y.els (sizeOf_els hmem) _ (by simp at y1; omega) hs3, ?_⟩
          simp only [later]
          simp only [amset, amlib, zset, y0, y1, y2, eq_self, ↓reduceIte, reduceCtorEq, Nat.reduceBEq, Nat.reduceEqDiff, Nat.reduceAdd, Nat.reduceMul, Nat.reduceLeDiff, Nat.reduceLT, Nat.reduceSub]
          refine hK11 _ ?_
          clear hK11
          refine aw_cond (t := true) rfl (fun _ => ?_) (fun h => nomatch h)
          refine aw_ops zT fun K12 hK12 => ?_
          simp only [amset, amlib, zset, eq_self, ↓reduceIte, reduceCtorEq, Nat.reduceBEq, Nat.reduceEqDiff, Nat.reduceAdd, Nat.reduceMul, Nat.reduceLeDiff, Nat.reduceLT, Nat.reduceSub]
          refine hK12 _ ?_
          clear hK12
          refine aw_ret ?_
          try show resOf zG _ [.tmp 4] = some _ ∧ _ ∧ _
          simp only [amset, amlib, zset, eq_self, ↓reduceIte, reduceCtorEq, Nat.reduceBEq, Nat.reduceEqDiff, Nat.reduceAdd, Nat.reduceMul, Nat.reduceLeDiff, Nat.reduceLT, Nat.reduceSub]
          have hf : decide (k + (stmL l).length ≤ m) = false := by rw [decide_eq_false_iff_not]; simp at y2; omega
          rw [hf]
          simp only [y0, y1, y2, Bool.false_eq_true, ↓reduceIte, and_self]
      | false =>
        simp only [amset, amlib, zset, y0, y1, eq_self, ↓reduceIte, reduceCtorEq, Nat.reduceBEq, Nat.reduceEqDiff, Nat.reduceAdd, Nat.reduceMul, Nat.reduceLeDiff, Nat.reduceLT, Nat.reduceSub]
        refine ⟨_, _, hyl, ?_⟩
        simp only [later]
        simp only [amset, amlib, zset, y0, y1, eq_self, ↓reduceIte, reduceCtorEq, Nat.reduceBEq, Nat.reduceEqDiff, Nat.reduceAdd, Nat.reduceMul, Nat.reduceLeDiff, Nat.reduceLT, Nat.reduceSub]
        refine ⟨_, _, ih y.body (sizeOf_body hmem) _ (by simp at y0; omega) hs2, ?_⟩
        simp only [later]
        simp only [amset, amlib, zset, y0, y1, eq_self, ↓reduceIte, reduceCtorEq, Nat.reduceBEq, Nat.reduceEqDiff, Nat.reduceAdd, Nat.reduceMul, Nat.reduceLeDiff, Nat.reduceLT, Nat.reduceSub]
        refine hK11 _ ?_
        clear hK11
        refine aw_cond (t := true) rfl (fun _ => ?_) (fun h => nomatch h)
        refine aw_ops zT fun K13 hK13 => ?_
        simp only [amset, amlib, zset, eq_self, ↓reduceIte, reduceCtorEq, Nat.reduceBEq, Nat.reduceEqDiff, Nat.reduceAdd, Nat.reduceMul, Nat.reduceLeDiff, Nat.reduceLT, Nat.reduceSub]
        refine hK13 _ ?_
        clear hK13
        refine aw_ret ?_
        try show resOf zG _ [.tmp 4] = some _ ∧ _ ∧ _
        simp only [amset, amlib, zset, eq_self, ↓reduceIte, reduceCtorEq, Nat.reduceBEq, Nat.reduceEqDiff, Nat.reduceAdd, Nat.reduceMul, Nat.reduceLeDiff, Nat.reduceLT, Nat.reduceSub]
        have hf : decide (k + (stmL l).length ≤ m) = false := by rw [decide_eq_false_iff_not]; simp at y1; omega
        rw [hf]
        simp only [y0, y1, Bool.false_eq_true, ↓reduceIte, and_self]
    | false =>
      simp only [amset, amlib, zset, y0, eq_self, ↓reduceIte, reduceCtorEq, Nat.reduceBEq, Nat.reduceEqDiff, Nat.reduceAdd, Nat.reduceMul, Nat.reduceLeDiff, Nat.reduceLT, Nat.reduceSub]
      refine ⟨_, _, hyl, ?_⟩
      simp only [later]
      simp only [amset, amlib, zset, y0, eq_self, ↓reduceIte, reduceCtorEq, Nat.reduceBEq, Nat.reduceEqDiff, Nat.reduceAdd, Nat.reduceMul, Nat.reduceLeDiff, Nat.reduceLT, Nat.reduceSub]
      refine hK11 _ ?_
      clear hK11
      refine aw_cond (t := true) rfl (fun _ => ?_) (fun h => nomatch h)
      refine aw_ops zT fun K14 hK14 => ?_
      simp only [amset, amlib, zset, eq_self, ↓reduceIte, reduceCtorEq, Nat.reduceBEq, Nat.reduceEqDiff, Nat.reduceAdd, Nat.reduceMul, Nat.reduceLeDiff, Nat.reduceLT, Nat.reduceSub]
      refine hK14 _ ?_
      clear hK14
      refine aw_ret ?_
      try show resOf zG _ [.tmp 4] = some _ ∧ _ ∧ _
      simp only [amset, amlib, zset, eq_self, ↓reduceIte, reduceCtorEq, Nat.reduceBEq, Nat.reduceEqDiff, Nat.reduceAdd, Nat.reduceMul, Nat.reduceLeDiff, Nat.reduceLT, Nat.reduceSub]
      have hf : decide (k + (stmL l).length ≤ m) = false := by rw [decide_eq_false_iff_not]; simp at y0; omega
      rw [hf]
      simp only [y0, Bool.false_eq_true, ↓reduceIte, and_self]
theorem holds117 (v : Value) (xs : List A) (p : Nat → OP) (m : Nat) (ps : OP) (hy : YSeq v xs p m ps) (hp : ∀ i, Stab (p i)) (hps : Stab ps) (l : List St) (k : Nat) (hk : k ≤ m) (hseg : Seg encS xs k (stmL l)) : HoldsO Tryz.prog zG 117 [.c (.sl 7 (encSs l)), .c (.val v)] (p k) (some [.c (.bool (decide (k + (stmL l).length ≤ m)))]) (if decide (k + (stmL l).length ≤ m) = true then p (k + (stmL l).length) else ps) :=
  step117 v xs p m ps hy hp hps l k hk hseg fun l2 h2 k hk hs => holds117 v xs p m ps hy hp hps l2 k hk hs
  termination_by SizeOf.sizeOf l
  decreasing_by exact h2
end Go.Proofs.Am
set_option maxRecDepth 100000
set_option maxHeartbeats 4000000
namespace Go.Proofs.Am
theorem sizeOf_args' {x : Ex} {l : List Ex} (h : x ∈ l) : SizeOf.sizeOf x.args < SizeOf.sizeOf l := by
  have h1 := List.sizeOf_lt_of_mem h
  have h2 : SizeOf.sizeOf x.args < SizeOf.sizeOf x := by cases x; simp [Ex.args]; omega
  omega
theorem prog119 : Tryz.prog.funcs[119]? = some Tryz.f119 := by kernel_rfl
theorem step119 (v : Value) (xs : List A) (p : Nat → OP) (m : Nat) (ps : OP) (hy : YSeq v xs p m ps) (hp : ∀ i, Stab (p i)) (hps : Stab ps) (l : List Ex) (k : Nat) (hk : k ≤ m) (hseg : Seg encE xs k (subL l)) (ih : ∀ l2 : List Ex, SizeOf.sizeOf l2 < SizeOf.sizeOf l → ∀ k, k ≤ m → Seg encE xs k (subL l2) → HoldsO Tryz.prog zG 119 [.c (.sl 6 (encEs l2)), .c (.val v)] (p k) (some [.c (.bool (decide (k + (subL l2).length ≤ m)))]) (if decide (k + (subL l2).length ≤ m) = true then p (k + (subL l2).length) else ps)) : HoldsO Tryz.prog zG 119 [.c (.sl 6 (encEs l)), .c (.val v)] (p k) (some [.c (.bool (decide (k + (subL l).length ≤ m)))]) (if decide (k + (subL l).length ≤ m) = true then p (k + (subL l).length) else ps) := by
  refine holdsO_of_body zT prog119 rfl rfl rfl (by simp [Tryz.f119]) (hp k) (by split; exact hp _; exact hps) ?_
  refine aw_ops zT fun K1 hK1 => ?_
  simp only [amset, amlib, zset, eq_self, ↓reduceIte, reduceCtorEq, Nat.reduceBEq, Nat.reduceEqDiff, Nat.reduceAdd, Nat.reduceMul, Nat.reduceLeDiff, Nat.reduceLT, Nat.reduceSub]
  refine hK1 _ ?_
  clear hK1
  refine aw_seq fun K2 hK2 => ?_
  refine aw_ops zT fun K3 hK3 => ?_
  simp only [amset, amlib, zset, eq_self, ↓reduceIte, reduceCtorEq, Nat.reduceBEq, Nat.reduceEqDiff, Nat.reduceAdd, Nat.reduceMul, Nat.reduceLeDiff, Nat.reduceLT, Nat.reduceSub]
  intros
  refine hK3 _ ?_
  clear hK3
  refine aw_block ?_
  refine aw_range (α := Ex) (l) (fun dn => k + (subL dn).length ≤ m) (fun dn => [(9, .cell (.c (.int .i64 dn.length)))]) (fun dn => [(1000000, [.objst (p (k + (subL dn).length))])]) [] [4, 6, 9, 10, 11, 12, 13, 14, 15, 16, 17, 18, 19, 20, 21, 22, 23, 24] [6, 1000000] (by simpa [subL] using hk) ?_ ?_ ?_ ?_
  · simp only [amset, amlib, zset, eq_self, ↓reduceIte, reduceCtorEq, Nat.reduceBEq, Nat.reduceEqDiff, Nat.reduceAdd, Nat.reduceMul, Nat.reduceLeDiff, Nat.reduceLT, Nat.reduceSub] <;> simp [subL_append, subL, subE_eq, List.length_append, List.length_cons, List.length_nil, List.append_nil, Nat.add_assoc, Nat.add_comm, Nat.add_left_comm, Nat.add_zero]
  · simp only [amset, amlib, zset, eq_self, ↓reduceIte, reduceCtorEq, Nat.reduceBEq, Nat.reduceEqDiff, Nat.reduceAdd, Nat.reduceMul, Nat.reduceLeDiff, Nat.reduceLT, Nat.reduceSub] <;> simp [subL_append, subL, subE_eq, List.length_append, List.length_cons, List.length_nil, List.append_nil, Nat.add_assoc, Nat.add_comm, Nat.add_left_comm, Nat.add_zero]
  · intro hI R
    refine aw_norm (by simp only [amset, amlib, zset, eq_self, ↓reduceIte, reduceCtorEq, Nat.reduceBEq, Nat.reduceEqDiff, Nat.reduceAdd, Nat.reduceMul, Nat.reduceLeDiff, Nat.reduceLT, Nat.reduceSub]; exact rfl) ?_
    refine aw_ops zT fun K4 hK4 => ?_
    simp only [amset, amlib, zset, eq_self, ↓reduceIte, reduceCtorEq, Nat.reduceBEq, Nat.reduceEqDiff, Nat.reduceAdd, Nat.reduceMul, Nat.reduceLeDiff, Nat.reduceLT, Nat.reduceSub]
    refine hK4 _ ?_
    clear hK4
    refine aw_seq fun K5 hK5 => ?_
    refine aw_cond (t := false) (by simp [evalO, S.get, amLook]) (fun h => nomatch h) (fun _ => ?_)
    refine aw_exit ?_
    simp only [thenQ, blkQ, if_true, reduceIte, Nat.reduceEqDiff, eq_self]
    refine hK2 _ ?_
    clear hK2
    refine aw_ops zT fun K6 hK6 => ?_
    simp only [amset, amlib, zset, eq_self, ↓reduceIte, reduceCtorEq, Nat.reduceBEq, Nat.reduceEqDiff, Nat.reduceAdd, Nat.reduceMul, Nat.reduceLeDiff, Nat.reduceLT, Nat.reduceSub]
    refine hK6 _ ?_
    clear hK6
    refine aw_ret ?_
    try show resOf zG _ [.tmp 4] = some _ ∧ _ ∧ _
    simp only [amset, amlib, zset, eq_self, ↓reduceIte, reduceCtorEq, Nat.reduceBEq, Nat.reduceEqDiff, Nat.reduceAdd, Nat.reduceMul, Nat.reduceLeDiff, Nat.reduceLT, Nat.reduceSub]
    rw [decide_eq_true hI]
    simp only [↓reduceIte, and_self]
  · intro dn y td harg hI R hR
    have hl : (l).length = dn.length + (td.length + 1) := by rw [harg]; simp
    have hmem : y ∈ l := by rw [harg]; simp
    refine aw_norm (by simp only [amset, amlib, zset, eq_self, ↓reduceIte, reduceCtorEq, Nat.reduceBEq, Nat.reduceEqDiff, Nat.reduceAdd, Nat.reduceMul, Nat.reduceLeDiff, Nat.reduceLT, Nat.reduceSub]; exact rfl) ?_
    have hget : (encEs (l)).getD dn.length [] = encE y := by rw [harg]; exact encEs_mid dn td y
    have hseg2 := hseg
    rw [harg, subL_append, subL, subE_eq] at hseg2
    have hs0 := Seg.right hseg2
    have hs1 := Seg.left hs0
    have hyl := (hy.at (k := k + (subL dn).length) hI (Seg.head hs1))
    rw [encE_eq] at hyl
    have hs2 := Seg.tail hs1
    have hlen : (subL l).length = (subL dn).length + (1 + (subL y.args).length + (subL td).length) := by rw [harg, subL_append, subL, subE_eq]; simp only [List.length_append, List.length_cons]; omega
    refine aw_ops zT fun K7 hK7 => ?_
    simp only [amset, amlib, zset, eq_self, ↓reduceIte, reduceCtorEq, Nat.reduceBEq, Nat.reduceEqDiff, Nat.reduceAdd, Nat.reduceMul, Nat.reduceLeDiff, Nat.reduceLT, Nat.reduceSub]
    refine hK7 _ ?_
    clear hK7
    refine aw_seq fun K8 hK8 => ?_
    refine aw_cond (t := true) (by simp [evalO, S.get, amLook]; omega) (fun _ => ?_) (fun h => nomatch h)
    refine aw_skip ?_
    simp only [thenQ, blkQ, if_true, reduceIte, Nat.reduceEqDiff, eq_self]
    refine hK8 _ ?_
    clear hK8
    refine aw_seq fun K9 hK9 => ?_
    refine aw_block ?_
    refine aw_ops zT fun K10 hK10 => ?_
    simp only [amset, amlib, zset, hget, eq_self, ↓reduceIte, reduceCtorEq, Nat.reduceBEq, Nat.reduceEqDiff, Nat.reduceAdd, Nat.reduceMul, Nat.reduceLeDiff, Nat.reduceLT, Nat.reduceSub]
    refine ⟨⟨by omega, by omega⟩, ?_⟩
    refine hK10 _ ?_
    clear hK10
    refine aw_ops zT fun K11 hK11 => ?_
    cases y0 : decide (k + (subL dn).length < m) with
    | true =>
      cases y1 : decide (k + (subL dn).length + 1 + (subL y.args).length ≤ m) with
      | true =>
        simp only [amset, amlib, zset, y0, y1, eq_self, ↓reduceIte, reduceCtorEq, Nat.reduceBEq, Nat.reduceEqDiff, Nat.reduceAdd, Nat.reduceMul, Nat.reduceLeDiff, Nat.reduceLT, Nat.reduceSub]
        refine ⟨_, _, hyl, ?_⟩
        simp only [later]
        simp only [amset, amlib, zset, y0, y1, eq_self, ↓reduceIte, reduceCtorEq, Nat.reduceBEq, Nat.reduceEqDiff, Nat.reduceAdd, Nat.reduceMul, Nat.reduceLeDiff, Nat.reduceLT, Nat.reduceSub]
        refine ⟨_, _, ih y.args (sizeOf_args' hmem) _ (by simp at y0; omega) hs2, ?_⟩
        simp only [later]
        simp only [amset, amlib, zset, y0, y1, eq_self, ↓reduceIte, reduceCtorEq, Nat.reduceBEq, Nat.reduceEqDiff, Nat.reduceAdd, Nat.reduceMul, Nat.reduceLeDiff, Nat.reduceLT, Nat.reduceSub]
        refine hK11 _ ?_
        clear hK11
        refine aw_cond (t := false) rfl (fun h => nomatch h) (fun _ => ?_)
        refine aw_skip ?_
        simp only [thenQ, blkQ, if_true, reduceIte, Nat.reduceEqDiff, eq_self]
        refine hK9 _ ?_
        clear hK9
        refine aw_region zT ?_
        simp only [amset, amlib, zset, eq_self, ↓reduceIte, reduceCtorEq, Nat.reduceBEq, Nat.reduceEqDiff, Nat.reduceAdd, Nat.reduceMul, Nat.reduceLeDiff, Nat.reduceLT, Nat.reduceSub]
        refine ⟨⟨by omega, by omega⟩, ?_⟩
        refine hR _ (by simp only [subL_append, subL, subE_eq, List.length_append, List.length_cons, List.length_nil]; simp at y1; omega) ?_
        refine Reach.to ?_ ?_
        · simp only [amset, amlib, zset, eq_self, ↓reduceIte, reduceCtorEq, Nat.reduceBEq, Nat.reduceEqDiff, Nat.reduceAdd, Nat.reduceMul, Nat.reduceLeDiff, Nat.reduceLT, Nat.reduceSub] <;> simp [subL_append, subL, subE_eq, List.length_append, List.length_cons, List.length_nil, List.append_nil, Nat.add_assoc, Nat.add_comm, Nat.add_left_comm, Nat.add_zero]
        · simp only [amset, amlib, zset, eq_self, ↓reduceIte, reduceCtorEq, Nat.reduceBEq, Nat.reduceEqDiff, Nat.reduceAdd, Nat.reduceMul, Nat.reduceLeDiff, Nat.reduceLT, Nat.reduceSub] <;> simp [subL_append, subL, subE_eq, List.length_append, List.length_cons, List.length_nil, List.append_nil, Nat.add_assoc, Nat.add_comm, Nat.add_left_comm, Nat.add_zero]
      | false =>
        simp only [amset, amlib, zset, y0, y1, eq_self, ↓reduceIte, reduceCtorEq, Nat.reduceBEq, Nat.reduceEqDiff, Nat.reduceAdd, Nat.reduceMul, Nat.reduceLeDiff, Nat.reduceLT, Nat.reduceSub]
        refine ⟨_, _, hyl, ?_⟩
        simp only [later]
        simp only [amset, amlib, zset, y0, y1, eq_self, ↓reduceIte, reduceCtorEq, Nat.reduceBEq, Nat.reduceEqDiff, Nat.reduceAdd, Nat.reduceMul, Nat.reduceLeDiff, Nat.reduceLT, Nat.reduceSub]
        refine ⟨_, _, ih y.args (sizeOf_args' hmem) _ (by simp at y0; omega) hs2, ?_⟩
        simp only [later]
        simp only [amset, amlib, zset, y0, y1, eq_self, ↓reduceIte, reduceCtorEq, Nat.reduceBEq, Nat.reduceEqDiff, Nat.reduceAdd, Nat.reduceMul, Nat.reduceLeDiff, Nat.reduceLT, Nat.reduceSub]
        refine hK11 _ ?_
        clear hK11
        refine aw_cond (t := true) rfl (fun _ => ?_) (fun h => nomatch h)
        refine aw_ops zT fun K12 hK12 => ?_
        simp only [amset, amlib, zset, eq_self, ↓reduceIte, reduceCtorEq, Nat.reduceBEq, Nat.reduceEqDiff, Nat.reduceAdd, Nat.reduceMul, Nat.reduceLeDiff, Nat.reduceLT, Nat.reduceSub]
        refine hK12 _ ?_
        clear hK12
        refine aw_ret ?_
        try show resOf zG _ [.tmp 4] = some _ ∧ _ ∧ _
        simp only [amset, amlib, zset, eq_self, ↓reduceIte, reduceCtorEq, Nat.reduceBEq, Nat.reduceEqDiff, Nat.reduceAdd, Nat.reduceMul, Nat.reduceLeDiff, Nat.reduceLT, Nat.reduceSub]
        have hf : decide (k + (subL l).length ≤ m) = false := by rw [decide_eq_false_iff_not]; simp at y1; omega
        rw [hf]
        simp only [y0, y1, Bool.false_eq_true, ↓reduceIte, and_self]
    | false =>
      simp only [amset, amlib, zset, y0, eq_self, ↓reduceIte, reduceCtorEq, Nat.reduceBEq, Nat.reduceEqDiff, Nat.reduceAdd, Nat.reduceMul, Nat.reduceLeDiff, Nat.reduceLT, Nat.reduceSub]
      refine ⟨_, _, hyl, ?_⟩
      simp only [later]
      simp only [amset, amlib, zset, y0, eq_self, ↓reduceIte, reduceCtorEq, Nat.reduceBEq, Nat.reduceEqDiff, Nat.reduceAdd, Nat.reduceMul, Nat.reduceLeDiff, Nat.reduceLT, Nat.reduceSub]
      refine hK11 _ ?_
      clear hK11
      refine aw_cond (t := true) rfl (fun _ => ?_) (fun h => nomatch h)
      refine aw_ops zT fun K13 hK13 => ?_
      simp only [amset, amlib, zset, eq_self, ↓reduceIte, reduceCtorEq, Nat.reduceBEq, Nat.reduceEqDiff, Nat.reduceAdd, Nat.reduceMul, Nat.reduceLeDiff, Nat.reduceLT, Nat.reduceSub]
      refine hK13 _ ?_
      clear hK13
      refine aw_ret ?_
      try show resOf zG _ [.tmp 4] = some _ ∧ _ ∧ _
      simp only [amset, amlib, zset, eq_self, ↓reduceIte, reduceCtorEq, Nat.reduceBEq, Nat.reduceEqDiff, Nat.reduceAdd, Nat.reduceMul, Nat.reduceLeDiff, Nat.reduceLT, Nat.reduceSub]
      have hf : decide (k + (subL l).length ≤ m) = false := by rw [decide_eq_false_iff_not]; simp at y0; omega
      rw [hf]
      simp only [y0, Bool.false_eq_true, ↓reduceIte, and_self]
theorem holds119 (v : Value) (xs : List A) (p : Nat → OP) (m : Nat) (ps : OP) (hy : YSeq v xs p m ps) (hp : ∀ i, Stab (p i)) (hps : Stab ps) (l : List Ex) (k : Nat) (hk : k ≤ m) (hseg : Seg encE xs k (subL l)) : HoldsO Tryz.prog zG 119 [.c (.sl 6 (encEs l)), .c (.val v)] (p k) (some [.c (.bool (decide (k + (subL l).length ≤ m)))]) (if decide (k + (subL l).length ≤ m) = true then p (k + (subL l).length) else ps) :=
  step119 v xs p m ps hy hp hps l k hk hseg fun l2 h2 k hk hs => holds119 v xs p m ps hy hp hps l2 k hk hs
  termination_by SizeOf.sizeOf l
  decreasing_by exact h2
end Go.Proofs.Am
set_option maxRecDepth 100000
set_option maxHeartbeats 4000000
namespace Go.Proofs.Am
theorem prog42 : Tryz.prog.funcs[42]? = some Tryz.f42 := by kernel_rfl
theorem holds42 (l : List St) : Holds Tryz.prog zG 42 [.c (.sl 7 (encSs l))] [.c (.clo 116 [.sl 7 (encSs l)])] := by
  refine holds_of_body zT prog42 rfl rfl rfl (by simp [Tryz.f42]) ?_
  refine aw_ops zT fun K1 hK1 => ?_
  simp only [amset, amlib, zset, eq_self, ↓reduceIte, reduceCtorEq, Nat.reduceBEq, Nat.reduceEqDiff, Nat.reduceAdd, Nat.reduceMul, Nat.reduceLeDiff, Nat.reduceLT, Nat.reduceSub]
  refine hK1 _ ?_
  clear hK1
  refine aw_ops zT fun K2 hK2 => ?_
  simp only [amset, amlib, zset, eq_self, ↓reduceIte, reduceCtorEq, Nat.reduceBEq, Nat.reduceEqDiff, Nat.reduceAdd, Nat.reduceMul, Nat.reduceLeDiff, Nat.reduceLT, Nat.reduceSub]
  refine hK2 _ ?_
  clear hK2
  refine aw_seal 2 1 (f := 116) (x := .sl 7 (encSs l)) (by simp only [amset, amlib, zset, eq_self, ↓reduceIte, reduceCtorEq, Nat.reduceBEq, Nat.reduceEqDiff, Nat.reduceAdd, Nat.reduceMul, Nat.reduceLeDiff, Nat.reduceLT, Nat.reduceSub]) (by simp only [amset, amlib, zset, eq_self, ↓reduceIte, reduceCtorEq, Nat.reduceBEq, Nat.reduceEqDiff, Nat.reduceAdd, Nat.reduceMul, Nat.reduceLeDiff, Nat.reduceLT, Nat.reduceSub]) ?_
  refine aw_ret ?_
  show resOf zG _ [.tmp 2] = some _
  simp only [amset, amlib, zset, eq_self, ↓reduceIte, reduceCtorEq, Nat.reduceBEq, Nat.reduceEqDiff, Nat.reduceAdd, Nat.reduceMul, Nat.reduceLeDiff, Nat.reduceLT, Nat.reduceSub]
theorem prog44 : Tryz.prog.funcs[44]? = some Tryz.f44 := by kernel_rfl
theorem holds44 (l : List St) : Holds Tryz.prog zG 44 [.c (.sl 7 (encSs l))] [.c (.clo 118 [.sl 7 (encSs l)])] := by
  refine holds_of_body zT prog44 rfl rfl rfl (by simp [Tryz.f44]) ?_
  refine aw_ops zT fun K1 hK1 => ?_
  simp only [amset, amlib, zset, eq_self, ↓reduceIte, reduceCtorEq, Nat.reduceBEq, Nat.reduceEqDiff, Nat.reduceAdd, Nat.reduceMul, Nat.reduceLeDiff, Nat.reduceLT, Nat.reduceSub]
  refine hK1 _ ?_
  clear hK1
  refine aw_ops zT fun K2 hK2 => ?_
  simp only [amset, amlib, zset, eq_self, ↓reduceIte, reduceCtorEq, Nat.reduceBEq, Nat.reduceEqDiff, Nat.reduceAdd, Nat.reduceMul, Nat.reduceLeDiff, Nat.reduceLT, Nat.reduceSub]
  refine hK2 _ ?_
  clear hK2
  refine aw_seal 2 1 (f := 118) (x := .sl 7 (encSs l)) (by simp only [amset, amlib, zset, eq_self, ↓reduceIte, reduceCtorEq, Nat.reduceBEq, Nat.reduceEqDiff, Nat.reduceAdd, Nat.reduceMul, Nat.reduceLeDiff, Nat.reduceLT, Nat.reduceSub]) (by simp only [amset, amlib, zset, eq_self, ↓reduceIte, reduceCtorEq, Nat.reduceBEq, Nat.reduceEqDiff, Nat.reduceAdd, Nat.reduceMul, Nat.reduceLeDiff, Nat.reduceLT, Nat.reduceSub]) ?_
  refine aw_ret ?_
  show resOf zG _ [.tmp 2] = some _
  simp only [amset, amlib, zset, eq_self, ↓reduceIte, reduceCtorEq, Nat.reduceBEq, Nat.reduceEqDiff, Nat.reduceAdd, Nat.reduceMul, Nat.reduceLeDiff, Nat.reduceLT, Nat.reduceSub]
theorem prog116 : Tryz.prog.funcs[116]? = some Tryz.f116 := by kernel_rfl
theorem holds116 (v : Value) (xs : List A) (p : Nat → OP) (m : Nat) (ps : OP) (hy : YSeq v xs p m ps) (hp : ∀ i, Stab (p i)) (hps : Stab ps) (l : List St) (hseg : Seg encS xs 0 (stmL l)) : HoldsO Tryz.prog zG 116 [.c (.val v), .ref [.sl 7 (encSs l)]] (p 0) (some []) (if decide (0 + (stmL l).length ≤ m) = true then p (0 + (stmL l).length) else ps) := by
  refine holdsO_of_body zT prog116 rfl rfl rfl (by simp [Tryz.f116]) (hp 0) (by split; exact hp _; exact hps) ?_
  refine aw_region zT ?_
  simp only [amset, amlib, zset, eq_self, ↓reduceIte, reduceCtorEq, Nat.reduceBEq, Nat.reduceEqDiff, Nat.reduceAdd, Nat.reduceMul, Nat.reduceLeDiff, Nat.reduceLT, Nat.reduceSub]
  refine ⟨_, _, holds117 v xs p m ps hy hp hps l 0 (Nat.zero_le m) hseg, ?_⟩
  simp only [later]
  simp only [amset, amlib, zset, eq_self, ↓reduceIte, reduceCtorEq, Nat.reduceBEq, Nat.reduceEqDiff, Nat.reduceAdd, Nat.reduceMul, Nat.reduceLeDiff, Nat.reduceLT, Nat.reduceSub]
  try show resOf zG _ [] = some _ ∧ _ ∧ _
  try simp only [amset, amlib, zset, eq_self, ↓reduceIte, reduceCtorEq, Nat.reduceBEq, Nat.reduceEqDiff, Nat.reduceAdd, Nat.reduceMul, Nat.reduceLeDiff, Nat.reduceLT, Nat.reduceSub]
  all_goals first | exact ⟨rfl, trivial, rfl⟩ | exact ⟨rfl, trivial⟩ | rfl
theorem seg_all {α : Type} (e : α → List C) (L : List α) : Seg e (L.map fun z => A.agg (e z)) 0 L := fun i z hz => by
  rw [Nat.zero_add, List.getElem?_map, hz]; rfl
theorem iter116 (l : List St) : IterOk Tryz.prog zG 116 [.sl 7 (encSs l)] ((stmL l).map fun z => .agg (encS z)) := by
  intro v p m ps hp hps _ _ hm hy hs
  have h := holds116 v _ p m ps ⟨hy, hs⟩ hp hps l (seg_all encS (stmL l))
  rw [List.length_map] at hm ⊢
  by_cases hl : m < (stmL l).length
  · rw [if_pos hl]
    rw [decide_eq_false (by omega), if_neg (by simp)] at h
    exact h
  · rw [if_neg hl]
    obtain rfl : m = (stmL l).length := by omega
    rw [decide_eq_true (by omega), if_pos rfl, Nat.zero_add] at h
    exact h
theorem fnOk116 : FnOk Tryz.prog 116 := ⟨Tryz.f116, by kernel_rfl, rfl, by rfl⟩
theorem fnOk118 : FnOk Tryz.prog 118 := ⟨Tryz.f118, by kernel_rfl, rfl, by rfl⟩
end Go.Proofs.Am
set_option maxRecDepth 100000
set_option maxHeartbeats 4000000
namespace Go.Proofs.Am
theorem stop_at (c : Nat → Nat) (m : Nat) (h0 : c 0 ≤ m) : ∀ n, ∃ M, M ≤ n ∧ c M ≤ m ∧ (M < n → m < c (M + 1)) := by
  intro n
  induction n with
  | zero => exact ⟨0, Nat.le_refl _, h0, fun h => absurd h (Nat.lt_irrefl _)⟩
  | succ n ih =>
    obtain ⟨M, h1, h2, h3⟩ := ih
    by_cases hM : M < n
    · exact ⟨M, by omega, h2, fun _ => h3 hM⟩
    · obtain rfl : M = n := by omega
      by_cases hc : c (M + 1) ≤ m
      · exact ⟨M + 1, Nat.le_refl _, hc, fun h => absurd h (Nat.lt_irrefl _)⟩
      · exact ⟨M, by omega, h2, fun _ => by omega⟩
/-- How many expressions the first statements hold. -/
def cntX (L : List St) (i : Nat) : Nat := (allL (L.take i)).length
theorem take_get {α : Type} {L : List α} {i : Nat} {z : α} (h : L[i]? = some z) : L = L.take i ++ z :: L.drop (i + 1) ∧ L.take (i + 1) = L.take i ++ [z] := by
  obtain ⟨hi, he⟩ := List.getElem?_eq_some_iff.1 h
  constructor
  · conv => lhs; rw [← List.take_append_drop i L]
    rw [List.drop_eq_getElem_cons hi, he]
  · rw [List.take_add_one, h]; rfl
theorem cntX_succ {L : List St} {i : Nat} {z : St} (h : L[i]? = some z) : cntX L (i + 1) = cntX L i + (subL z.args).length := by
  unfold cntX
  rw [(take_get h).2, allL_append, List.length_append]
  simp [allL]
theorem seg_at {L : List St} {xs : List A} (hs : Seg encE xs 0 (allL L)) {i : Nat} {z : St} (h : L[i]? = some z) : Seg encE xs (cntX L i) (subL z.args) := by
  rw [(take_get h).1, allL_append] at hs
  have h1 := Seg.right hs
  rw [Nat.zero_add] at h1
  have e : allL (z :: L.drop (i + 1)) = subL z.args ++ allL (L.drop (i + 1)) := rfl
  rw [e] at h1
  exact Seg.left h1
theorem cntX_mono (L : List St) : ∀ i j, i ≤ j → cntX L i ≤ cntX L j := by
  intro i j h
  obtain ⟨k, rfl⟩ := Nat.exists_eq_add_of_le h
  unfold cntX
  rw [List.take_add, allL_append, List.length_append]
  omega
theorem prog118 : Tryz.prog.funcs[118]? = some Tryz.f118 := by kernel_rfl
theorem holds118 (v : Value) (xs : List A) (p : Nat → OP) (m : Nat) (ps : OP) (hy : YSeq v xs p m ps) (hp : ∀ i, Stab (p i)) (hps : Stab ps) (l : List St) (hseg : Seg encE xs 0 (allL (stmL l))) (hm : m ≤ (allL (stmL l)).length) (M : Nat) (hM1 : M ≤ (stmL l).length) (hM2 : cntX (stmL l) M ≤ m) (hM3 : M < (stmL l).length → m < cntX (stmL l) (M + 1)) : HoldsO Tryz.prog zG 118 [.c (.val v), .ref [.sl 7 (encSs l)]] (p 0) (some []) (if m < (allL (stmL l)).length then ps else p m) := by
  refine holdsOM_of_body zTm prog118 rfl rfl rfl rfl (by simp [Tryz.f118]) (hp 0) (by split; exact hps; exact hp _) ?_
  have hc0 : cntX (stmL l) 0 = 0 := rfl
  have htot : cntX (stmL l) (stmL l).length = (allL (stmL l)).length := by unfold cntX; rw [List.take_length]
  refine aw_ops zTm fun K1 hK1 => ?_
  simp only [amset, amlib, zset, eq_self, ↓reduceIte, reduceCtorEq, Nat.reduceBEq, Nat.reduceEqDiff, Nat.reduceAdd, Nat.reduceMul, Nat.reduceLeDiff, Nat.reduceLT, Nat.reduceSub]
  refine hK1 _ ?_
  clear hK1
  refine aw_ops zTm fun K2 hK2 => ?_
  simp only [amset, amlib, zset, eq_self, ↓reduceIte, reduceCtorEq, Nat.reduceBEq, Nat.reduceEqDiff, Nat.reduceAdd, Nat.reduceMul, Nat.reduceLeDiff, Nat.reduceLT, Nat.reduceSub]
  refine ⟨_, holds42 l, ?_⟩
  simp only [later]
  simp only [amset, amlib, zset, eq_self, ↓reduceIte, reduceCtorEq, Nat.reduceBEq, Nat.reduceEqDiff, Nat.reduceAdd, Nat.reduceMul, Nat.reduceLeDiff, Nat.reduceLT, Nat.reduceSub]
  refine hK2 _ ?_
  clear hK2
  refine aw_block ?_
  refine aw_ghost 101 2 (by simp only [amset, amlib, zset, eq_self, ↓reduceIte, reduceCtorEq, Nat.reduceBEq, Nat.reduceEqDiff, Nat.reduceAdd, Nat.reduceMul, Nat.reduceLeDiff, Nat.reduceLT, Nat.reduceSub]; exact rfl) (by decide) (by decide) fun b2 => ?_
  refine aw_rangeFunc (G := zG) rfl (f := 116) (caps := [.sl 7 (encSs l)]) (env0 := [(101, .at 2 b2), (2, .ptr 2 0)]) (gh := [(101, .at 2 b2)]) (fun _ => [(2, [.c (.val v)])]) (fun i => p (cntX (stmL l) i)) M ((stmL l).map fun z => .agg (encS z)) ps [(2, [.c (.val v)])] rfl rfl (by decide) (by simp only [amset, amlib, zset, eq_self, ↓reduceIte, reduceCtorEq, Nat.reduceBEq, Nat.reduceEqDiff, Nat.reduceAdd, Nat.reduceMul, Nat.reduceLeDiff, Nat.reduceLT, Nat.reduceSub]) fnOk116 (iter116 l) (by rw [List.length_map]; exact hM1) (fun i => hp _) hps (by simp only [amset, amlib, zset, eq_self, ↓reduceIte, reduceCtorEq, Nat.reduceBEq, Nat.reduceEqDiff, Nat.reduceAdd, Nat.reduceMul, Nat.reduceLeDiff, Nat.reduceLT, Nat.reduceSub]) (by simp only [amset, amlib, zset, eq_self, ↓reduceIte, reduceCtorEq, Nat.reduceBEq, Nat.reduceEqDiff, Nat.reduceAdd, Nat.reduceMul, Nat.reduceLeDiff, Nat.reduceLT, Nat.reduceSub]; exact hc0 ▸ rfl) (by simp only [amset, amlib, zset, eq_self, ↓reduceIte, reduceCtorEq, Nat.reduceBEq, Nat.reduceEqDiff, Nat.reduceAdd, Nat.reduceMul, Nat.reduceLeDiff, Nat.reduceLT, Nat.reduceSub]) (by simp only [amset, amlib, zset, eq_self, ↓reduceIte, reduceCtorEq, Nat.reduceBEq, Nat.reduceEqDiff, Nat.reduceAdd, Nat.reduceMul, Nat.reduceLeDiff, Nat.reduceLT, Nat.reduceSub]) (by simp only [amset, amlib, zset, eq_self, ↓reduceIte, reduceCtorEq, Nat.reduceBEq, Nat.reduceEqDiff, Nat.reduceAdd, Nat.reduceMul, Nat.reduceLeDiff, Nat.reduceLT, Nat.reduceSub]) (fun _ => by simp only [amset, amlib, zset, eq_self, ↓reduceIte, reduceCtorEq, Nat.reduceBEq, Nat.reduceEqDiff, Nat.reduceAdd, Nat.reduceMul, Nat.reduceLeDiff, Nat.reduceLT, Nat.reduceSub]) (by simp only [amset, amlib, zset, eq_self, ↓reduceIte, reduceCtorEq, Nat.reduceBEq, Nat.reduceEqDiff, Nat.reduceAdd, Nat.reduceMul, Nat.reduceLeDiff, Nat.reduceLT, Nat.reduceSub]) rfl ?_ ?_ ?_ ?_
  · intro i x hi hx
    obtain ⟨z, hz, rfl⟩ : ∃ z, (stmL l)[i]? = some z ∧ x = .agg (encS z) := by
      rw [List.getElem?_map, Option.map_eq_some_iff] at hx
      obtain ⟨z, h1, h2⟩ := hx
      exact ⟨z, h1, h2.symm⟩
    rw [encS_eq]
    intro r hr
    have hcs := cntX_succ hz
    have hsz := seg_at hseg hz
    have hle : cntX (stmL l) i ≤ m := by have := cntX_mono (stmL l) i M (by omega); omega
    have hT : decide (cntX (stmL l) i + (subL z.args).length ≤ m) = true := by rw [decide_eq_true_eq]; have := cntX_mono (stmL l) (i + 1) M (by omega); omega
    refine aw_region zT ?_
    simp only [amset, amlib, zset, eq_self, ↓reduceIte, reduceCtorEq, Nat.reduceBEq, Nat.reduceEqDiff, Nat.reduceAdd, Nat.reduceMul, Nat.reduceLeDiff, Nat.reduceLT, Nat.reduceSub]
    refine ⟨rfl, (by simp only [amset, amlib, zset, eq_self, ↓reduceIte, reduceCtorEq, Nat.reduceBEq, Nat.reduceEqDiff, Nat.reduceAdd, Nat.reduceMul, Nat.reduceLeDiff, Nat.reduceLT, Nat.reduceSub]), p (cntX (stmL l) i), hp _, (by simp only [amset, amlib, zset, eq_self, ↓reduceIte, reduceCtorEq, Nat.reduceBEq, Nat.reduceEqDiff, Nat.reduceAdd, Nat.reduceMul, Nat.reduceLeDiff, Nat.reduceLT, Nat.reduceSub]), fun r' hr' => ?_⟩
    refine aw_block ?_
    refine aw_ops zT fun K hK => ?_
    simp only [amset, amlib, zset, eq_self, ↓reduceIte, reduceCtorEq, Nat.reduceBEq, Nat.reduceEqDiff, Nat.reduceAdd, Nat.reduceMul, Nat.reduceLeDiff, Nat.reduceLT, Nat.reduceSub]
    refine ⟨_, _, HoldsO.frame (holds119 v xs p m ps hy hp hps z.args (cntX (stmL l) i) hle hsz) hr', ?_⟩
    simp only [later]
    simp only [amset, amlib, zset, hT, eq_self, ↓reduceIte, reduceCtorEq, Nat.reduceBEq, Nat.reduceEqDiff, Nat.reduceAdd, Nat.reduceMul, Nat.reduceLeDiff, Nat.reduceLT, Nat.reduceSub]
    refine hK _ ?_
    clear hK
    refine aw_cond (t := false) rfl (fun h => nomatch h) (fun _ => ?_)
    refine aw_skip ?_
    rw [hcs]
    refine ⟨rfl, (by simp only [amset, amlib, zset, eq_self, ↓reduceIte, reduceCtorEq, Nat.reduceBEq, Nat.reduceEqDiff, Nat.reduceAdd, Nat.reduceMul, Nat.reduceLeDiff, Nat.reduceLT, Nat.reduceSub]), (by simp only [amset, amlib, zset, eq_self, ↓reduceIte, reduceCtorEq, Nat.reduceBEq, Nat.reduceEqDiff, Nat.reduceAdd, Nat.reduceMul, Nat.reduceLeDiff, Nat.reduceLT, Nat.reduceSub]), (by simp only [amset, amlib, zset, eq_self, ↓reduceIte, reduceCtorEq, Nat.reduceBEq, Nat.reduceEqDiff, Nat.reduceAdd, Nat.reduceMul, Nat.reduceLeDiff, Nat.reduceLT, Nat.reduceSub]), (by simp only [amset, amlib, zset, eq_self, ↓reduceIte, reduceCtorEq, Nat.reduceBEq, Nat.reduceEqDiff, Nat.reduceAdd, Nat.reduceMul, Nat.reduceLeDiff, Nat.reduceLT, Nat.reduceSub])⟩
  · intro x hx
    obtain ⟨i, rfl⟩ : ∃ i, i = M := ⟨M, rfl⟩
    obtain ⟨z, hz, rfl⟩ : ∃ z, (stmL l)[i]? = some z ∧ x = .agg (encS z) := by
      rw [List.getElem?_map, Option.map_eq_some_iff] at hx
      obtain ⟨z, h1, h2⟩ := hx
      exact ⟨z, h1, h2.symm⟩
    rw [encS_eq]
    intro r hr
    have hcs := cntX_succ hz
    have hsz := seg_at hseg hz
    have hle : cntX (stmL l) i ≤ m := hM2
    have hT : decide (cntX (stmL l) i + (subL z.args).length ≤ m) = false := by rw [decide_eq_false_iff_not]; have h1 := (List.getElem?_eq_some_iff.1 hz).1; have := hM3 h1; omega
    refine aw_region zT ?_
    simp only [amset, amlib, zset, eq_self, ↓reduceIte, reduceCtorEq, Nat.reduceBEq, Nat.reduceEqDiff, Nat.reduceAdd, Nat.reduceMul, Nat.reduceLeDiff, Nat.reduceLT, Nat.reduceSub]
    refine ⟨rfl, (by simp only [amset, amlib, zset, eq_self, ↓reduceIte, reduceCtorEq, Nat.reduceBEq, Nat.reduceEqDiff, Nat.reduceAdd, Nat.reduceMul, Nat.reduceLeDiff, Nat.reduceLT, Nat.reduceSub]), p (cntX (stmL l) i), hp _, (by simp only [amset, amlib, zset, eq_self, ↓reduceIte, reduceCtorEq, Nat.reduceBEq, Nat.reduceEqDiff, Nat.reduceAdd, Nat.reduceMul, Nat.reduceLeDiff, Nat.reduceLT, Nat.reduceSub]), fun r' hr' => ?_⟩
    refine aw_block ?_
    refine aw_ops zT fun K hK => ?_
    simp only [amset, amlib, zset, eq_self, ↓reduceIte, reduceCtorEq, Nat.reduceBEq, Nat.reduceEqDiff, Nat.reduceAdd, Nat.reduceMul, Nat.reduceLeDiff, Nat.reduceLT, Nat.reduceSub]
    refine ⟨_, _, HoldsO.frame (holds119 v xs p m ps hy hp hps z.args (cntX (stmL l) i) hle hsz) hr', ?_⟩
    simp only [later]
    simp only [amset, amlib, zset, hT, eq_self, ↓reduceIte, reduceCtorEq, Nat.reduceBEq, Nat.reduceEqDiff, Nat.reduceAdd, Nat.reduceMul, Nat.reduceLeDiff, Nat.reduceLT, Nat.reduceSub]
    refine hK _ ?_
    clear hK
    refine aw_cond (t := true) rfl (fun _ => ?_) (fun h => nomatch h)
    refine aw_ret ?_
    refine ⟨rfl, (by simp only [amset, amlib, zset, eq_self, ↓reduceIte, reduceCtorEq, Nat.reduceBEq, Nat.reduceEqDiff, Nat.reduceAdd, Nat.reduceMul, Nat.reduceLeDiff, Nat.reduceLT, Nat.reduceSub]), (by simp only [amset, amlib, zset, eq_self, ↓reduceIte, reduceCtorEq, Nat.reduceBEq, Nat.reduceEqDiff, Nat.reduceAdd, Nat.reduceMul, Nat.reduceLeDiff, Nat.reduceLT, Nat.reduceSub]), (by simp only [amset, amlib, zset, eq_self, ↓reduceIte, reduceCtorEq, Nat.reduceBEq, Nat.reduceEqDiff, Nat.reduceAdd, Nat.reduceMul, Nat.reduceLeDiff, Nat.reduceLT, Nat.reduceSub]), (by simp only [amset, amlib, zset, eq_self, ↓reduceIte, reduceCtorEq, Nat.reduceBEq, Nat.reduceEqDiff, Nat.reduceAdd, Nat.reduceMul, Nat.reduceLeDiff, Nat.reduceLT, Nat.reduceSub])⟩
  · intro hm1
    simp only [thenQ, blkQ, ↓reduceIte, Nat.reduceEqDiff, eq_self]
    try show resOf zGm _ [] = some _ ∧ _ ∧ _
    try simp only [amset, amlib, zset, eq_self, ↓reduceIte, reduceCtorEq, Nat.reduceBEq, Nat.reduceEqDiff, Nat.reduceAdd, Nat.reduceMul, Nat.reduceLeDiff, Nat.reduceLT, Nat.reduceSub]
    rw [List.length_map] at hm1
    have hmm : m = (allL (stmL l)).length := by rw [hm1, htot] at hM2; omega
    rw [if_neg (by omega), hm1, htot, ← hmm]
    all_goals first | exact ⟨rfl, rfl, rfl⟩ | exact ⟨rfl, trivial, rfl⟩ | exact ⟨rfl, trivial⟩ | rfl
  · intro hm1
    simp only [thenQ, blkQ, ↓reduceIte, Nat.reduceEqDiff, eq_self]
    try show resOf zGm _ [] = some _ ∧ _ ∧ _
    try simp only [amset, amlib, zset, eq_self, ↓reduceIte, reduceCtorEq, Nat.reduceBEq, Nat.reduceEqDiff, Nat.reduceAdd, Nat.reduceMul, Nat.reduceLeDiff, Nat.reduceLT, Nat.reduceSub]
    rw [List.length_map] at hm1
    have hmm : m < (allL (stmL l)).length := by have h1 := hM3 hm1; have h2 := cntX_mono (stmL l) (M + 1) (stmL l).length hm1; omega
    rw [if_pos hmm]
    all_goals first | exact ⟨rfl, rfl, rfl⟩ | exact ⟨rfl, trivial, rfl⟩ | exact ⟨rfl, trivial⟩ | rfl
theorem iter118 (l : List St) : IterOk Tryz.prog zG 118 [.sl 7 (encSs l)] ((allL (stmL l)).map fun z => .agg (encE z)) := by
  intro v p m ps hp hps _ _ hm hy hs
  rw [List.length_map] at hm ⊢
  obtain ⟨M, h1, h2, h3⟩ := stop_at (cntX (stmL l)) m (Nat.zero_le _) (stmL l).length
  exact holds118 v _ p m ps ⟨hy, hs⟩ hp hps l (seg_all encE _) hm M h1 h2 h3
end Go.Proofs.Am
set_option maxRecDepth 100000
set_option maxHeartbeats 4000000
namespace Go.Proofs.Am
theorem prog83 : Tryz.prog.funcs[83]? = some Tryz.f83 := by kernel_rfl
theorem holds83 (p : Pg) (hb : szT p.tasks ≤ 1000000000000) : HoldsO Tryz.prog zG 83 [.agg [.sl 3 (encCs p.consts), .sl 4 (encGs p.globals), .sl 1 (encStrs p.sensors), .sl 1 (encStrs p.outputs), .sl 3 (encHs p.channels), .sl 8 (encTs p.tasks)]] (empP) (some [.c (.int .i64 (szT p.tasks : Nat))]) (empP) := by
  refine holdsOM_of_body zTm prog83 rfl rfl rfl rfl (by simp [Tryz.f83]) (Stab.emp) (Stab.emp) ?_
  refine aw_ops zTm fun K1 hK1 => ?_
  simp only [amset, amlib, zset, eq_self, ↓reduceIte, reduceCtorEq, Nat.reduceBEq, Nat.reduceEqDiff, Nat.reduceAdd, Nat.reduceMul, Nat.reduceLeDiff, Nat.reduceLT, Nat.reduceSub]
  refine hK1 _ ?_
  clear hK1
  refine aw_ops zTm fun K2 hK2 => ?_
  simp only [amset, amlib, zset, eq_self, ↓reduceIte, reduceCtorEq, Nat.reduceBEq, Nat.reduceEqDiff, Nat.reduceAdd, Nat.reduceMul, Nat.reduceLeDiff, Nat.reduceLT, Nat.reduceSub]
  refine hK2 _ ?_
  clear hK2
  refine aw_seq fun K3 hK3 => ?_
  refine aw_ops zTm fun K4 hK4 => ?_
  simp only [amset, amlib, zset, eq_self, ↓reduceIte, reduceCtorEq, Nat.reduceBEq, Nat.reduceEqDiff, Nat.reduceAdd, Nat.reduceMul, Nat.reduceLeDiff, Nat.reduceLT, Nat.reduceSub]
  intros
  refine hK4 _ ?_
  clear hK4
  refine aw_block ?_
  refine aw_to ⟨[(1, .ptr 1 0), (3, .ptr 3 0), (7, .cell (.c (.sl 8 (encTs p.tasks)))), (8, .cell (.c (.int .i64 p.tasks.length))), (9, .cell (.c (.int .i64 0)))], [(3, [.c (.int .i64 0)]), (1, [.c (.sl 3 (encCs p.consts)), .c (.sl 4 (encGs p.globals)), .c (.sl 1 (encStrs p.sensors)), .c (.sl 1 (encStrs p.outputs)), .c (.sl 3 (encHs p.channels)), .c (.sl 8 (encTs p.tasks))]), (1000000, [.objst empP])]⟩ ?_ ?_ ?_
  · simp only [amset, amlib, zset, eq_self, ↓reduceIte, reduceCtorEq, Nat.reduceBEq, Nat.reduceEqDiff, Nat.reduceAdd, Nat.reduceMul, Nat.reduceLeDiff, Nat.reduceLT, Nat.reduceSub] <;> simp [szT, szT_append, szB, Int.natCast_add, Int.add_assoc, Nat.add_assoc, Nat.add_zero]
  · simp only [amset, amlib, zset, eq_self, ↓reduceIte, reduceCtorEq, Nat.reduceBEq, Nat.reduceEqDiff, Nat.reduceAdd, Nat.reduceMul, Nat.reduceLeDiff, Nat.reduceLT, Nat.reduceSub] <;> simp [szT, szT_append, szB, Int.natCast_add, Int.add_assoc, Nat.add_assoc, Nat.add_zero]
  refine aw_range (α := Tk) (p.tasks) (fun dn => True) (fun dn => [(9, .cell (.c (.int .i64 dn.length)))]) (fun dn => [(3, [.c (.int .i64 (szT dn : Nat))])]) [] [5, 9, 10, 11, 12, 13, 14, 15, 17, 18, 19, 20, 21, 23, 24, 25] [3, 5] trivial ?_ ?_ ?_ ?_
  · simp only [amset, amlib, zset, eq_self, ↓reduceIte, reduceCtorEq, Nat.reduceBEq, Nat.reduceEqDiff, Nat.reduceAdd, Nat.reduceMul, Nat.reduceLeDiff, Nat.reduceLT, Nat.reduceSub] <;> simp [szT, szT_append, szB, Int.natCast_add, Int.add_assoc, Nat.add_assoc, Nat.add_zero]
  · simp only [amset, amlib, zset, eq_self, ↓reduceIte, reduceCtorEq, Nat.reduceBEq, Nat.reduceEqDiff, Nat.reduceAdd, Nat.reduceMul, Nat.reduceLeDiff, Nat.reduceLT, Nat.reduceSub] <;> simp [szT, szT_append, szB, Int.natCast_add, Int.add_assoc, Nat.add_assoc, Nat.add_zero]
  · intro hI R
    refine aw_norm (by simp only [amset, amlib, zset, eq_self, ↓reduceIte, reduceCtorEq, Nat.reduceBEq, Nat.reduceEqDiff, Nat.reduceAdd, Nat.reduceMul, Nat.reduceLeDiff, Nat.reduceLT, Nat.reduceSub]; exact rfl) ?_
    refine aw_ops zTm fun K5 hK5 => ?_
    simp only [amset, amlib, zset, eq_self, ↓reduceIte, reduceCtorEq, Nat.reduceBEq, Nat.reduceEqDiff, Nat.reduceAdd, Nat.reduceMul, Nat.reduceLeDiff, Nat.reduceLT, Nat.reduceSub]
    refine hK5 _ ?_
    clear hK5
    refine aw_seq fun K6 hK6 => ?_
    refine aw_cond (t := false) (by simp [evalO, S.get, amLook]) (fun h => nomatch h) (fun _ => ?_)
    refine aw_exit ?_
    simp only [thenQ, blkQ, if_true, reduceIte, Nat.reduceEqDiff, eq_self]
    refine hK3 _ ?_
    clear hK3
    refine aw_ops zTm fun K7 hK7 => ?_
    simp only [amset, amlib, zset, eq_self, ↓reduceIte, reduceCtorEq, Nat.reduceBEq, Nat.reduceEqDiff, Nat.reduceAdd, Nat.reduceMul, Nat.reduceLeDiff, Nat.reduceLT, Nat.reduceSub]
    refine hK7 _ ?_
    clear hK7
    refine aw_ret ?_
    try show resOf zGm _ [.tmp 2] = some _ ∧ _ ∧ _
    try simp only [amset, amlib, zset, eq_self, ↓reduceIte, reduceCtorEq, Nat.reduceBEq, Nat.reduceEqDiff, Nat.reduceAdd, Nat.reduceMul, Nat.reduceLeDiff, Nat.reduceLT, Nat.reduceSub]
    all_goals first | exact ⟨rfl, rfl, rfl⟩ | exact ⟨rfl, trivial, rfl⟩ | exact ⟨rfl, trivial⟩ | rfl
  · intro dn y td harg hI R hR
    have hl : (p.tasks).length = dn.length + (td.length + 1) := by rw [harg]; simp
    have hmem : y ∈ p.tasks := by rw [harg]; simp
    refine aw_norm (by simp only [amset, amlib, zset, eq_self, ↓reduceIte, reduceCtorEq, Nat.reduceBEq, Nat.reduceEqDiff, Nat.reduceAdd, Nat.reduceMul, Nat.reduceLeDiff, Nat.reduceLT, Nat.reduceSub]; exact rfl) ?_
    have hget : (encTs (p.tasks)).getD dn.length [] = encT y := by rw [harg]; exact encTs_mid dn td y
    have h1 : szT p.tasks = szT dn + ((stmL y.body).length + (allL (stmL y.body)).length) + szT td := by
      rw [harg, szT_append]
      simp [szT, szB]
      omega
    refine aw_ops zTm fun K8 hK8 => ?_
    simp only [amset, amlib, zset, eq_self, ↓reduceIte, reduceCtorEq, Nat.reduceBEq, Nat.reduceEqDiff, Nat.reduceAdd, Nat.reduceMul, Nat.reduceLeDiff, Nat.reduceLT, Nat.reduceSub]
    refine hK8 _ ?_
    clear hK8
    refine aw_seq fun K9 hK9 => ?_
    refine aw_cond (t := true) (by simp [evalO, S.get, amLook]; omega) (fun _ => ?_) (fun h => nomatch h)
    refine aw_skip ?_
    simp only [thenQ, blkQ, if_true, reduceIte, Nat.reduceEqDiff, eq_self]
    refine hK9 _ ?_
    clear hK9
    refine aw_seq fun K10 hK10 => ?_
    refine aw_block ?_
    refine aw_ops zTm fun K11 hK11 => ?_
    simp only [amset, amlib, zset, hget, eq_self, ↓reduceIte, reduceCtorEq, Nat.reduceBEq, Nat.reduceEqDiff, Nat.reduceAdd, Nat.reduceMul, Nat.reduceLeDiff, Nat.reduceLT, Nat.reduceSub]
    refine ⟨⟨by omega, by omega⟩, ?_⟩
    refine hK11 _ ?_
    clear hK11
    refine aw_seq fun K12 hK12 => ?_
    refine aw_ops zTm fun K13 hK13 => ?_
    simp only [amset, amlib, zset, eq_self, ↓reduceIte, reduceCtorEq, Nat.reduceBEq, Nat.reduceEqDiff, Nat.reduceAdd, Nat.reduceMul, Nat.reduceLeDiff, Nat.reduceLT, Nat.reduceSub]
    refine ⟨_, holds42 y.body, ?_⟩
    simp only [later]
    simp only [amset, amlib, zset, eq_self, ↓reduceIte, reduceCtorEq, Nat.reduceBEq, Nat.reduceEqDiff, Nat.reduceAdd, Nat.reduceMul, Nat.reduceLeDiff, Nat.reduceLT, Nat.reduceSub]
    refine hK13 _ ?_
    clear hK13
    refine aw_block ?_
    refine aw_ghost 101 1 (by simp only [amset, amlib, zset, eq_self, ↓reduceIte, reduceCtorEq, Nat.reduceBEq, Nat.reduceEqDiff, Nat.reduceAdd, Nat.reduceMul, Nat.reduceLeDiff, Nat.reduceLT, Nat.reduceSub]; exact rfl) (by decide) (by decide) fun b1 => ?_
    refine aw_ghost 102 3 (by simp only [amset, amlib, zset, eq_self, ↓reduceIte, reduceCtorEq, Nat.reduceBEq, Nat.reduceEqDiff, Nat.reduceAdd, Nat.reduceMul, Nat.reduceLeDiff, Nat.reduceLT, Nat.reduceSub]; exact rfl) (by decide) (by decide) fun b3 => ?_
    refine aw_ghost 103 5 (by simp only [amset, amlib, zset, eq_self, ↓reduceIte, reduceCtorEq, Nat.reduceBEq, Nat.reduceEqDiff, Nat.reduceAdd, Nat.reduceMul, Nat.reduceLeDiff, Nat.reduceLT, Nat.reduceSub]; exact rfl) (by decide) (by decide) fun b5 => ?_
    refine aw_rangeFunc (G := zG) rfl (f := 116) (caps := [.sl 7 (encSs y.body)]) (env0 := ([(101, .at 1 b1), (102, .at 3 b3), (103, .at 5 b5)] ++ [(1, .ptr 1 0), (3, .ptr 3 0), (5, .ptr 5 0), (7, .cell (.c (.sl 8 (encTs p.tasks)))), (8, .cell (.c (.int .i64 p.tasks.length))), (9, .cell (.c (.int .i64 dn.length)))] : List (Nat × V))) (gh := [(101, .at 1 b1), (102, .at 3 b3), (103, .at 5 b5)]) (fun i => [(3, [.c (.int .i64 ((szT dn + i : Nat)))]), (1, [.c (.sl 3 (encCs p.consts)), .c (.sl 4 (encGs p.globals)), .c (.sl 1 (encStrs p.sensors)), .c (.sl 1 (encStrs p.outputs)), .c (.sl 3 (encHs p.channels)), .c (.sl 8 (encTs p.tasks))]), (5, [.c (.str y.name), .c (.int .i64 y.period), .c (.int .i64 y.deadline), .c (.str y.channel), .c (.str y.param), .c (.int .i64 y.within), .c (.sl 7 (encSs y.body)), .c (.int .i64 y.pos)])]) (fun _ => empP) ((stmL y.body).map fun z => A.agg (encS z)).length ((stmL y.body).map fun z => A.agg (encS z)) empP [] rfl rfl (by decide) (by simp only [amset, amlib, zset, eq_self, ↓reduceIte, reduceCtorEq, Nat.reduceBEq, Nat.reduceEqDiff, Nat.reduceAdd, Nat.reduceMul, Nat.reduceLeDiff, Nat.reduceLT, Nat.reduceSub]) fnOk116 (iter116 y.body) (Nat.le_refl _) (fun _ => Stab.emp) Stab.emp (by simp only [amset, amlib, zset, eq_self, ↓reduceIte, reduceCtorEq, Nat.reduceBEq, Nat.reduceEqDiff, Nat.reduceAdd, Nat.reduceMul, Nat.reduceLeDiff, Nat.reduceLT, Nat.reduceSub]) (by simp only [amset, amlib, zset, eq_self, ↓reduceIte, reduceCtorEq, Nat.reduceBEq, Nat.reduceEqDiff, Nat.reduceAdd, Nat.reduceMul, Nat.reduceLeDiff, Nat.reduceLT, Nat.reduceSub]) (by simp only [amset, amlib, zset, eq_self, ↓reduceIte, reduceCtorEq, Nat.reduceBEq, Nat.reduceEqDiff, Nat.reduceAdd, Nat.reduceMul, Nat.reduceLeDiff, Nat.reduceLT, Nat.reduceSub] <;> try simp only [Nat.add_zero]) (by simp only [amset, amlib, zset, eq_self, ↓reduceIte, reduceCtorEq, Nat.reduceBEq, Nat.reduceEqDiff, Nat.reduceAdd, Nat.reduceMul, Nat.reduceLeDiff, Nat.reduceLT, Nat.reduceSub]) (by simp only [amset, amlib, zset, eq_self, ↓reduceIte, reduceCtorEq, Nat.reduceBEq, Nat.reduceEqDiff, Nat.reduceAdd, Nat.reduceMul, Nat.reduceLeDiff, Nat.reduceLT, Nat.reduceSub]) (fun h => absurd h (Nat.lt_irrefl _)) (by simp only [amset, amlib, zset, eq_self, ↓reduceIte, reduceCtorEq, Nat.reduceBEq, Nat.reduceEqDiff, Nat.reduceAdd, Nat.reduceMul, Nat.reduceLeDiff, Nat.reduceLT, Nat.reduceSub]) rfl ?_ ?_ ?_ (fun h => absurd h (Nat.lt_irrefl _))
    · intro i x hi hx
      obtain ⟨z, hz, rfl⟩ : ∃ z, (stmL y.body)[i]? = some z ∧ x = .agg (encS z) := by
        rw [List.getElem?_map, Option.map_eq_some_iff] at hx
        obtain ⟨z, h1, h2⟩ := hx
        exact ⟨z, h1, h2.symm⟩
      rw [List.length_map] at hi
      rw [encS_eq]
      intro r hr
      refine aw_skip ?_
      refine ⟨rfl, (by simp only [amset, amlib, zset, eq_self, ↓reduceIte, reduceCtorEq, Nat.reduceBEq, Nat.reduceEqDiff, Nat.reduceAdd, Nat.reduceMul, Nat.reduceLeDiff, Nat.reduceLT, Nat.reduceSub]), empP, Stab.emp, (by simp only [amset, amlib, zset, eq_self, ↓reduceIte, reduceCtorEq, Nat.reduceBEq, Nat.reduceEqDiff, Nat.reduceAdd, Nat.reduceMul, Nat.reduceLeDiff, Nat.reduceLT, Nat.reduceSub]), fun r' hr' => ?_⟩
      refine aw_block ?_
      refine aw_region zT ?_
      simp only [amset, amlib, zset, eq_self, ↓reduceIte, reduceCtorEq, Nat.reduceBEq, Nat.reduceEqDiff, Nat.reduceAdd, Nat.reduceMul, Nat.reduceLeDiff, Nat.reduceLT, Nat.reduceSub]
      refine ⟨⟨by omega, by omega⟩, ?_⟩
      refine ⟨rfl, (by simp only [amset, amlib, zset, eq_self, ↓reduceIte, reduceCtorEq, Nat.reduceBEq, Nat.reduceEqDiff, Nat.reduceAdd, Nat.reduceMul, Nat.reduceLeDiff, Nat.reduceLT, Nat.reduceSub]), (by simp only [amset, amlib, zset, eq_self, ↓reduceIte, reduceCtorEq, Nat.reduceBEq, Nat.reduceEqDiff, Nat.reduceAdd, Nat.reduceMul, Nat.reduceLeDiff, Nat.reduceLT, Nat.reduceSub]), (by simp only [amset, amlib, zset, eq_self, ↓reduceIte, reduceCtorEq, Nat.reduceBEq, Nat.reduceEqDiff, Nat.reduceAdd, Nat.reduceMul, Nat.reduceLeDiff, Nat.reduceLT, Nat.reduceSub]), ?_⟩
      simp only [amset, amlib, zset, eq_self, ↓reduceIte, reduceCtorEq, Nat.reduceBEq, Nat.reduceEqDiff, Nat.reduceAdd, Nat.reduceMul, Nat.reduceLeDiff, Nat.reduceLT, Nat.reduceSub]
      simp only [Nat.add_assoc, Int.natCast_add, Int.natCast_one, and_self, Int.add_assoc]
    · intro x hx
      rw [List.getElem?_eq_none (Nat.le_refl _)] at hx
      cases hx
    intro _
    rw [List.length_map]
    simp only [thenQ, blkQ, ↓reduceIte, Nat.reduceEqDiff, eq_self]
    refine hK12 _ ?_
    clear hK12
    refine aw_ops zTm fun K14 hK14 => ?_
    simp only [amset, amlib, zset, eq_self, ↓reduceIte, reduceCtorEq, Nat.reduceBEq, Nat.reduceEqDiff, Nat.reduceAdd, Nat.reduceMul, Nat.reduceLeDiff, Nat.reduceLT, Nat.reduceSub]
    refine ⟨_, holds44 y.body, ?_⟩
    simp only [later]
    simp only [amset, amlib, zset, eq_self, ↓reduceIte, reduceCtorEq, Nat.reduceBEq, Nat.reduceEqDiff, Nat.reduceAdd, Nat.reduceMul, Nat.reduceLeDiff, Nat.reduceLT, Nat.reduceSub]
    refine hK14 _ ?_
    clear hK14
    refine aw_block ?_
    refine aw_ghost 111 1 (by simp only [amset, amlib, zset, eq_self, ↓reduceIte, reduceCtorEq, Nat.reduceBEq, Nat.reduceEqDiff, Nat.reduceAdd, Nat.reduceMul, Nat.reduceLeDiff, Nat.reduceLT, Nat.reduceSub]; exact rfl) (by decide) (by decide) fun b1 => ?_
    refine aw_ghost 112 3 (by simp only [amset, amlib, zset, eq_self, ↓reduceIte, reduceCtorEq, Nat.reduceBEq, Nat.reduceEqDiff, Nat.reduceAdd, Nat.reduceMul, Nat.reduceLeDiff, Nat.reduceLT, Nat.reduceSub]; exact rfl) (by decide) (by decide) fun b3 => ?_
    refine aw_ghost 113 5 (by simp only [amset, amlib, zset, eq_self, ↓reduceIte, reduceCtorEq, Nat.reduceBEq, Nat.reduceEqDiff, Nat.reduceAdd, Nat.reduceMul, Nat.reduceLeDiff, Nat.reduceLT, Nat.reduceSub]; exact rfl) (by decide) (by decide) fun b5 => ?_
    refine aw_rangeFunc (G := zG) rfl (f := 118) (caps := [.sl 7 (encSs y.body)]) (env0 := ([(111, .at 1 b1), (112, .at 3 b3), (113, .at 5 b5)] ++ [(1, .ptr 1 0), (3, .ptr 3 0), (5, .ptr 5 0), (7, .cell (.c (.sl 8 (encTs p.tasks)))), (8, .cell (.c (.int .i64 p.tasks.length))), (9, .cell (.c (.int .i64 dn.length)))] : List (Nat × V))) (gh := [(111, .at 1 b1), (112, .at 3 b3), (113, .at 5 b5)]) (fun i => [(3, [.c (.int .i64 ((szT dn + (stmL y.body).length + i : Nat)))]), (1, [.c (.sl 3 (encCs p.consts)), .c (.sl 4 (encGs p.globals)), .c (.sl 1 (encStrs p.sensors)), .c (.sl 1 (encStrs p.outputs)), .c (.sl 3 (encHs p.channels)), .c (.sl 8 (encTs p.tasks))]), (5, [.c (.str y.name), .c (.int .i64 y.period), .c (.int .i64 y.deadline), .c (.str y.channel), .c (.str y.param), .c (.int .i64 y.within), .c (.sl 7 (encSs y.body)), .c (.int .i64 y.pos)])]) (fun _ => empP) ((allL (stmL y.body)).map fun z => A.agg (encE z)).length ((allL (stmL y.body)).map fun z => A.agg (encE z)) empP [] rfl rfl (by decide) (by simp only [amset, amlib, zset, eq_self, ↓reduceIte, reduceCtorEq, Nat.reduceBEq, Nat.reduceEqDiff, Nat.reduceAdd, Nat.reduceMul, Nat.reduceLeDiff, Nat.reduceLT, Nat.reduceSub]) fnOk118 (iter118 y.body) (Nat.le_refl _) (fun _ => Stab.emp) Stab.emp (by simp only [amset, amlib, zset, eq_self, ↓reduceIte, reduceCtorEq, Nat.reduceBEq, Nat.reduceEqDiff, Nat.reduceAdd, Nat.reduceMul, Nat.reduceLeDiff, Nat.reduceLT, Nat.reduceSub]) (by simp only [amset, amlib, zset, eq_self, ↓reduceIte, reduceCtorEq, Nat.reduceBEq, Nat.reduceEqDiff, Nat.reduceAdd, Nat.reduceMul, Nat.reduceLeDiff, Nat.reduceLT, Nat.reduceSub]) (by simp only [amset, amlib, zset, eq_self, ↓reduceIte, reduceCtorEq, Nat.reduceBEq, Nat.reduceEqDiff, Nat.reduceAdd, Nat.reduceMul, Nat.reduceLeDiff, Nat.reduceLT, Nat.reduceSub] <;> try simp only [Nat.add_zero]) (by simp only [amset, amlib, zset, eq_self, ↓reduceIte, reduceCtorEq, Nat.reduceBEq, Nat.reduceEqDiff, Nat.reduceAdd, Nat.reduceMul, Nat.reduceLeDiff, Nat.reduceLT, Nat.reduceSub]) (by simp only [amset, amlib, zset, eq_self, ↓reduceIte, reduceCtorEq, Nat.reduceBEq, Nat.reduceEqDiff, Nat.reduceAdd, Nat.reduceMul, Nat.reduceLeDiff, Nat.reduceLT, Nat.reduceSub]) (fun h => absurd h (Nat.lt_irrefl _)) (by simp only [amset, amlib, zset, eq_self, ↓reduceIte, reduceCtorEq, Nat.reduceBEq, Nat.reduceEqDiff, Nat.reduceAdd, Nat.reduceMul, Nat.reduceLeDiff, Nat.reduceLT, Nat.reduceSub]) rfl ?_ ?_ ?_ (fun h => absurd h (Nat.lt_irrefl _))
    · intro i x hi hx
      obtain ⟨z, hz, rfl⟩ : ∃ z, (allL (stmL y.body))[i]? = some z ∧ x = .agg (encE z) := by
        rw [List.getElem?_map, Option.map_eq_some_iff] at hx
        obtain ⟨z, h1, h2⟩ := hx
        exact ⟨z, h1, h2.symm⟩
      rw [List.length_map] at hi
      rw [encE_eq]
      intro r hr
      refine aw_skip ?_
      refine ⟨rfl, (by simp only [amset, amlib, zset, eq_self, ↓reduceIte, reduceCtorEq, Nat.reduceBEq, Nat.reduceEqDiff, Nat.reduceAdd, Nat.reduceMul, Nat.reduceLeDiff, Nat.reduceLT, Nat.reduceSub]), empP, Stab.emp, (by simp only [amset, amlib, zset, eq_self, ↓reduceIte, reduceCtorEq, Nat.reduceBEq, Nat.reduceEqDiff, Nat.reduceAdd, Nat.reduceMul, Nat.reduceLeDiff, Nat.reduceLT, Nat.reduceSub]), fun r' hr' => ?_⟩
      refine aw_block ?_
      refine aw_region zT ?_
      simp only [amset, amlib, zset, eq_self, ↓reduceIte, reduceCtorEq, Nat.reduceBEq, Nat.reduceEqDiff, Nat.reduceAdd, Nat.reduceMul, Nat.reduceLeDiff, Nat.reduceLT, Nat.reduceSub]
      refine ⟨⟨by omega, by omega⟩, ?_⟩
      refine ⟨rfl, (by simp only [amset, amlib, zset, eq_self, ↓reduceIte, reduceCtorEq, Nat.reduceBEq, Nat.reduceEqDiff, Nat.reduceAdd, Nat.reduceMul, Nat.reduceLeDiff, Nat.reduceLT, Nat.reduceSub]), (by simp only [amset, amlib, zset, eq_self, ↓reduceIte, reduceCtorEq, Nat.reduceBEq, Nat.reduceEqDiff, Nat.reduceAdd, Nat.reduceMul, Nat.reduceLeDiff, Nat.reduceLT, Nat.reduceSub]), (by simp only [amset, amlib, zset, eq_self, ↓reduceIte, reduceCtorEq, Nat.reduceBEq, Nat.reduceEqDiff, Nat.reduceAdd, Nat.reduceMul, Nat.reduceLeDiff, Nat.reduceLT, Nat.reduceSub]), ?_⟩
      simp only [amset, amlib, zset, eq_self, ↓reduceIte, reduceCtorEq, Nat.reduceBEq, Nat.reduceEqDiff, Nat.reduceAdd, Nat.reduceMul, Nat.reduceLeDiff, Nat.reduceLT, Nat.reduceSub]
      simp only [Nat.add_assoc, Int.natCast_add, Int.natCast_one, and_self, Int.add_assoc]
    · intro x hx
      rw [List.getElem?_eq_none (Nat.le_refl _)] at hx
      cases hx
    intro _
    rw [List.length_map]
    simp only [thenQ, blkQ, ↓reduceIte, Nat.reduceEqDiff, eq_self]
    refine hK10 _ ?_
    clear hK10
    refine aw_region zTm ?_
    simp only [amset, amlib, zset, eq_self, ↓reduceIte, reduceCtorEq, Nat.reduceBEq, Nat.reduceEqDiff, Nat.reduceAdd, Nat.reduceMul, Nat.reduceLeDiff, Nat.reduceLT, Nat.reduceSub]
    refine ⟨⟨by omega, by omega⟩, ?_⟩
    refine hR _ trivial ?_
    refine Reach.to ?_ ?_
    · simp only [amset, amlib, zset, eq_self, ↓reduceIte, reduceCtorEq, Nat.reduceBEq, Nat.reduceEqDiff, Nat.reduceAdd, Nat.reduceMul, Nat.reduceLeDiff, Nat.reduceLT, Nat.reduceSub] <;> simp [szT, szT_append, szB, Int.natCast_add, Int.add_assoc, Nat.add_assoc, Nat.add_zero]
    · simp only [amset, amlib, zset, eq_self, ↓reduceIte, reduceCtorEq, Nat.reduceBEq, Nat.reduceEqDiff, Nat.reduceAdd, Nat.reduceMul, Nat.reduceLeDiff, Nat.reduceLT, Nat.reduceSub] <;> simp [szT, szT_append, szB, Int.natCast_add, Int.add_assoc, Nat.add_assoc, Nat.add_zero]
theorem holdsSize (p : Pg) (hb : szT p.tasks ≤ 1000000000000) : Holds Tryz.prog zG 83 [.agg [.sl 3 (encCs p.consts), .sl 4 (encGs p.globals), .sl 1 (encStrs p.sensors), .sl 1 (encStrs p.outputs), .sl 3 (encHs p.channels), .sl 8 (encTs p.tasks)]] [.c (.int .i64 (szT p.tasks : Nat))] := Holds.of_emp (holds83 p hb)
end Go.Proofs.Am
set_option maxRecDepth 100000
set_option maxHeartbeats 4000000
namespace Go.Proofs.Am
theorem max_cast2 (a b : Nat) : (if (1 : Int) + (b : Int) > (a : Int) then 1 + (b : Int) else (a : Int)) = ((max a (b + 1) : Nat) : Int) := by
  split <;> omega
theorem depL_mem' {x : Ex} {l : List Ex} (h : x ∈ l) : depL x.args + 1 ≤ depL l := by
  have := depL_mem h
  rwa [depE_eq] at this
theorem prog197 : Tryz.prog.funcs[197]? = some Tryz.f197 := by kernel_rfl
theorem step197 (l : List Ex) (hb : depL l ≤ 1000000000000) (ih : ∀ y ∈ l, depL y.args ≤ 1000000000000 → Holds Tryz.prog zG 197 [.c (.sl 6 (encEs y.args))] [.c (.int .i64 (depL y.args))]) : Holds Tryz.prog zG 197 [.c (.sl 6 (encEs l))] [.c (.int .i64 (depL l))] := by
  refine holds_of_body zT prog197 rfl rfl rfl (by simp [Tryz.f197]) ?_
  refine aw_ops zT fun K1 hK1 => ?_
  simp only [amset, amlib, zset, max_cast, max_cast1, max_cast2, max_nat, eq_self, ↓reduceIte, reduceCtorEq, Nat.reduceBEq, Nat.reduceEqDiff, Nat.reduceAdd, Nat.reduceMul, Nat.reduceLeDiff, Nat.reduceLT, Nat.reduceSub]
  refine hK1 _ ?_
  clear hK1
  refine aw_ops zT fun K2 hK2 => ?_
  simp only [amset, amlib, zset, max_cast, max_cast1, max_cast2, max_nat, eq_self, ↓reduceIte, reduceCtorEq, Nat.reduceBEq, Nat.reduceEqDiff, Nat.reduceAdd, Nat.reduceMul, Nat.reduceLeDiff, Nat.reduceLT, Nat.reduceSub]
  refine hK2 _ ?_
  clear hK2
  refine aw_seq fun K3 hK3 => ?_
  refine aw_ops zT fun K4 hK4 => ?_
  simp only [amset, amlib, zset, max_cast, max_cast1, max_cast2, max_nat, eq_self, ↓reduceIte, reduceCtorEq, Nat.reduceBEq, Nat.reduceEqDiff, Nat.reduceAdd, Nat.reduceMul, Nat.reduceLeDiff, Nat.reduceLT, Nat.reduceSub]
  intros
  refine hK4 _ ?_
  clear hK4
  refine aw_block ?_
  refine aw_range (α := Ex) (l) (fun dn => True) (fun dn => [(3, .cell (.c (.int .i64 (depL dn : Nat)))), (8, .cell (.c (.int .i64 dn.length)))]) (fun dn => []) [] [3, 5, 8, 9, 10, 11, 12, 13, 14, 15, 16, 17, 18] [5] trivial ?_ ?_ ?_ ?_
  · simp only [amset, amlib, zset, max_cast, max_cast1, max_cast2, max_nat, eq_self, ↓reduceIte, reduceCtorEq, Nat.reduceBEq, Nat.reduceEqDiff, Nat.reduceAdd, Nat.reduceMul, Nat.reduceLeDiff, Nat.reduceLT, Nat.reduceSub] <;> simp [depL, depL_append, depE_eq, Nat.max_assoc, Nat.max_comm, Nat.max_left_comm, max_cast, max_cast1, max_cast2, max_nat]
  · simp only [amset, amlib, zset, max_cast, max_cast1, max_cast2, max_nat, eq_self, ↓reduceIte, reduceCtorEq, Nat.reduceBEq, Nat.reduceEqDiff, Nat.reduceAdd, Nat.reduceMul, Nat.reduceLeDiff, Nat.reduceLT, Nat.reduceSub] <;> simp [depL, depL_append, depE_eq, Nat.max_assoc, Nat.max_comm, Nat.max_left_comm, max_cast, max_cast1, max_cast2, max_nat]
  · intro hI R
    refine aw_norm (by simp only [amset, amlib, zset, max_cast, max_cast1, max_cast2, max_nat, eq_self, ↓reduceIte, reduceCtorEq, Nat.reduceBEq, Nat.reduceEqDiff, Nat.reduceAdd, Nat.reduceMul, Nat.reduceLeDiff, Nat.reduceLT, Nat.reduceSub]; exact rfl) ?_
    refine aw_ops zT fun K5 hK5 => ?_
    simp only [amset, amlib, zset, max_cast, max_cast1, max_cast2, max_nat, eq_self, ↓reduceIte, reduceCtorEq, Nat.reduceBEq, Nat.reduceEqDiff, Nat.reduceAdd, Nat.reduceMul, Nat.reduceLeDiff, Nat.reduceLT, Nat.reduceSub]
    refine hK5 _ ?_
    clear hK5
    refine aw_seq fun K6 hK6 => ?_
    refine aw_cond (t := false) (by simp [evalO, S.get, amLook]) (fun h => nomatch h) (fun _ => ?_)
    refine aw_exit ?_
    simp only [thenQ, blkQ, if_true, reduceIte, Nat.reduceEqDiff, eq_self]
    refine hK3 _ ?_
    clear hK3
    refine aw_ops zT fun K7 hK7 => ?_
    simp only [amset, amlib, zset, max_cast, max_cast1, max_cast2, max_nat, eq_self, ↓reduceIte, reduceCtorEq, Nat.reduceBEq, Nat.reduceEqDiff, Nat.reduceAdd, Nat.reduceMul, Nat.reduceLeDiff, Nat.reduceLT, Nat.reduceSub]
    refine hK7 _ ?_
    clear hK7
    refine aw_ret ?_
    show resOf zG _ [.tmp 2] = some _
    simp only [amset, amlib, zset, max_cast, max_cast1, max_cast2, max_nat, eq_self, ↓reduceIte, reduceCtorEq, Nat.reduceBEq, Nat.reduceEqDiff, Nat.reduceAdd, Nat.reduceMul, Nat.reduceLeDiff, Nat.reduceLT, Nat.reduceSub]
  · intro dn y td harg hI R hR
    have hl : (l).length = dn.length + (td.length + 1) := by rw [harg]; simp
    have hmem : y ∈ l := by rw [harg]; simp
    refine aw_norm (by simp only [amset, amlib, zset, max_cast, max_cast1, max_cast2, max_nat, eq_self, ↓reduceIte, reduceCtorEq, Nat.reduceBEq, Nat.reduceEqDiff, Nat.reduceAdd, Nat.reduceMul, Nat.reduceLeDiff, Nat.reduceLT, Nat.reduceSub]; exact rfl) ?_
    have hget : (encEs (l)).getD dn.length [] = encE y := by rw [harg]; exact encEs_mid dn td y
    have hy := depL_mem' hmem
    refine aw_ops zT fun K8 hK8 => ?_
    simp only [amset, amlib, zset, max_cast, max_cast1, max_cast2, max_nat, eq_self, ↓reduceIte, reduceCtorEq, Nat.reduceBEq, Nat.reduceEqDiff, Nat.reduceAdd, Nat.reduceMul, Nat.reduceLeDiff, Nat.reduceLT, Nat.reduceSub]
    refine hK8 _ ?_
    clear hK8
    refine aw_seq fun K9 hK9 => ?_
    refine aw_cond (t := true) (by simp [evalO, S.get, amLook]; omega) (fun _ => ?_) (fun h => nomatch h)
    refine aw_skip ?_
    simp only [thenQ, blkQ, if_true, reduceIte, Nat.reduceEqDiff, eq_self]
    refine hK9 _ ?_
    clear hK9
    refine aw_seq fun K10 hK10 => ?_
    refine aw_block ?_
    refine aw_ops zT fun K11 hK11 => ?_
    simp only [amset, amlib, zset, hget, max_cast, max_cast1, max_cast2, max_nat, eq_self, ↓reduceIte, reduceCtorEq, Nat.reduceBEq, Nat.reduceEqDiff, Nat.reduceAdd, Nat.reduceMul, Nat.reduceLeDiff, Nat.reduceLT, Nat.reduceSub]
    refine ⟨⟨by omega, by omega⟩, ?_⟩
    refine hK11 _ ?_
    clear hK11
    refine aw_region zT ?_
    simp only [amset, amlib, zset, max_cast, max_cast1, max_cast2, max_nat, eq_self, ↓reduceIte, reduceCtorEq, Nat.reduceBEq, Nat.reduceEqDiff, Nat.reduceAdd, Nat.reduceMul, Nat.reduceLeDiff, Nat.reduceLT, Nat.reduceSub]
    refine ⟨_, ih y hmem (by omega), ?_⟩
    simp only [later]
    simp only [amset, amlib, zset, max_cast, max_cast1, max_cast2, max_nat, eq_self, ↓reduceIte, reduceCtorEq, Nat.reduceBEq, Nat.reduceEqDiff, Nat.reduceAdd, Nat.reduceMul, Nat.reduceLeDiff, Nat.reduceLT, Nat.reduceSub]
    refine ⟨⟨by omega, by omega⟩, ?_⟩
    refine hK10 _ ?_
    clear hK10
    refine aw_region zT ?_
    simp only [amset, amlib, zset, max_cast, max_cast1, max_cast2, max_nat, eq_self, ↓reduceIte, reduceCtorEq, Nat.reduceBEq, Nat.reduceEqDiff, Nat.reduceAdd, Nat.reduceMul, Nat.reduceLeDiff, Nat.reduceLT, Nat.reduceSub]
    refine ⟨⟨by omega, by omega⟩, ?_⟩
    refine hR _ trivial ?_
    refine Reach.to ?_ ?_
    · simp only [amset, amlib, zset, max_cast, max_cast1, max_cast2, max_nat, eq_self, ↓reduceIte, reduceCtorEq, Nat.reduceBEq, Nat.reduceEqDiff, Nat.reduceAdd, Nat.reduceMul, Nat.reduceLeDiff, Nat.reduceLT, Nat.reduceSub] <;> simp [depL, depL_append, depE_eq, Nat.max_assoc, Nat.max_comm, Nat.max_left_comm, max_cast, max_cast1, max_cast2, max_nat]
    · simp only [amset, amlib, zset, max_cast, max_cast1, max_cast2, max_nat, eq_self, ↓reduceIte, reduceCtorEq, Nat.reduceBEq, Nat.reduceEqDiff, Nat.reduceAdd, Nat.reduceMul, Nat.reduceLeDiff, Nat.reduceLT, Nat.reduceSub] <;> simp [depL, depL_append, depE_eq, Nat.max_assoc, Nat.max_comm, Nat.max_left_comm, max_cast, max_cast1, max_cast2, max_nat]
theorem holds197 (l : List Ex) (hb : depL l ≤ 1000000000000) : Holds Tryz.prog zG 197 [.c (.sl 6 (encEs l))] [.c (.int .i64 (depL l))] := step197 l hb fun y hy hb => holds197 y.args hb
  termination_by SizeOf.sizeOf l
  decreasing_by
  have h1 := List.sizeOf_lt_of_mem hy
  have h2 : SizeOf.sizeOf y.args < SizeOf.sizeOf y := by cases y; simp [Ex.args]; omega
  omega
theorem prog157 : Tryz.prog.funcs[157]? = some Tryz.f157 := by kernel_rfl
theorem step157 (l : List St) (hb : depM l ≤ 1000000000000) (ih : ∀ m : List St, SizeOf.sizeOf m < SizeOf.sizeOf l → depM m ≤ 1000000000000 → Holds Tryz.prog zG 157 [.c (.sl 7 (encSs m))] [.c (.int .i64 (depM m))]) : Holds Tryz.prog zG 157 [.c (.sl 7 (encSs l))] [.c (.int .i64 (depM l))] := by
  refine holds_of_body zT prog157 rfl rfl rfl (by simp [Tryz.f157]) ?_
  refine aw_ops zT fun K1 hK1 => ?_
  simp only [amset, amlib, zset, max_cast, max_cast1, max_cast2, max_nat, eq_self, ↓reduceIte, reduceCtorEq, Nat.reduceBEq, Nat.reduceEqDiff, Nat.reduceAdd, Nat.reduceMul, Nat.reduceLeDiff, Nat.reduceLT, Nat.reduceSub]
  refine hK1 _ ?_
  clear hK1
  refine aw_ops zT fun K2 hK2 => ?_
  simp only [amset, amlib, zset, max_cast, max_cast1, max_cast2, max_nat, eq_self, ↓reduceIte, reduceCtorEq, Nat.reduceBEq, Nat.reduceEqDiff, Nat.reduceAdd, Nat.reduceMul, Nat.reduceLeDiff, Nat.reduceLT, Nat.reduceSub]
  refine hK2 _ ?_
  clear hK2
  refine aw_seq fun K3 hK3 => ?_
  refine aw_ops zT fun K4 hK4 => ?_
  simp only [amset, amlib, zset, max_cast, max_cast1, max_cast2, max_nat, eq_self, ↓reduceIte, reduceCtorEq, Nat.reduceBEq, Nat.reduceEqDiff, Nat.reduceAdd, Nat.reduceMul, Nat.reduceLeDiff, Nat.reduceLT, Nat.reduceSub]
  intros
  refine hK4 _ ?_
  clear hK4
  refine aw_block ?_
  refine aw_range (α := St) (l) (fun dn => True) (fun dn => [(3, .cell (.c (.int .i64 (depM dn : Nat)))), (8, .cell (.c (.int .i64 dn.length)))]) (fun dn => []) [] [3, 5, 8, 9, 10, 11, 12, 13, 14, 15, 16, 17, 18, 19, 20, 21, 22, 23, 24, 25] [5] trivial ?_ ?_ ?_ ?_
  · simp only [amset, amlib, zset, max_cast, max_cast1, max_cast2, max_nat, eq_self, ↓reduceIte, reduceCtorEq, Nat.reduceBEq, Nat.reduceEqDiff, Nat.reduceAdd, Nat.reduceMul, Nat.reduceLeDiff, Nat.reduceLT, Nat.reduceSub] <;> simp [depM, depM_append, depL, depL_append, depS_eq, Nat.max_assoc, Nat.max_comm, Nat.max_left_comm, max_cast, max_cast1, max_cast2, max_nat]
  · simp only [amset, amlib, zset, max_cast, max_cast1, max_cast2, max_nat, eq_self, ↓reduceIte, reduceCtorEq, Nat.reduceBEq, Nat.reduceEqDiff, Nat.reduceAdd, Nat.reduceMul, Nat.reduceLeDiff, Nat.reduceLT, Nat.reduceSub] <;> simp [depM, depM_append, depL, depL_append, depS_eq, Nat.max_assoc, Nat.max_comm, Nat.max_left_comm, max_cast, max_cast1, max_cast2, max_nat]
  · intro hI R
    refine aw_norm (by simp only [amset, amlib, zset, max_cast, max_cast1, max_cast2, max_nat, eq_self, ↓reduceIte, reduceCtorEq, Nat.reduceBEq, Nat.reduceEqDiff, Nat.reduceAdd, Nat.reduceMul, Nat.reduceLeDiff, Nat.reduceLT, Nat.reduceSub]; exact rfl) ?_
    refine aw_ops zT fun K5 hK5 => ?_
    simp only [amset, amlib, zset, max_cast, max_cast1, max_cast2, max_nat, eq_self, ↓reduceIte, reduceCtorEq, Nat.reduceBEq, Nat.reduceEqDiff, Nat.reduceAdd, Nat.reduceMul, Nat.reduceLeDiff, Nat.reduceLT, Nat.reduceSub]
    refine hK5 _ ?_
    clear hK5
    refine aw_seq fun K6 hK6 => ?_
    refine aw_cond (t := false) (by simp [evalO, S.get, amLook]) (fun h => nomatch h) (fun _ => ?_)
    refine aw_exit ?_
    simp only [thenQ, blkQ, if_true, reduceIte, Nat.reduceEqDiff, eq_self]
    refine hK3 _ ?_
    clear hK3
    refine aw_ops zT fun K7 hK7 => ?_
    simp only [amset, amlib, zset, max_cast, max_cast1, max_cast2, max_nat, eq_self, ↓reduceIte, reduceCtorEq, Nat.reduceBEq, Nat.reduceEqDiff, Nat.reduceAdd, Nat.reduceMul, Nat.reduceLeDiff, Nat.reduceLT, Nat.reduceSub]
    refine hK7 _ ?_
    clear hK7
    refine aw_ret ?_
    show resOf zG _ [.tmp 2] = some _
    simp only [amset, amlib, zset, max_cast, max_cast1, max_cast2, max_nat, eq_self, ↓reduceIte, reduceCtorEq, Nat.reduceBEq, Nat.reduceEqDiff, Nat.reduceAdd, Nat.reduceMul, Nat.reduceLeDiff, Nat.reduceLT, Nat.reduceSub]
  · intro dn y td harg hI R hR
    have hl : (l).length = dn.length + (td.length + 1) := by rw [harg]; simp
    have hmem : y ∈ l := by rw [harg]; simp
    refine aw_norm (by simp only [amset, amlib, zset, max_cast, max_cast1, max_cast2, max_nat, eq_self, ↓reduceIte, reduceCtorEq, Nat.reduceBEq, Nat.reduceEqDiff, Nat.reduceAdd, Nat.reduceMul, Nat.reduceLeDiff, Nat.reduceLT, Nat.reduceSub]; exact rfl) ?_
    have hget : (encSs (l)).getD dn.length [] = encS y := by rw [harg]; exact encSs_mid dn td y
    have hy := depM_mem hmem
    rw [depS_eq] at hy
    refine aw_ops zT fun K8 hK8 => ?_
    simp only [amset, amlib, zset, max_cast, max_cast1, max_cast2, max_nat, eq_self, ↓reduceIte, reduceCtorEq, Nat.reduceBEq, Nat.reduceEqDiff, Nat.reduceAdd, Nat.reduceMul, Nat.reduceLeDiff, Nat.reduceLT, Nat.reduceSub]
    refine hK8 _ ?_
    clear hK8
    refine aw_seq fun K9 hK9 => ?_
    refine aw_cond (t := true) (by simp [evalO, S.get, amLook]; omega) (fun _ => ?_) (fun h => nomatch h)
    refine aw_skip ?_
    simp only [thenQ, blkQ, if_true, reduceIte, Nat.reduceEqDiff, eq_self]
    refine hK9 _ ?_
    clear hK9
    refine aw_seq fun K10 hK10 => ?_
    refine aw_block ?_
    refine aw_ops zT fun K11 hK11 => ?_
    simp only [amset, amlib, zset, hget, max_cast, max_cast1, max_cast2, max_nat, eq_self, ↓reduceIte, reduceCtorEq, Nat.reduceBEq, Nat.reduceEqDiff, Nat.reduceAdd, Nat.reduceMul, Nat.reduceLeDiff, Nat.reduceLT, Nat.reduceSub]
    refine ⟨⟨by omega, by omega⟩, ?_⟩
    refine hK11 _ ?_
    clear hK11
    refine aw_draw_region zT prog_mixed ?_
    simp only [amset, amlib, zset, max_cast, max_cast1, max_cast2, max_nat, eq_self, ↓reduceIte, reduceCtorEq, Nat.reduceBEq, Nat.reduceEqDiff, Nat.reduceAdd, Nat.reduceMul, Nat.reduceLeDiff, Nat.reduceLT, Nat.reduceSub]
    refine ⟨_, holds197 y.args (by omega), ?_⟩
    simp only [later]
    simp only [amset, amlib, zset, max_cast, max_cast1, max_cast2, max_nat, eq_self, ↓reduceIte, reduceCtorEq, Nat.reduceBEq, Nat.reduceEqDiff, Nat.reduceAdd, Nat.reduceMul, Nat.reduceLeDiff, Nat.reduceLT, Nat.reduceSub]
    refine ⟨_, ih y.body (sizeOf_body hmem) (by omega), ?_⟩
    simp only [later]
    simp only [amset, amlib, zset, max_cast, max_cast1, max_cast2, max_nat, eq_self, ↓reduceIte, reduceCtorEq, Nat.reduceBEq, Nat.reduceEqDiff, Nat.reduceAdd, Nat.reduceMul, Nat.reduceLeDiff, Nat.reduceLT, Nat.reduceSub]
    refine ⟨_, ih y.els (sizeOf_els hmem) (by omega), ?_⟩
    simp only [later]
    simp only [amset, amlib, zset, max_cast, max_cast1, max_cast2, max_nat, eq_self, ↓reduceIte, reduceCtorEq, Nat.reduceBEq, Nat.reduceEqDiff, Nat.reduceAdd, Nat.reduceMul, Nat.reduceLeDiff, Nat.reduceLT, Nat.reduceSub]
    refine ⟨⟨by omega, by omega⟩, ?_⟩
    refine ⟨by kernel_rfl, ?_⟩
    refine hK10 _ ?_
    clear hK10
    refine aw_region zT ?_
    simp only [amset, amlib, zset, max_cast, max_cast1, max_cast2, max_nat, eq_self, ↓reduceIte, reduceCtorEq, Nat.reduceBEq, Nat.reduceEqDiff, Nat.reduceAdd, Nat.reduceMul, Nat.reduceLeDiff, Nat.reduceLT, Nat.reduceSub]
    refine ⟨⟨by omega, by omega⟩, ?_⟩
    refine hR _ trivial ?_
    refine Reach.to ?_ ?_
    · simp only [amset, amlib, zset, max_cast, max_cast1, max_cast2, max_nat, eq_self, ↓reduceIte, reduceCtorEq, Nat.reduceBEq, Nat.reduceEqDiff, Nat.reduceAdd, Nat.reduceMul, Nat.reduceLeDiff, Nat.reduceLT, Nat.reduceSub] <;> simp [depM, depM_append, depL, depL_append, depS_eq, Nat.max_assoc, Nat.max_comm, Nat.max_left_comm, max_cast, max_cast1, max_cast2, max_nat]
    · simp only [amset, amlib, zset, max_cast, max_cast1, max_cast2, max_nat, eq_self, ↓reduceIte, reduceCtorEq, Nat.reduceBEq, Nat.reduceEqDiff, Nat.reduceAdd, Nat.reduceMul, Nat.reduceLeDiff, Nat.reduceLT, Nat.reduceSub] <;> simp [depM, depM_append, depL, depL_append, depS_eq, Nat.max_assoc, Nat.max_comm, Nat.max_left_comm, max_cast, max_cast1, max_cast2, max_nat]
theorem holds157 (l : List St) (hb : depM l ≤ 1000000000000) : Holds Tryz.prog zG 157 [.c (.sl 7 (encSs l))] [.c (.int .i64 (depM l))] := step157 l hb fun m hm hb => holds157 m hb
  termination_by SizeOf.sizeOf l
  decreasing_by exact hm
theorem prog84 : Tryz.prog.funcs[84]? = some Tryz.f84 := by kernel_rfl
theorem holds84 (p : Pg) (hb : depT p.tasks ≤ 1000000000000) : Holds Tryz.prog zG 84 [.agg [.sl 3 (encCs p.consts), .sl 4 (encGs p.globals), .sl 1 (encStrs p.sensors), .sl 1 (encStrs p.outputs), .sl 3 (encHs p.channels), .sl 8 (encTs p.tasks)]] [.c (.int .i64 (depT p.tasks))] := by
  refine holds_of_body zT prog84 rfl rfl rfl (by simp [Tryz.f84]) ?_
  refine aw_ops zT fun K1 hK1 => ?_
  simp only [amset, amlib, zset, max_cast, max_cast1, eq_self, ↓reduceIte, reduceCtorEq, Nat.reduceBEq, Nat.reduceEqDiff, Nat.reduceAdd, Nat.reduceMul, Nat.reduceLeDiff, Nat.reduceLT, Nat.reduceSub]
  refine hK1 _ ?_
  clear hK1
  refine aw_ops zT fun K2 hK2 => ?_
  simp only [amset, amlib, zset, max_cast, max_cast1, eq_self, ↓reduceIte, reduceCtorEq, Nat.reduceBEq, Nat.reduceEqDiff, Nat.reduceAdd, Nat.reduceMul, Nat.reduceLeDiff, Nat.reduceLT, Nat.reduceSub]
  refine hK2 _ ?_
  clear hK2
  refine aw_seq fun K3 hK3 => ?_
  refine aw_ops zT fun K4 hK4 => ?_
  simp only [amset, amlib, zset, max_cast, max_cast1, eq_self, ↓reduceIte, reduceCtorEq, Nat.reduceBEq, Nat.reduceEqDiff, Nat.reduceAdd, Nat.reduceMul, Nat.reduceLeDiff, Nat.reduceLT, Nat.reduceSub]
  intros
  refine hK4 _ ?_
  clear hK4
  refine aw_block ?_
  refine aw_range (α := Tk) (p.tasks) (fun dn => True) (fun dn => [(3, .cell (.c (.int .i64 (depT dn : Nat)))), (9, .cell (.c (.int .i64 dn.length)))]) (fun dn => []) [] [3, 5, 9, 10, 11, 12, 13, 14, 15, 16, 17, 18] [5] trivial ?_ ?_ ?_ ?_
  · simp only [amset, amlib, zset, max_cast, max_cast1, eq_self, ↓reduceIte, reduceCtorEq, Nat.reduceBEq, Nat.reduceEqDiff, Nat.reduceAdd, Nat.reduceMul, Nat.reduceLeDiff, Nat.reduceLT, Nat.reduceSub] <;> simp [depT, depT_append, max_cast, max_nat, Nat.max_comm]
  · simp only [amset, amlib, zset, max_cast, max_cast1, eq_self, ↓reduceIte, reduceCtorEq, Nat.reduceBEq, Nat.reduceEqDiff, Nat.reduceAdd, Nat.reduceMul, Nat.reduceLeDiff, Nat.reduceLT, Nat.reduceSub] <;> simp [depT, depT_append, max_cast, max_nat, Nat.max_comm]
  · intro hI R
    refine aw_norm (by simp only [amset, amlib, zset, max_cast, max_cast1, eq_self, ↓reduceIte, reduceCtorEq, Nat.reduceBEq, Nat.reduceEqDiff, Nat.reduceAdd, Nat.reduceMul, Nat.reduceLeDiff, Nat.reduceLT, Nat.reduceSub]; exact rfl) ?_
    refine aw_ops zT fun K5 hK5 => ?_
    simp only [amset, amlib, zset, max_cast, max_cast1, eq_self, ↓reduceIte, reduceCtorEq, Nat.reduceBEq, Nat.reduceEqDiff, Nat.reduceAdd, Nat.reduceMul, Nat.reduceLeDiff, Nat.reduceLT, Nat.reduceSub]
    refine hK5 _ ?_
    clear hK5
    refine aw_seq fun K6 hK6 => ?_
    refine aw_cond (t := false) (by simp [evalO, S.get, amLook]) (fun h => nomatch h) (fun _ => ?_)
    refine aw_exit ?_
    simp only [thenQ, blkQ, if_true, reduceIte, Nat.reduceEqDiff, eq_self]
    refine hK3 _ ?_
    clear hK3
    refine aw_ops zT fun K7 hK7 => ?_
    simp only [amset, amlib, zset, max_cast, max_cast1, eq_self, ↓reduceIte, reduceCtorEq, Nat.reduceBEq, Nat.reduceEqDiff, Nat.reduceAdd, Nat.reduceMul, Nat.reduceLeDiff, Nat.reduceLT, Nat.reduceSub]
    refine hK7 _ ?_
    clear hK7
    refine aw_ret ?_
    show resOf zG _ [.tmp 2] = some _
    simp only [amset, amlib, zset, max_cast, max_cast1, eq_self, ↓reduceIte, reduceCtorEq, Nat.reduceBEq, Nat.reduceEqDiff, Nat.reduceAdd, Nat.reduceMul, Nat.reduceLeDiff, Nat.reduceLT, Nat.reduceSub]
  · intro dn y td harg hI R hR
    have hl : (p.tasks).length = dn.length + (td.length + 1) := by rw [harg]; simp
    have hmem : y ∈ p.tasks := by rw [harg]; simp
    refine aw_norm (by simp only [amset, amlib, zset, max_cast, max_cast1, eq_self, ↓reduceIte, reduceCtorEq, Nat.reduceBEq, Nat.reduceEqDiff, Nat.reduceAdd, Nat.reduceMul, Nat.reduceLeDiff, Nat.reduceLT, Nat.reduceSub]; exact rfl) ?_
    have hget : (encTs (p.tasks)).getD dn.length [] = encT y := by rw [harg]; exact encTs_mid dn td y
    have hy := depT_mem hmem
    refine aw_ops zT fun K8 hK8 => ?_
    simp only [amset, amlib, zset, max_cast, max_cast1, eq_self, ↓reduceIte, reduceCtorEq, Nat.reduceBEq, Nat.reduceEqDiff, Nat.reduceAdd, Nat.reduceMul, Nat.reduceLeDiff, Nat.reduceLT, Nat.reduceSub]
    refine hK8 _ ?_
    clear hK8
    refine aw_seq fun K9 hK9 => ?_
    refine aw_cond (t := true) (by simp [evalO, S.get, amLook]; omega) (fun _ => ?_) (fun h => nomatch h)
    refine aw_skip ?_
    simp only [thenQ, blkQ, if_true, reduceIte, Nat.reduceEqDiff, eq_self]
    refine hK9 _ ?_
    clear hK9
    refine aw_seq fun K10 hK10 => ?_
    refine aw_block ?_
    refine aw_ops zT fun K11 hK11 => ?_
    simp only [amset, amlib, zset, hget, max_cast, max_cast1, eq_self, ↓reduceIte, reduceCtorEq, Nat.reduceBEq, Nat.reduceEqDiff, Nat.reduceAdd, Nat.reduceMul, Nat.reduceLeDiff, Nat.reduceLT, Nat.reduceSub]
    refine ⟨⟨by omega, by omega⟩, ?_⟩
    refine hK11 _ ?_
    clear hK11
    refine aw_region zT ?_
    simp only [amset, amlib, zset, max_cast, max_cast1, eq_self, ↓reduceIte, reduceCtorEq, Nat.reduceBEq, Nat.reduceEqDiff, Nat.reduceAdd, Nat.reduceMul, Nat.reduceLeDiff, Nat.reduceLT, Nat.reduceSub]
    refine ⟨_, holds157 y.body (by omega), ?_⟩
    simp only [later]
    simp only [amset, amlib, zset, max_cast, max_cast1, eq_self, ↓reduceIte, reduceCtorEq, Nat.reduceBEq, Nat.reduceEqDiff, Nat.reduceAdd, Nat.reduceMul, Nat.reduceLeDiff, Nat.reduceLT, Nat.reduceSub]
    refine hK10 _ ?_
    clear hK10
    refine aw_region zT ?_
    simp only [amset, amlib, zset, max_cast, max_cast1, eq_self, ↓reduceIte, reduceCtorEq, Nat.reduceBEq, Nat.reduceEqDiff, Nat.reduceAdd, Nat.reduceMul, Nat.reduceLeDiff, Nat.reduceLT, Nat.reduceSub]
    refine ⟨⟨by omega, by omega⟩, ?_⟩
    refine hR _ trivial ?_
    refine Reach.to ?_ ?_
    · simp only [amset, amlib, zset, max_cast, max_cast1, eq_self, ↓reduceIte, reduceCtorEq, Nat.reduceBEq, Nat.reduceEqDiff, Nat.reduceAdd, Nat.reduceMul, Nat.reduceLeDiff, Nat.reduceLT, Nat.reduceSub] <;> simp [depT, depT_append, max_cast, max_nat, Nat.max_comm]
    · simp only [amset, amlib, zset, max_cast, max_cast1, eq_self, ↓reduceIte, reduceCtorEq, Nat.reduceBEq, Nat.reduceEqDiff, Nat.reduceAdd, Nat.reduceMul, Nat.reduceLeDiff, Nat.reduceLT, Nat.reduceSub] <;> simp [depT, depT_append, max_cast, max_nat, Nat.max_comm]
end Go.Proofs.Am
set_option maxRecDepth 100000
set_option maxHeartbeats 4000000
namespace Go.Proofs.Am
mutual
def eqE : Ex → Ex → Bool
  | .mk k n v o a _, .mk k' n' v' o' a' _ => k == k' && n == n' && v == v' && o == o' && eqL a a'
def eqL : List Ex → List Ex → Bool
  | [], [] => true
  | x :: r, y :: s => eqE x y && eqL r s
  | _, _ => false
end
theorem eqE_eq (x y : Ex) : eqE x y = (x.kind == y.kind && x.name == y.name && x.value == y.value && x.op == y.op && eqL x.args y.args) := by cases x; cases y; simp [eqE, Ex.kind, Ex.name, Ex.value, Ex.op, Ex.args]
/-- The member at the same place. -/
theorem take_snoc {α : Type} {a p r : List α} {z : α} {n : Nat} (h : a = p ++ z :: r) (hp : p.length = n) : a.take (n + 1) = p ++ [z] := by
  subst hp
  rw [h, List.take_append]
  simp
  exact List.take_of_length_le (by omega)
theorem at_same {α : Type} {a : List α} (n : Nat) (h : n < a.length) : ∃ y r, a = a.take n ++ y :: r ∧ y ∈ a ∧ (a.take n).length = n := by
  refine ⟨a[n], a.drop (n + 1), ?_, List.getElem_mem h, by simp; omega⟩
  rw [List.getElem_cons_drop, List.take_append_drop]
end Go.Proofs.Am
set_option maxRecDepth 100000
set_option maxHeartbeats 4000000
namespace Go.Proofs.Am
mutual
def eqS : St → St → Bool
  | .mk k n v a b e _, .mk k' n' v' a' b' e' _ => k == k' && n == n' && v == v' && eqL a a' && eqM b b' && eqM e e'
def eqM : List St → List St → Bool
  | [], [] => true
  | x :: r, y :: s => eqS x y && eqM r s
  | _, _ => false
end
theorem eqS_eq (x y : St) : eqS x y = (x.kind == y.kind && x.name == y.name && x.n == y.n && eqL x.args y.args && eqM x.body y.body && eqM x.els y.els) := by cases x; cases y; simp [eqS, St.kind, St.name, St.n, St.args, St.body, St.els]
end Go.Proofs.Am
set_option maxRecDepth 100000
set_option maxHeartbeats 4000000
namespace Go.Proofs.Am
def all2 {α : Type} (p : α → α → Bool) : List α → List α → Bool
  | [], [] => true
  | x :: r, y :: s => p x y && all2 p r s
  | _, _ => false
theorem all2_len {α : Type} {p : α → α → Bool} {a b : List α} (h : all2 p a b = true) : a.length = b.length := by
  induction a generalizing b with
  | nil => cases b with
    | nil => rfl
    | cons => cases h
  | cons x r ih => cases b with
    | nil => cases h
    | cons y s => simp only [all2, Bool.and_eq_true] at h; simp [ih h.2]
theorem all2_ne {α : Type} {p : α → α → Bool} {a b : List α} (h : ¬ (a.length : Int) = b.length) : all2 p a b = false := by
  cases hh : all2 p a b with
  | false => rfl
  | true => exact absurd (by rw [all2_len hh]) h
theorem all2_snoc {α : Type} {p : α → α → Bool} {a b : List α} {x y : α} (h : a.length = b.length) : all2 p (a ++ [x]) (b ++ [y]) = (all2 p a b && p x y) := by
  induction a generalizing b with
  | nil => cases b with
    | nil => simp [all2]
    | cons => simp at h
  | cons z r ih => cases b with
    | nil => simp at h
    | cons w s => simp only [List.cons_append, all2, ih (by simpa using h), Bool.and_assoc]
theorem all2_fail {α : Type} {p : α → α → Bool} {a b : List α} {x y : α} {c d : List α} (h : a.length = b.length) (hf : p x y = false) : all2 p (a ++ x :: c) (b ++ y :: d) = false := by
  induction a generalizing b with
  | nil => cases b with
    | nil => simp [all2, hf]
    | cons => simp at h
  | cons z r ih => cases b with
    | nil => simp at h
    | cons w s => simp only [List.cons_append, all2, ih (by simpa using h), Bool.and_false]
theorem all2_eqE : ∀ a b : List Ex, all2 eqE a b = eqL a b
  | [], [] => rfl
  | [], _ :: _ => rfl
  | _ :: _, [] => rfl
  | x :: r, y :: s => by rw [all2, eqL, all2_eqE r s]
theorem all2_eqS : ∀ a b : List St, all2 eqS a b = eqM a b
  | [], [] => rfl
  | [], _ :: _ => rfl
  | _ :: _, [] => rfl
  | x :: r, y :: s => by rw [all2, eqM, all2_eqS r s]
def eqC (x y : Cn) : Bool := x.name == y.name && x.value == y.value
def eqG (x y : Gl) : Bool := x.name == y.name && x.len == y.len && x.init == y.init
def eqH (x y : Ch) : Bool := x.name == y.name && x.cap == y.cap
def eqT (x y : Tk) : Bool := x.name == y.name && x.period == y.period && x.deadline == y.deadline && x.channel == y.channel && x.param == y.param && x.within == y.within && eqM x.body y.body
def eqStr (x y : List UInt8) : Bool := x == y
def eqP (x y : Pg) : Bool := all2 eqC x.consts y.consts && all2 eqG x.globals y.globals && all2 eqStr x.sensors y.sensors && all2 eqStr x.outputs y.outputs && all2 eqH x.channels y.channels && all2 eqT x.tasks y.tasks
theorem prog115 : Tryz.prog.funcs[115]? = some Tryz.f115 := by kernel_rfl
theorem holds115 (F : Nat) (p : Ex → Ex → Bool) (l m : List Ex) (hF : ∀ x ∈ l, ∀ y, Holds Tryz.prog zG F [.agg [.int .i64 x.kind, .str x.name, .int .i16 x.value, .int .i64 x.op, .sl 6 (encEs x.args), .int .i64 x.pos], .agg [.int .i64 y.kind, .str y.name, .int .i16 y.value, .int .i64 y.op, .sl 6 (encEs y.args), .int .i64 y.pos]] [.c (.bool (p x y))]) : Holds Tryz.prog zG 115 [.c (.sl 6 (encEs l)), .c (.sl 6 (encEs m)), .c (.fn F)] [.c (.bool (all2 p l m))] := by
  refine holds_of_body zT prog115 rfl rfl rfl (by simp [Tryz.f115]) ?_
  refine aw_ops zT fun K1 hK1 => ?_
  simp only [amset, amlib, zset, eq_self, ↓reduceIte, reduceCtorEq, Nat.reduceBEq, Nat.reduceEqDiff, Nat.reduceAdd, Nat.reduceMul, Nat.reduceLeDiff, Nat.reduceLT, Nat.reduceSub]
  refine hK1 _ ?_
  clear hK1
  refine aw_seq fun K2 hK2 => ?_
  refine aw_ops zT fun K3 hK3 => ?_
  simp only [amset, amlib, zset, eq_self, ↓reduceIte, reduceCtorEq, Nat.reduceBEq, Nat.reduceEqDiff, Nat.reduceAdd, Nat.reduceMul, Nat.reduceLeDiff, Nat.reduceLT, Nat.reduceSub]
  intros
  intros
  refine hK3 _ ?_
  clear hK3
  refine aw_cond rfl (fun h0 => ?_) (fun h0 => ?_)
  · skip
    refine aw_ops zT fun K4 hK4 => ?_
    simp only [amset, amlib, zset, eq_self, ↓reduceIte, reduceCtorEq, Nat.reduceBEq, Nat.reduceEqDiff, Nat.reduceAdd, Nat.reduceMul, Nat.reduceLeDiff, Nat.reduceLT, Nat.reduceSub]
    refine hK4 _ ?_
    clear hK4
    refine aw_ret ?_
    show resOf zG _ [.tmp 6] = some _
    simp only [amset, amlib, zset, eq_self, ↓reduceIte, reduceCtorEq, Nat.reduceBEq, Nat.reduceEqDiff, Nat.reduceAdd, Nat.reduceMul, Nat.reduceLeDiff, Nat.reduceLT, Nat.reduceSub]
    rw [all2_ne (by simpa using h0)]
  · skip
    refine aw_skip ?_
    simp only [thenQ, blkQ, if_true, reduceIte, Nat.reduceEqDiff, eq_self]
    refine hK2 _ ?_
    clear hK2
    refine aw_seq fun K5 hK5 => ?_
    refine aw_ops zT fun K6 hK6 => ?_
    simp only [amset, amlib, zset, eq_self, ↓reduceIte, reduceCtorEq, Nat.reduceBEq, Nat.reduceEqDiff, Nat.reduceAdd, Nat.reduceMul, Nat.reduceLeDiff, Nat.reduceLT, Nat.reduceSub]
    intros
    refine hK6 _ ?_
    clear hK6
    refine aw_block ?_
    refine aw_range (α := Ex) (l) (fun dn => all2 p dn (m.take dn.length) = true) (fun dn => [(17, .cell (.c (.int .i64 dn.length)))]) (fun dn => []) [] [6, 7, 8, 9, 17, 18, 19, 20, 21, 22, 23, 24, 25, 26, 27, 28, 29, 30, 31] [8, 9] rfl ?_ ?_ ?_ ?_
    · simp only [amset, amlib, zset, eq_self, ↓reduceIte, reduceCtorEq, Nat.reduceBEq, Nat.reduceEqDiff, Nat.reduceAdd, Nat.reduceMul, Nat.reduceLeDiff, Nat.reduceLT, Nat.reduceSub] <;> simp [eq_self]
    · simp only [amset, amlib, zset, eq_self, ↓reduceIte, reduceCtorEq, Nat.reduceBEq, Nat.reduceEqDiff, Nat.reduceAdd, Nat.reduceMul, Nat.reduceLeDiff, Nat.reduceLT, Nat.reduceSub] <;> simp [eq_self]
    · intro hI R
      refine aw_norm (by simp only [amset, amlib, zset, eq_self, ↓reduceIte, reduceCtorEq, Nat.reduceBEq, Nat.reduceEqDiff, Nat.reduceAdd, Nat.reduceMul, Nat.reduceLeDiff, Nat.reduceLT, Nat.reduceSub]; exact rfl) ?_
      refine aw_ops zT fun K7 hK7 => ?_
      simp only [amset, amlib, zset, eq_self, ↓reduceIte, reduceCtorEq, Nat.reduceBEq, Nat.reduceEqDiff, Nat.reduceAdd, Nat.reduceMul, Nat.reduceLeDiff, Nat.reduceLT, Nat.reduceSub]
      refine hK7 _ ?_
      clear hK7
      refine aw_seq fun K8 hK8 => ?_
      refine aw_cond (t := false) (by simp [evalO, S.get, amLook]) (fun h => nomatch h) (fun _ => ?_)
      refine aw_exit ?_
      simp only [thenQ, blkQ, if_true, reduceIte, Nat.reduceEqDiff, eq_self]
      refine hK5 _ ?_
      clear hK5
      refine aw_ops zT fun K9 hK9 => ?_
      simp only [amset, amlib, zset, eq_self, ↓reduceIte, reduceCtorEq, Nat.reduceBEq, Nat.reduceEqDiff, Nat.reduceAdd, Nat.reduceMul, Nat.reduceLeDiff, Nat.reduceLT, Nat.reduceSub]
      refine hK9 _ ?_
      clear hK9
      refine aw_ret ?_
      show resOf zG _ [.tmp 6] = some _
      simp only [amset, amlib, zset, eq_self, ↓reduceIte, reduceCtorEq, Nat.reduceBEq, Nat.reduceEqDiff, Nat.reduceAdd, Nat.reduceMul, Nat.reduceLeDiff, Nat.reduceLT, Nat.reduceSub]
      have h5 : m.length = l.length := by simp at h0; omega
      rw [← h5, List.take_length] at hI
      rw [hI]
    · intro dn y td harg hI R hR
      have hl : (l).length = dn.length + (td.length + 1) := by rw [harg]; simp
      have hmem : y ∈ l := by rw [harg]; simp
      refine aw_norm (by simp only [amset, amlib, zset, eq_self, ↓reduceIte, reduceCtorEq, Nat.reduceBEq, Nat.reduceEqDiff, Nat.reduceAdd, Nat.reduceMul, Nat.reduceLeDiff, Nat.reduceLT, Nat.reduceSub]; exact rfl) ?_
      have hget : (encEs (l)).getD dn.length [] = encE y := by rw [harg]; exact encEs_mid dn td y
      have hlen2 : dn.length < m.length := by simp at h0; omega
      obtain ⟨z, rz, hz, hzm, hzl⟩ := at_same (a := m) dn.length hlen2
      have hget2 : (encEs m).getD dn.length [] = encE z := by
        have := encEs_mid (m.take dn.length) rz z
        rw [← hz, hzl] at this
        exact this
      refine aw_ops zT fun K10 hK10 => ?_
      simp only [amset, amlib, zset, eq_self, ↓reduceIte, reduceCtorEq, Nat.reduceBEq, Nat.reduceEqDiff, Nat.reduceAdd, Nat.reduceMul, Nat.reduceLeDiff, Nat.reduceLT, Nat.reduceSub]
      refine hK10 _ ?_
      clear hK10
      refine aw_seq fun K11 hK11 => ?_
      refine aw_cond (t := true) (by simp [evalO, S.get, amLook]; omega) (fun _ => ?_) (fun h => nomatch h)
      refine aw_skip ?_
      simp only [thenQ, blkQ, if_true, reduceIte, Nat.reduceEqDiff, eq_self]
      refine hK11 _ ?_
      clear hK11
      refine aw_seq fun K12 hK12 => ?_
      refine aw_block ?_
      refine aw_ops zT fun K13 hK13 => ?_
      simp only [amset, amlib, zset, hget, hget2, eq_self, ↓reduceIte, reduceCtorEq, Nat.reduceBEq, Nat.reduceEqDiff, Nat.reduceAdd, Nat.reduceMul, Nat.reduceLeDiff, Nat.reduceLT, Nat.reduceSub]
      refine ⟨⟨by omega, by omega⟩, ?_⟩
      refine hK13 _ ?_
      clear hK13
      refine aw_ops zT fun K14 hK14 => ?_
      simp only [amset, amlib, zset, hget, hget2, eq_self, ↓reduceIte, reduceCtorEq, Nat.reduceBEq, Nat.reduceEqDiff, Nat.reduceAdd, Nat.reduceMul, Nat.reduceLeDiff, Nat.reduceLT, Nat.reduceSub]
      refine ⟨⟨by omega, by omega⟩, ?_⟩
      refine hK14 _ ?_
      clear hK14
      refine aw_ops zT fun K15 hK15 => ?_
      simp only [amset, amlib, zset, eq_self, ↓reduceIte, reduceCtorEq, Nat.reduceBEq, Nat.reduceEqDiff, Nat.reduceAdd, Nat.reduceMul, Nat.reduceLeDiff, Nat.reduceLT, Nat.reduceSub]
      refine ⟨_, hF y hmem z, ?_⟩
      simp only [later]
      simp only [amset, amlib, zset, eq_self, ↓reduceIte, reduceCtorEq, Nat.reduceBEq, Nat.reduceEqDiff, Nat.reduceAdd, Nat.reduceMul, Nat.reduceLeDiff, Nat.reduceLT, Nat.reduceSub]
      refine hK15 _ ?_
      clear hK15
      refine aw_cond rfl (fun h1 => ?_) (fun h1 => ?_)
      · skip
        refine aw_ops zT fun K16 hK16 => ?_
        simp only [amset, amlib, zset, eq_self, ↓reduceIte, reduceCtorEq, Nat.reduceBEq, Nat.reduceEqDiff, Nat.reduceAdd, Nat.reduceMul, Nat.reduceLeDiff, Nat.reduceLT, Nat.reduceSub]
        refine hK16 _ ?_
        clear hK16
        refine aw_ret ?_
        show resOf zG _ [.tmp 6] = some _
        simp only [amset, amlib, zset, eq_self, ↓reduceIte, reduceCtorEq, Nat.reduceBEq, Nat.reduceEqDiff, Nat.reduceAdd, Nat.reduceMul, Nat.reduceLeDiff, Nat.reduceLT, Nat.reduceSub]
        rw [harg, hz, all2_fail hzl.symm (by simpa using h1)]
      · skip
        refine aw_skip ?_
        simp only [thenQ, blkQ, if_true, reduceIte, Nat.reduceEqDiff, eq_self]
        refine hK12 _ ?_
        clear hK12
        refine aw_region zT ?_
        simp only [amset, amlib, zset, eq_self, ↓reduceIte, reduceCtorEq, Nat.reduceBEq, Nat.reduceEqDiff, Nat.reduceAdd, Nat.reduceMul, Nat.reduceLeDiff, Nat.reduceLT, Nat.reduceSub]
        refine ⟨⟨by omega, by omega⟩, ?_⟩
        refine hR _ (by rw [show (dn ++ [y]).length = dn.length + 1 by simp, take_snoc hz hzl, all2_snoc hzl.symm, hI, Bool.true_and]; simpa using h1) ?_
        refine Reach.to ?_ ?_
        · simp only [amset, amlib, zset, eq_self, ↓reduceIte, reduceCtorEq, Nat.reduceBEq, Nat.reduceEqDiff, Nat.reduceAdd, Nat.reduceMul, Nat.reduceLeDiff, Nat.reduceLT, Nat.reduceSub] <;> simp [eq_self]
        · simp only [amset, amlib, zset, eq_self, ↓reduceIte, reduceCtorEq, Nat.reduceBEq, Nat.reduceEqDiff, Nat.reduceAdd, Nat.reduceMul, Nat.reduceLeDiff, Nat.reduceLT, Nat.reduceSub] <;> simp [eq_self]
theorem prog175 : Tryz.prog.funcs[175]? = some Tryz.f175 := by kernel_rfl
theorem holds175 (F : Nat) (p : St → St → Bool) (l m : List St) (hF : ∀ x ∈ l, ∀ y, Holds Tryz.prog zG F [.agg [.int .i64 x.kind, .str x.name, .int .i64 x.n, .sl 6 (encEs x.args), .sl 7 (encSs x.body), .sl 7 (encSs x.els), .int .i64 x.pos], .agg [.int .i64 y.kind, .str y.name, .int .i64 y.n, .sl 6 (encEs y.args), .sl 7 (encSs y.body), .sl 7 (encSs y.els), .int .i64 y.pos]] [.c (.bool (p x y))]) : Holds Tryz.prog zG 175 [.c (.sl 7 (encSs l)), .c (.sl 7 (encSs m)), .c (.fn F)] [.c (.bool (all2 p l m))] := by
  refine holds_of_body zT prog175 rfl rfl rfl (by simp [Tryz.f175]) ?_
  refine aw_ops zT fun K1 hK1 => ?_
  simp only [amset, amlib, zset, eq_self, ↓reduceIte, reduceCtorEq, Nat.reduceBEq, Nat.reduceEqDiff, Nat.reduceAdd, Nat.reduceMul, Nat.reduceLeDiff, Nat.reduceLT, Nat.reduceSub]
  refine hK1 _ ?_
  clear hK1
  refine aw_seq fun K2 hK2 => ?_
  refine aw_ops zT fun K3 hK3 => ?_
  simp only [amset, amlib, zset, eq_self, ↓reduceIte, reduceCtorEq, Nat.reduceBEq, Nat.reduceEqDiff, Nat.reduceAdd, Nat.reduceMul, Nat.reduceLeDiff, Nat.reduceLT, Nat.reduceSub]
  intros
  intros
  refine hK3 _ ?_
  clear hK3
  refine aw_cond rfl (fun h0 => ?_) (fun h0 => ?_)
  · skip
    refine aw_ops zT fun K4 hK4 => ?_
    simp only [amset, amlib, zset, eq_self, ↓reduceIte, reduceCtorEq, Nat.reduceBEq, Nat.reduceEqDiff, Nat.reduceAdd, Nat.reduceMul, Nat.reduceLeDiff, Nat.reduceLT, Nat.reduceSub]
    refine hK4 _ ?_
    clear hK4
    refine aw_ret ?_
    show resOf zG _ [.tmp 6] = some _
    simp only [amset, amlib, zset, eq_self, ↓reduceIte, reduceCtorEq, Nat.reduceBEq, Nat.reduceEqDiff, Nat.reduceAdd, Nat.reduceMul, Nat.reduceLeDiff, Nat.reduceLT, Nat.reduceSub]
    rw [all2_ne (by simpa using h0)]
  · skip
    refine aw_skip ?_
    simp only [thenQ, blkQ, if_true, reduceIte, Nat.reduceEqDiff, eq_self]
    refine hK2 _ ?_
    clear hK2
    refine aw_seq fun K5 hK5 => ?_
    refine aw_ops zT fun K6 hK6 => ?_
    simp only [amset, amlib, zset, eq_self, ↓reduceIte, reduceCtorEq, Nat.reduceBEq, Nat.reduceEqDiff, Nat.reduceAdd, Nat.reduceMul, Nat.reduceLeDiff, Nat.reduceLT, Nat.reduceSub]
    intros
    refine hK6 _ ?_
    clear hK6
    refine aw_block ?_
    refine aw_range (α := St) (l) (fun dn => all2 p dn (m.take dn.length) = true) (fun dn => [(17, .cell (.c (.int .i64 dn.length)))]) (fun dn => []) [] [6, 7, 8, 9, 17, 18, 19, 20, 21, 22, 23, 24, 25, 26, 27, 28, 29, 30, 31] [8, 9] rfl ?_ ?_ ?_ ?_
    · simp only [amset, amlib, zset, eq_self, ↓reduceIte, reduceCtorEq, Nat.reduceBEq, Nat.reduceEqDiff, Nat.reduceAdd, Nat.reduceMul, Nat.reduceLeDiff, Nat.reduceLT, Nat.reduceSub] <;> simp [eq_self]
    · simp only [amset, amlib, zset, eq_self, ↓reduceIte, reduceCtorEq, Nat.reduceBEq, Nat.reduceEqDiff, Nat.reduceAdd, Nat.reduceMul, Nat.reduceLeDiff, Nat.reduceLT, Nat.reduceSub] <;> simp [eq_self]
    · intro hI R
      refine aw_norm (by simp only [amset, amlib, zset, eq_self, ↓reduceIte, reduceCtorEq, Nat.reduceBEq, Nat.reduceEqDiff, Nat.reduceAdd, Nat.reduceMul, Nat.reduceLeDiff, Nat.reduceLT, Nat.reduceSub]; exact rfl) ?_
      refine aw_ops zT fun K7 hK7 => ?_
      simp only [amset, amlib, zset, eq_self, ↓reduceIte, reduceCtorEq, Nat.reduceBEq, Nat.reduceEqDiff, Nat.reduceAdd, Nat.reduceMul, Nat.reduceLeDiff, Nat.reduceLT, Nat.reduceSub]
      refine hK7 _ ?_
      clear hK7
      refine aw_seq fun K8 hK8 => ?_
      refine aw_cond (t := false) (by simp [evalO, S.get, amLook]) (fun h => nomatch h) (fun _ => ?_)
      refine aw_exit ?_
      simp only [thenQ, blkQ, if_true, reduceIte, Nat.reduceEqDiff, eq_self]
      refine hK5 _ ?_
      clear hK5
      refine aw_ops zT fun K9 hK9 => ?_
      simp only [amset, amlib, zset, eq_self, ↓reduceIte, reduceCtorEq, Nat.reduceBEq, Nat.reduceEqDiff, Nat.reduceAdd, Nat.reduceMul, Nat.reduceLeDiff, Nat.reduceLT, Nat.reduceSub]
      refine hK9 _ ?_
      clear hK9
      refine aw_ret ?_
      show resOf zG _ [.tmp 6] = some _
      simp only [amset, amlib, zset, eq_self, ↓reduceIte, reduceCtorEq, Nat.reduceBEq, Nat.reduceEqDiff, Nat.reduceAdd, Nat.reduceMul, Nat.reduceLeDiff, Nat.reduceLT, Nat.reduceSub]
      have h5 : m.length = l.length := by simp at h0; omega
      rw [← h5, List.take_length] at hI
      rw [hI]
    · intro dn y td harg hI R hR
      have hl : (l).length = dn.length + (td.length + 1) := by rw [harg]; simp
      have hmem : y ∈ l := by rw [harg]; simp
      refine aw_norm (by simp only [amset, amlib, zset, eq_self, ↓reduceIte, reduceCtorEq, Nat.reduceBEq, Nat.reduceEqDiff, Nat.reduceAdd, Nat.reduceMul, Nat.reduceLeDiff, Nat.reduceLT, Nat.reduceSub]; exact rfl) ?_
      have hget : (encSs (l)).getD dn.length [] = encS y := by rw [harg]; exact encSs_mid dn td y
      have hlen2 : dn.length < m.length := by simp at h0; omega
      obtain ⟨z, rz, hz, hzm, hzl⟩ := at_same (a := m) dn.length hlen2
      have hget2 : (encSs m).getD dn.length [] = encS z := by
        have := encSs_mid (m.take dn.length) rz z
        rw [← hz, hzl] at this
        exact this
      refine aw_ops zT fun K10 hK10 => ?_
      simp only [amset, amlib, zset, eq_self, ↓reduceIte, reduceCtorEq, Nat.reduceBEq, Nat.reduceEqDiff, Nat.reduceAdd, Nat.reduceMul, Nat.reduceLeDiff, Nat.reduceLT, Nat.reduceSub]
      refine hK10 _ ?_
      clear hK10
      refine aw_seq fun K11 hK11 => ?_
      refine aw_cond (t := true) (by simp [evalO, S.get, amLook]; omega) (fun _ => ?_) (fun h => nomatch h)
      refine aw_skip ?_
      simp only [thenQ, blkQ, if_true, reduceIte, Nat.reduceEqDiff, eq_self]
      refine hK11 _ ?_
      clear hK11
      refine aw_seq fun K12 hK12 => ?_
      refine aw_block ?_
      refine aw_ops zT fun K13 hK13 => ?_
      simp only [amset, amlib, zset, hget, hget2, eq_self, ↓reduceIte, reduceCtorEq, Nat.reduceBEq, Nat.reduceEqDiff, Nat.reduceAdd, Nat.reduceMul, Nat.reduceLeDiff, Nat.reduceLT, Nat.reduceSub]
      refine ⟨⟨by omega, by omega⟩, ?_⟩
      refine hK13 _ ?_
      clear hK13
      refine aw_ops zT fun K14 hK14 => ?_
      simp only [amset, amlib, zset, hget, hget2, eq_self, ↓reduceIte, reduceCtorEq, Nat.reduceBEq, Nat.reduceEqDiff, Nat.reduceAdd, Nat.reduceMul, Nat.reduceLeDiff, Nat.reduceLT, Nat.reduceSub]
      refine ⟨⟨by omega, by omega⟩, ?_⟩
      refine hK14 _ ?_
      clear hK14
      refine aw_ops zT fun K15 hK15 => ?_
      simp only [amset, amlib, zset, eq_self, ↓reduceIte, reduceCtorEq, Nat.reduceBEq, Nat.reduceEqDiff, Nat.reduceAdd, Nat.reduceMul, Nat.reduceLeDiff, Nat.reduceLT, Nat.reduceSub]
      refine ⟨_, hF y hmem z, ?_⟩
      simp only [later]
      simp only [amset, amlib, zset, eq_self, ↓reduceIte, reduceCtorEq, Nat.reduceBEq, Nat.reduceEqDiff, Nat.reduceAdd, Nat.reduceMul, Nat.reduceLeDiff, Nat.reduceLT, Nat.reduceSub]
      refine hK15 _ ?_
      clear hK15
      refine aw_cond rfl (fun h1 => ?_) (fun h1 => ?_)
      · skip
        refine aw_ops zT fun K16 hK16 => ?_
        simp only [amset, amlib, zset, eq_self, ↓reduceIte, reduceCtorEq, Nat.reduceBEq, Nat.reduceEqDiff, Nat.reduceAdd, Nat.reduceMul, Nat.reduceLeDiff, Nat.reduceLT, Nat.reduceSub]
        refine hK16 _ ?_
        clear hK16
        refine aw_ret ?_
        show resOf zG _ [.tmp 6] = some _
        simp only [amset, amlib, zset, eq_self, ↓reduceIte, reduceCtorEq, Nat.reduceBEq, Nat.reduceEqDiff, Nat.reduceAdd, Nat.reduceMul, Nat.reduceLeDiff, Nat.reduceLT, Nat.reduceSub]
        rw [harg, hz, all2_fail hzl.symm (by simpa using h1)]
      · skip
        refine aw_skip ?_
        simp only [thenQ, blkQ, if_true, reduceIte, Nat.reduceEqDiff, eq_self]
        refine hK12 _ ?_
        clear hK12
        refine aw_region zT ?_
        simp only [amset, amlib, zset, eq_self, ↓reduceIte, reduceCtorEq, Nat.reduceBEq, Nat.reduceEqDiff, Nat.reduceAdd, Nat.reduceMul, Nat.reduceLeDiff, Nat.reduceLT, Nat.reduceSub]
        refine ⟨⟨by omega, by omega⟩, ?_⟩
        refine hR _ (by rw [show (dn ++ [y]).length = dn.length + 1 by simp, take_snoc hz hzl, all2_snoc hzl.symm, hI, Bool.true_and]; simpa using h1) ?_
        refine Reach.to ?_ ?_
        · simp only [amset, amlib, zset, eq_self, ↓reduceIte, reduceCtorEq, Nat.reduceBEq, Nat.reduceEqDiff, Nat.reduceAdd, Nat.reduceMul, Nat.reduceLeDiff, Nat.reduceLT, Nat.reduceSub] <;> simp [eq_self]
        · simp only [amset, amlib, zset, eq_self, ↓reduceIte, reduceCtorEq, Nat.reduceBEq, Nat.reduceEqDiff, Nat.reduceAdd, Nat.reduceMul, Nat.reduceLeDiff, Nat.reduceLT, Nat.reduceSub] <;> simp [eq_self]
theorem prog105 : Tryz.prog.funcs[105]? = some Tryz.f105 := by kernel_rfl
theorem holds105 (F : Nat) (p : Cn → Cn → Bool) (l m : List Cn) (hF : ∀ x ∈ l, ∀ y, Holds Tryz.prog zG F [.agg [.str x.name, .int .i16 x.value, .int .i64 x.pos], .agg [.str y.name, .int .i16 y.value, .int .i64 y.pos]] [.c (.bool (p x y))]) : Holds Tryz.prog zG 105 [.c (.sl 3 (encCs l)), .c (.sl 3 (encCs m)), .c (.fn F)] [.c (.bool (all2 p l m))] := by
  refine holds_of_body zT prog105 rfl rfl rfl (by simp [Tryz.f105]) ?_
  refine aw_ops zT fun K1 hK1 => ?_
  simp only [amset, amlib, zset, eq_self, ↓reduceIte, reduceCtorEq, Nat.reduceBEq, Nat.reduceEqDiff, Nat.reduceAdd, Nat.reduceMul, Nat.reduceLeDiff, Nat.reduceLT, Nat.reduceSub]
  refine hK1 _ ?_
  clear hK1
  refine aw_seq fun K2 hK2 => ?_
  refine aw_ops zT fun K3 hK3 => ?_
  simp only [amset, amlib, zset, eq_self, ↓reduceIte, reduceCtorEq, Nat.reduceBEq, Nat.reduceEqDiff, Nat.reduceAdd, Nat.reduceMul, Nat.reduceLeDiff, Nat.reduceLT, Nat.reduceSub]
  intros
  intros
  refine hK3 _ ?_
  clear hK3
  refine aw_cond rfl (fun h0 => ?_) (fun h0 => ?_)
  · skip
    refine aw_ops zT fun K4 hK4 => ?_
    simp only [amset, amlib, zset, eq_self, ↓reduceIte, reduceCtorEq, Nat.reduceBEq, Nat.reduceEqDiff, Nat.reduceAdd, Nat.reduceMul, Nat.reduceLeDiff, Nat.reduceLT, Nat.reduceSub]
    refine hK4 _ ?_
    clear hK4
    refine aw_ret ?_
    show resOf zG _ [.tmp 6] = some _
    simp only [amset, amlib, zset, eq_self, ↓reduceIte, reduceCtorEq, Nat.reduceBEq, Nat.reduceEqDiff, Nat.reduceAdd, Nat.reduceMul, Nat.reduceLeDiff, Nat.reduceLT, Nat.reduceSub]
    rw [all2_ne (by simpa using h0)]
  · skip
    refine aw_skip ?_
    simp only [thenQ, blkQ, if_true, reduceIte, Nat.reduceEqDiff, eq_self]
    refine hK2 _ ?_
    clear hK2
    refine aw_seq fun K5 hK5 => ?_
    refine aw_ops zT fun K6 hK6 => ?_
    simp only [amset, amlib, zset, eq_self, ↓reduceIte, reduceCtorEq, Nat.reduceBEq, Nat.reduceEqDiff, Nat.reduceAdd, Nat.reduceMul, Nat.reduceLeDiff, Nat.reduceLT, Nat.reduceSub]
    intros
    refine hK6 _ ?_
    clear hK6
    refine aw_block ?_
    refine aw_range (α := Cn) (l) (fun dn => all2 p dn (m.take dn.length) = true) (fun dn => [(17, .cell (.c (.int .i64 dn.length)))]) (fun dn => []) [] [6, 7, 8, 9, 17, 18, 19, 20, 21, 22, 23, 24, 25, 26, 27, 28, 29, 30, 31] [8, 9] rfl ?_ ?_ ?_ ?_
    · simp only [amset, amlib, zset, eq_self, ↓reduceIte, reduceCtorEq, Nat.reduceBEq, Nat.reduceEqDiff, Nat.reduceAdd, Nat.reduceMul, Nat.reduceLeDiff, Nat.reduceLT, Nat.reduceSub] <;> simp [eq_self]
    · simp only [amset, amlib, zset, eq_self, ↓reduceIte, reduceCtorEq, Nat.reduceBEq, Nat.reduceEqDiff, Nat.reduceAdd, Nat.reduceMul, Nat.reduceLeDiff, Nat.reduceLT, Nat.reduceSub] <;> simp [eq_self]
    · intro hI R
      refine aw_norm (by simp only [amset, amlib, zset, eq_self, ↓reduceIte, reduceCtorEq, Nat.reduceBEq, Nat.reduceEqDiff, Nat.reduceAdd, Nat.reduceMul, Nat.reduceLeDiff, Nat.reduceLT, Nat.reduceSub]; exact rfl) ?_
      refine aw_ops zT fun K7 hK7 => ?_
      simp only [amset, amlib, zset, eq_self, ↓reduceIte, reduceCtorEq, Nat.reduceBEq, Nat.reduceEqDiff, Nat.reduceAdd, Nat.reduceMul, Nat.reduceLeDiff, Nat.reduceLT, Nat.reduceSub]
      refine hK7 _ ?_
      clear hK7
      refine aw_seq fun K8 hK8 => ?_
      refine aw_cond (t := false) (by simp [evalO, S.get, amLook]) (fun h => nomatch h) (fun _ => ?_)
      refine aw_exit ?_
      simp only [thenQ, blkQ, if_true, reduceIte, Nat.reduceEqDiff, eq_self]
      refine hK5 _ ?_
      clear hK5
      refine aw_ops zT fun K9 hK9 => ?_
      simp only [amset, amlib, zset, eq_self, ↓reduceIte, reduceCtorEq, Nat.reduceBEq, Nat.reduceEqDiff, Nat.reduceAdd, Nat.reduceMul, Nat.reduceLeDiff, Nat.reduceLT, Nat.reduceSub]
      refine hK9 _ ?_
      clear hK9
      refine aw_ret ?_
      show resOf zG _ [.tmp 6] = some _
      simp only [amset, amlib, zset, eq_self, ↓reduceIte, reduceCtorEq, Nat.reduceBEq, Nat.reduceEqDiff, Nat.reduceAdd, Nat.reduceMul, Nat.reduceLeDiff, Nat.reduceLT, Nat.reduceSub]
      have h5 : m.length = l.length := by simp at h0; omega
      rw [← h5, List.take_length] at hI
      rw [hI]
    · intro dn y td harg hI R hR
      have hl : (l).length = dn.length + (td.length + 1) := by rw [harg]; simp
      have hmem : y ∈ l := by rw [harg]; simp
      refine aw_norm (by simp only [amset, amlib, zset, eq_self, ↓reduceIte, reduceCtorEq, Nat.reduceBEq, Nat.reduceEqDiff, Nat.reduceAdd, Nat.reduceMul, Nat.reduceLeDiff, Nat.reduceLT, Nat.reduceSub]; exact rfl) ?_
      have hget : (encCs (l)).getD dn.length [] = encC y := by rw [harg]; exact encCs_mid dn td y
      have hlen2 : dn.length < m.length := by simp at h0; omega
      obtain ⟨z, rz, hz, hzm, hzl⟩ := at_same (a := m) dn.length hlen2
      have hget2 : (encCs m).getD dn.length [] = encC z := by
        have := encCs_mid (m.take dn.length) rz z
        rw [← hz, hzl] at this
        exact this
      refine aw_ops zT fun K10 hK10 => ?_
      simp only [amset, amlib, zset, eq_self, ↓reduceIte, reduceCtorEq, Nat.reduceBEq, Nat.reduceEqDiff, Nat.reduceAdd, Nat.reduceMul, Nat.reduceLeDiff, Nat.reduceLT, Nat.reduceSub]
      refine hK10 _ ?_
      clear hK10
      refine aw_seq fun K11 hK11 => ?_
      refine aw_cond (t := true) (by simp [evalO, S.get, amLook]; omega) (fun _ => ?_) (fun h => nomatch h)
      refine aw_skip ?_
      simp only [thenQ, blkQ, if_true, reduceIte, Nat.reduceEqDiff, eq_self]
      refine hK11 _ ?_
      clear hK11
      refine aw_seq fun K12 hK12 => ?_
      refine aw_block ?_
      refine aw_ops zT fun K13 hK13 => ?_
      simp only [amset, amlib, zset, hget, hget2, eq_self, ↓reduceIte, reduceCtorEq, Nat.reduceBEq, Nat.reduceEqDiff, Nat.reduceAdd, Nat.reduceMul, Nat.reduceLeDiff, Nat.reduceLT, Nat.reduceSub]
      refine ⟨⟨by omega, by omega⟩, ?_⟩
      refine hK13 _ ?_
      clear hK13
      refine aw_ops zT fun K14 hK14 => ?_
      simp only [amset, amlib, zset, hget, hget2, eq_self, ↓reduceIte, reduceCtorEq, Nat.reduceBEq, Nat.reduceEqDiff, Nat.reduceAdd, Nat.reduceMul, Nat.reduceLeDiff, Nat.reduceLT, Nat.reduceSub]
      refine ⟨⟨by omega, by omega⟩, ?_⟩
      refine hK14 _ ?_
      clear hK14
      refine aw_ops zT fun K15 hK15 => ?_
      simp only [amset, amlib, zset, eq_self, ↓reduceIte, reduceCtorEq, Nat.reduceBEq, Nat.reduceEqDiff, Nat.reduceAdd, Nat.reduceMul, Nat.reduceLeDiff, Nat.reduceLT, Nat.reduceSub]
      refine ⟨_, hF y hmem z, ?_⟩
      simp only [later]
      simp only [amset, amlib, zset, eq_self, ↓reduceIte, reduceCtorEq, Nat.reduceBEq, Nat.reduceEqDiff, Nat.reduceAdd, Nat.reduceMul, Nat.reduceLeDiff, Nat.reduceLT, Nat.reduceSub]
      refine hK15 _ ?_
      clear hK15
      refine aw_cond rfl (fun h1 => ?_) (fun h1 => ?_)
      · skip
        refine aw_ops zT fun K16 hK16 => ?_
        simp only [amset, amlib, zset, eq_self, ↓reduceIte, reduceCtorEq, Nat.reduceBEq, Nat.reduceEqDiff, Nat.reduceAdd, Nat.reduceMul, Nat.reduceLeDiff, Nat.reduceLT, Nat.reduceSub]
        refine hK16 _ ?_
        clear hK16
        refine aw_ret ?_
        show resOf zG _ [.tmp 6] = some _
        simp only [amset, amlib, zset, eq_self, ↓reduceIte, reduceCtorEq, Nat.reduceBEq, Nat.reduceEqDiff, Nat.reduceAdd, Nat.reduceMul, Nat.reduceLeDiff, Nat.reduceLT, Nat.reduceSub]
        rw [harg, hz, all2_fail hzl.symm (by simpa using h1)]
      · skip
        refine aw_skip ?_
        simp only [thenQ, blkQ, if_true, reduceIte, Nat.reduceEqDiff, eq_self]
        refine hK12 _ ?_
        clear hK12
        refine aw_region zT ?_
        simp only [amset, amlib, zset, eq_self, ↓reduceIte, reduceCtorEq, Nat.reduceBEq, Nat.reduceEqDiff, Nat.reduceAdd, Nat.reduceMul, Nat.reduceLeDiff, Nat.reduceLT, Nat.reduceSub]
        refine ⟨⟨by omega, by omega⟩, ?_⟩
        refine hR _ (by rw [show (dn ++ [y]).length = dn.length + 1 by simp, take_snoc hz hzl, all2_snoc hzl.symm, hI, Bool.true_and]; simpa using h1) ?_
        refine Reach.to ?_ ?_
        · simp only [amset, amlib, zset, eq_self, ↓reduceIte, reduceCtorEq, Nat.reduceBEq, Nat.reduceEqDiff, Nat.reduceAdd, Nat.reduceMul, Nat.reduceLeDiff, Nat.reduceLT, Nat.reduceSub] <;> simp [eq_self]
        · simp only [amset, amlib, zset, eq_self, ↓reduceIte, reduceCtorEq, Nat.reduceBEq, Nat.reduceEqDiff, Nat.reduceAdd, Nat.reduceMul, Nat.reduceLeDiff, Nat.reduceLT, Nat.reduceSub] <;> simp [eq_self]
theorem prog107 : Tryz.prog.funcs[107]? = some Tryz.f107 := by kernel_rfl
theorem holds107 (F : Nat) (p : Gl → Gl → Bool) (l m : List Gl) (hF : ∀ x ∈ l, ∀ y, Holds Tryz.prog zG F [.agg [.str x.name, .int .i64 x.len, .int .i16 x.init, .int .i64 x.pos], .agg [.str y.name, .int .i64 y.len, .int .i16 y.init, .int .i64 y.pos]] [.c (.bool (p x y))]) : Holds Tryz.prog zG 107 [.c (.sl 4 (encGs l)), .c (.sl 4 (encGs m)), .c (.fn F)] [.c (.bool (all2 p l m))] := by
  refine holds_of_body zT prog107 rfl rfl rfl (by simp [Tryz.f107]) ?_
  refine aw_ops zT fun K1 hK1 => ?_
  simp only [amset, amlib, zset, eq_self, ↓reduceIte, reduceCtorEq, Nat.reduceBEq, Nat.reduceEqDiff, Nat.reduceAdd, Nat.reduceMul, Nat.reduceLeDiff, Nat.reduceLT, Nat.reduceSub]
  refine hK1 _ ?_
  clear hK1
  refine aw_seq fun K2 hK2 => ?_
  refine aw_ops zT fun K3 hK3 => ?_
  simp only [amset, amlib, zset, eq_self, ↓reduceIte, reduceCtorEq, Nat.reduceBEq, Nat.reduceEqDiff, Nat.reduceAdd, Nat.reduceMul, Nat.reduceLeDiff, Nat.reduceLT, Nat.reduceSub]
  intros
  intros
  refine hK3 _ ?_
  clear hK3
  refine aw_cond rfl (fun h0 => ?_) (fun h0 => ?_)
  · skip
    refine aw_ops zT fun K4 hK4 => ?_
    simp only [amset, amlib, zset, eq_self, ↓reduceIte, reduceCtorEq, Nat.reduceBEq, Nat.reduceEqDiff, Nat.reduceAdd, Nat.reduceMul, Nat.reduceLeDiff, Nat.reduceLT, Nat.reduceSub]
    refine hK4 _ ?_
    clear hK4
    refine aw_ret ?_
    show resOf zG _ [.tmp 6] = some _
    simp only [amset, amlib, zset, eq_self, ↓reduceIte, reduceCtorEq, Nat.reduceBEq, Nat.reduceEqDiff, Nat.reduceAdd, Nat.reduceMul, Nat.reduceLeDiff, Nat.reduceLT, Nat.reduceSub]
    rw [all2_ne (by simpa using h0)]
  · skip
    refine aw_skip ?_
    simp only [thenQ, blkQ, if_true, reduceIte, Nat.reduceEqDiff, eq_self]
    refine hK2 _ ?_
    clear hK2
    refine aw_seq fun K5 hK5 => ?_
    refine aw_ops zT fun K6 hK6 => ?_
    simp only [amset, amlib, zset, eq_self, ↓reduceIte, reduceCtorEq, Nat.reduceBEq, Nat.reduceEqDiff, Nat.reduceAdd, Nat.reduceMul, Nat.reduceLeDiff, Nat.reduceLT, Nat.reduceSub]
    intros
    refine hK6 _ ?_
    clear hK6
    refine aw_block ?_
    refine aw_range (α := Gl) (l) (fun dn => all2 p dn (m.take dn.length) = true) (fun dn => [(17, .cell (.c (.int .i64 dn.length)))]) (fun dn => []) [] [6, 7, 8, 9, 17, 18, 19, 20, 21, 22, 23, 24, 25, 26, 27, 28, 29, 30, 31] [8, 9] rfl ?_ ?_ ?_ ?_
    · simp only [amset, amlib, zset, eq_self, ↓reduceIte, reduceCtorEq, Nat.reduceBEq, Nat.reduceEqDiff, Nat.reduceAdd, Nat.reduceMul, Nat.reduceLeDiff, Nat.reduceLT, Nat.reduceSub] <;> simp [eq_self]
    · simp only [amset, amlib, zset, eq_self, ↓reduceIte, reduceCtorEq, Nat.reduceBEq, Nat.reduceEqDiff, Nat.reduceAdd, Nat.reduceMul, Nat.reduceLeDiff, Nat.reduceLT, Nat.reduceSub] <;> simp [eq_self]
    · intro hI R
      refine aw_norm (by simp only [amset, amlib, zset, eq_self, ↓reduceIte, reduceCtorEq, Nat.reduceBEq, Nat.reduceEqDiff, Nat.reduceAdd, Nat.reduceMul, Nat.reduceLeDiff, Nat.reduceLT, Nat.reduceSub]; exact rfl) ?_
      refine aw_ops zT fun K7 hK7 => ?_
      simp only [amset, amlib, zset, eq_self, ↓reduceIte, reduceCtorEq, Nat.reduceBEq, Nat.reduceEqDiff, Nat.reduceAdd, Nat.reduceMul, Nat.reduceLeDiff, Nat.reduceLT, Nat.reduceSub]
      refine hK7 _ ?_
      clear hK7
      refine aw_seq fun K8 hK8 => ?_
      refine aw_cond (t := false) (by simp [evalO, S.get, amLook]) (fun h => nomatch h) (fun _ => ?_)
      refine aw_exit ?_
      simp only [thenQ, blkQ, if_true, reduceIte, Nat.reduceEqDiff, eq_self]
      refine hK5 _ ?_
      clear hK5
      refine aw_ops zT fun K9 hK9 => ?_
      simp only [amset, amlib, zset, eq_self, ↓reduceIte, reduceCtorEq, Nat.reduceBEq, Nat.reduceEqDiff, Nat.reduceAdd, Nat.reduceMul, Nat.reduceLeDiff, Nat.reduceLT, Nat.reduceSub]
      refine hK9 _ ?_
      clear hK9
      refine aw_ret ?_
      show resOf zG _ [.tmp 6] = some _
      simp only [amset, amlib, zset, eq_self, ↓reduceIte, reduceCtorEq, Nat.reduceBEq, Nat.reduceEqDiff, Nat.reduceAdd, Nat.reduceMul, Nat.reduceLeDiff, Nat.reduceLT, Nat.reduceSub]
      have h5 : m.length = l.length := by simp at h0; omega
      rw [← h5, List.take_length] at hI
      rw [hI]
    · intro dn y td harg hI R hR
      have hl : (l).length = dn.length + (td.length + 1) := by rw [harg]; simp
      have hmem : y ∈ l := by rw [harg]; simp
      refine aw_norm (by simp only [amset, amlib, zset, eq_self, ↓reduceIte, reduceCtorEq, Nat.reduceBEq, Nat.reduceEqDiff, Nat.reduceAdd, Nat.reduceMul, Nat.reduceLeDiff, Nat.reduceLT, Nat.reduceSub]; exact rfl) ?_
      have hget : (encGs (l)).getD dn.length [] = encG y := by rw [harg]; exact encGs_mid dn td y
      have hlen2 : dn.length < m.length := by simp at h0; omega
      obtain ⟨z, rz, hz, hzm, hzl⟩ := at_same (a := m) dn.length hlen2
      have hget2 : (encGs m).getD dn.length [] = encG z := by
        have := encGs_mid (m.take dn.length) rz z
        rw [← hz, hzl] at this
        exact this
      refine aw_ops zT fun K10 hK10 => ?_
      simp only [amset, amlib, zset, eq_self, ↓reduceIte, reduceCtorEq, Nat.reduceBEq, Nat.reduceEqDiff, Nat.reduceAdd, Nat.reduceMul, Nat.reduceLeDiff, Nat.reduceLT, Nat.reduceSub]
      refine hK10 _ ?_
      clear hK10
      refine aw_seq fun K11 hK11 => ?_
      refine aw_cond (t := true) (by simp [evalO, S.get, amLook]; omega) (fun _ => ?_) (fun h => nomatch h)
      refine aw_skip ?_
      simp only [thenQ, blkQ, if_true, reduceIte, Nat.reduceEqDiff, eq_self]
      refine hK11 _ ?_
      clear hK11
      refine aw_seq fun K12 hK12 => ?_
      refine aw_block ?_
      refine aw_ops zT fun K13 hK13 => ?_
      simp only [amset, amlib, zset, hget, hget2, eq_self, ↓reduceIte, reduceCtorEq, Nat.reduceBEq, Nat.reduceEqDiff, Nat.reduceAdd, Nat.reduceMul, Nat.reduceLeDiff, Nat.reduceLT, Nat.reduceSub]
      refine ⟨⟨by omega, by omega⟩, ?_⟩
      refine hK13 _ ?_
      clear hK13
      refine aw_ops zT fun K14 hK14 => ?_
      simp only [amset, amlib, zset, hget, hget2, eq_self, ↓reduceIte, reduceCtorEq, Nat.reduceBEq, Nat.reduceEqDiff, Nat.reduceAdd, Nat.reduceMul, Nat.reduceLeDiff, Nat.reduceLT, Nat.reduceSub]
      refine ⟨⟨by omega, by omega⟩, ?_⟩
      refine hK14 _ ?_
      clear hK14
      refine aw_ops zT fun K15 hK15 => ?_
      simp only [amset, amlib, zset, eq_self, ↓reduceIte, reduceCtorEq, Nat.reduceBEq, Nat.reduceEqDiff, Nat.reduceAdd, Nat.reduceMul, Nat.reduceLeDiff, Nat.reduceLT, Nat.reduceSub]
      refine ⟨_, hF y hmem z, ?_⟩
      simp only [later]
      simp only [amset, amlib, zset, eq_self, ↓reduceIte, reduceCtorEq, Nat.reduceBEq, Nat.reduceEqDiff, Nat.reduceAdd, Nat.reduceMul, Nat.reduceLeDiff, Nat.reduceLT, Nat.reduceSub]
      refine hK15 _ ?_
      clear hK15
      refine aw_cond rfl (fun h1 => ?_) (fun h1 => ?_)
      · skip
        refine aw_ops zT fun K16 hK16 => ?_
        simp only [amset, amlib, zset, eq_self, ↓reduceIte, reduceCtorEq, Nat.reduceBEq, Nat.reduceEqDiff, Nat.reduceAdd, Nat.reduceMul, Nat.reduceLeDiff, Nat.reduceLT, Nat.reduceSub]
        refine hK16 _ ?_
        clear hK16
        refine aw_ret ?_
        show resOf zG _ [.tmp 6] = some _
        simp only [amset, amlib, zset, eq_self, ↓reduceIte, reduceCtorEq, Nat.reduceBEq, Nat.reduceEqDiff, Nat.reduceAdd, Nat.reduceMul, Nat.reduceLeDiff, Nat.reduceLT, Nat.reduceSub]
        rw [harg, hz, all2_fail hzl.symm (by simpa using h1)]
      · skip
        refine aw_skip ?_
        simp only [thenQ, blkQ, if_true, reduceIte, Nat.reduceEqDiff, eq_self]
        refine hK12 _ ?_
        clear hK12
        refine aw_region zT ?_
        simp only [amset, amlib, zset, eq_self, ↓reduceIte, reduceCtorEq, Nat.reduceBEq, Nat.reduceEqDiff, Nat.reduceAdd, Nat.reduceMul, Nat.reduceLeDiff, Nat.reduceLT, Nat.reduceSub]
        refine ⟨⟨by omega, by omega⟩, ?_⟩
        refine hR _ (by rw [show (dn ++ [y]).length = dn.length + 1 by simp, take_snoc hz hzl, all2_snoc hzl.symm, hI, Bool.true_and]; simpa using h1) ?_
        refine Reach.to ?_ ?_
        · simp only [amset, amlib, zset, eq_self, ↓reduceIte, reduceCtorEq, Nat.reduceBEq, Nat.reduceEqDiff, Nat.reduceAdd, Nat.reduceMul, Nat.reduceLeDiff, Nat.reduceLT, Nat.reduceSub] <;> simp [eq_self]
        · simp only [amset, amlib, zset, eq_self, ↓reduceIte, reduceCtorEq, Nat.reduceBEq, Nat.reduceEqDiff, Nat.reduceAdd, Nat.reduceMul, Nat.reduceLeDiff, Nat.reduceLT, Nat.reduceSub] <;> simp [eq_self]
theorem prog110 : Tryz.prog.funcs[110]? = some Tryz.f110 := by kernel_rfl
theorem holds110 (F : Nat) (p : Ch → Ch → Bool) (l m : List Ch) (hF : ∀ x ∈ l, ∀ y, Holds Tryz.prog zG F [.agg [.str x.name, .int .i64 x.cap, .int .i64 x.pos], .agg [.str y.name, .int .i64 y.cap, .int .i64 y.pos]] [.c (.bool (p x y))]) : Holds Tryz.prog zG 110 [.c (.sl 3 (encHs l)), .c (.sl 3 (encHs m)), .c (.fn F)] [.c (.bool (all2 p l m))] := by
  refine holds_of_body zT prog110 rfl rfl rfl (by simp [Tryz.f110]) ?_
  refine aw_ops zT fun K1 hK1 => ?_
  simp only [amset, amlib, zset, eq_self, ↓reduceIte, reduceCtorEq, Nat.reduceBEq, Nat.reduceEqDiff, Nat.reduceAdd, Nat.reduceMul, Nat.reduceLeDiff, Nat.reduceLT, Nat.reduceSub]
  refine hK1 _ ?_
  clear hK1
  refine aw_seq fun K2 hK2 => ?_
  refine aw_ops zT fun K3 hK3 => ?_
  simp only [amset, amlib, zset, eq_self, ↓reduceIte, reduceCtorEq, Nat.reduceBEq, Nat.reduceEqDiff, Nat.reduceAdd, Nat.reduceMul, Nat.reduceLeDiff, Nat.reduceLT, Nat.reduceSub]
  intros
  intros
  refine hK3 _ ?_
  clear hK3
  refine aw_cond rfl (fun h0 => ?_) (fun h0 => ?_)
  · skip
    refine aw_ops zT fun K4 hK4 => ?_
    simp only [amset, amlib, zset, eq_self, ↓reduceIte, reduceCtorEq, Nat.reduceBEq, Nat.reduceEqDiff, Nat.reduceAdd, Nat.reduceMul, Nat.reduceLeDiff, Nat.reduceLT, Nat.reduceSub]
    refine hK4 _ ?_
    clear hK4
    refine aw_ret ?_
    show resOf zG _ [.tmp 6] = some _
    simp only [amset, amlib, zset, eq_self, ↓reduceIte, reduceCtorEq, Nat.reduceBEq, Nat.reduceEqDiff, Nat.reduceAdd, Nat.reduceMul, Nat.reduceLeDiff, Nat.reduceLT, Nat.reduceSub]
    rw [all2_ne (by simpa using h0)]
  · skip
    refine aw_skip ?_
    simp only [thenQ, blkQ, if_true, reduceIte, Nat.reduceEqDiff, eq_self]
    refine hK2 _ ?_
    clear hK2
    refine aw_seq fun K5 hK5 => ?_
    refine aw_ops zT fun K6 hK6 => ?_
    simp only [amset, amlib, zset, eq_self, ↓reduceIte, reduceCtorEq, Nat.reduceBEq, Nat.reduceEqDiff, Nat.reduceAdd, Nat.reduceMul, Nat.reduceLeDiff, Nat.reduceLT, Nat.reduceSub]
    intros
    refine hK6 _ ?_
    clear hK6
    refine aw_block ?_
    refine aw_range (α := Ch) (l) (fun dn => all2 p dn (m.take dn.length) = true) (fun dn => [(17, .cell (.c (.int .i64 dn.length)))]) (fun dn => []) [] [6, 7, 8, 9, 17, 18, 19, 20, 21, 22, 23, 24, 25, 26, 27, 28, 29, 30, 31] [8, 9] rfl ?_ ?_ ?_ ?_
    · simp only [amset, amlib, zset, eq_self, ↓reduceIte, reduceCtorEq, Nat.reduceBEq, Nat.reduceEqDiff, Nat.reduceAdd, Nat.reduceMul, Nat.reduceLeDiff, Nat.reduceLT, Nat.reduceSub] <;> simp [eq_self]
    · simp only [amset, amlib, zset, eq_self, ↓reduceIte, reduceCtorEq, Nat.reduceBEq, Nat.reduceEqDiff, Nat.reduceAdd, Nat.reduceMul, Nat.reduceLeDiff, Nat.reduceLT, Nat.reduceSub] <;> simp [eq_self]
    · intro hI R
      refine aw_norm (by simp only [amset, amlib, zset, eq_self, ↓reduceIte, reduceCtorEq, Nat.reduceBEq, Nat.reduceEqDiff, Nat.reduceAdd, Nat.reduceMul, Nat.reduceLeDiff, Nat.reduceLT, Nat.reduceSub]; exact rfl) ?_
      refine aw_ops zT fun K7 hK7 => ?_
      simp only [amset, amlib, zset, eq_self, ↓reduceIte, reduceCtorEq, Nat.reduceBEq, Nat.reduceEqDiff, Nat.reduceAdd, Nat.reduceMul, Nat.reduceLeDiff, Nat.reduceLT, Nat.reduceSub]
      refine hK7 _ ?_
      clear hK7
      refine aw_seq fun K8 hK8 => ?_
      refine aw_cond (t := false) (by simp [evalO, S.get, amLook]) (fun h => nomatch h) (fun _ => ?_)
      refine aw_exit ?_
      simp only [thenQ, blkQ, if_true, reduceIte, Nat.reduceEqDiff, eq_self]
      refine hK5 _ ?_
      clear hK5
      refine aw_ops zT fun K9 hK9 => ?_
      simp only [amset, amlib, zset, eq_self, ↓reduceIte, reduceCtorEq, Nat.reduceBEq, Nat.reduceEqDiff, Nat.reduceAdd, Nat.reduceMul, Nat.reduceLeDiff, Nat.reduceLT, Nat.reduceSub]
      refine hK9 _ ?_
      clear hK9
      refine aw_ret ?_
      show resOf zG _ [.tmp 6] = some _
      simp only [amset, amlib, zset, eq_self, ↓reduceIte, reduceCtorEq, Nat.reduceBEq, Nat.reduceEqDiff, Nat.reduceAdd, Nat.reduceMul, Nat.reduceLeDiff, Nat.reduceLT, Nat.reduceSub]
      have h5 : m.length = l.length := by simp at h0; omega
      rw [← h5, List.take_length] at hI
      rw [hI]
    · intro dn y td harg hI R hR
      have hl : (l).length = dn.length + (td.length + 1) := by rw [harg]; simp
      have hmem : y ∈ l := by rw [harg]; simp
      refine aw_norm (by simp only [amset, amlib, zset, eq_self, ↓reduceIte, reduceCtorEq, Nat.reduceBEq, Nat.reduceEqDiff, Nat.reduceAdd, Nat.reduceMul, Nat.reduceLeDiff, Nat.reduceLT, Nat.reduceSub]; exact rfl) ?_
      have hget : (encHs (l)).getD dn.length [] = encH y := by rw [harg]; exact encHs_mid dn td y
      have hlen2 : dn.length < m.length := by simp at h0; omega
      obtain ⟨z, rz, hz, hzm, hzl⟩ := at_same (a := m) dn.length hlen2
      have hget2 : (encHs m).getD dn.length [] = encH z := by
        have := encHs_mid (m.take dn.length) rz z
        rw [← hz, hzl] at this
        exact this
      refine aw_ops zT fun K10 hK10 => ?_
      simp only [amset, amlib, zset, eq_self, ↓reduceIte, reduceCtorEq, Nat.reduceBEq, Nat.reduceEqDiff, Nat.reduceAdd, Nat.reduceMul, Nat.reduceLeDiff, Nat.reduceLT, Nat.reduceSub]
      refine hK10 _ ?_
      clear hK10
      refine aw_seq fun K11 hK11 => ?_
      refine aw_cond (t := true) (by simp [evalO, S.get, amLook]; omega) (fun _ => ?_) (fun h => nomatch h)
      refine aw_skip ?_
      simp only [thenQ, blkQ, if_true, reduceIte, Nat.reduceEqDiff, eq_self]
      refine hK11 _ ?_
      clear hK11
      refine aw_seq fun K12 hK12 => ?_
      refine aw_block ?_
      refine aw_ops zT fun K13 hK13 => ?_
      simp only [amset, amlib, zset, hget, hget2, eq_self, ↓reduceIte, reduceCtorEq, Nat.reduceBEq, Nat.reduceEqDiff, Nat.reduceAdd, Nat.reduceMul, Nat.reduceLeDiff, Nat.reduceLT, Nat.reduceSub]
      refine ⟨⟨by omega, by omega⟩, ?_⟩
      refine hK13 _ ?_
      clear hK13
      refine aw_ops zT fun K14 hK14 => ?_
      simp only [amset, amlib, zset, hget, hget2, eq_self, ↓reduceIte, reduceCtorEq, Nat.reduceBEq, Nat.reduceEqDiff, Nat.reduceAdd, Nat.reduceMul, Nat.reduceLeDiff, Nat.reduceLT, Nat.reduceSub]
      refine ⟨⟨by omega, by omega⟩, ?_⟩
      refine hK14 _ ?_
      clear hK14
      refine aw_ops zT fun K15 hK15 => ?_
      simp only [amset, amlib, zset, eq_self, ↓reduceIte, reduceCtorEq, Nat.reduceBEq, Nat.reduceEqDiff, Nat.reduceAdd, Nat.reduceMul, Nat.reduceLeDiff, Nat.reduceLT, Nat.reduceSub]
      refine ⟨_, hF y hmem z, ?_⟩
      simp only [later]
      simp only [amset, amlib, zset, eq_self, ↓reduceIte, reduceCtorEq, Nat.reduceBEq, Nat.reduceEqDiff, Nat.reduceAdd, Nat.reduceMul, Nat.reduceLeDiff, Nat.reduceLT, Nat.reduceSub]
      refine hK15 _ ?_
      clear hK15
      refine aw_cond rfl (fun h1 => ?_) (fun h1 => ?_)
      · skip
        refine aw_ops zT fun K16 hK16 => ?_
        simp only [amset, amlib, zset, eq_self, ↓reduceIte, reduceCtorEq, Nat.reduceBEq, Nat.reduceEqDiff, Nat.reduceAdd, Nat.reduceMul, Nat.reduceLeDiff, Nat.reduceLT, Nat.reduceSub]
        refine hK16 _ ?_
        clear hK16
        refine aw_ret ?_
        show resOf zG _ [.tmp 6] = some _
        simp only [amset, amlib, zset, eq_self, ↓reduceIte, reduceCtorEq, Nat.reduceBEq, Nat.reduceEqDiff, Nat.reduceAdd, Nat.reduceMul, Nat.reduceLeDiff, Nat.reduceLT, Nat.reduceSub]
        rw [harg, hz, all2_fail hzl.symm (by simpa using h1)]
      · skip
        refine aw_skip ?_
        simp only [thenQ, blkQ, if_true, reduceIte, Nat.reduceEqDiff, eq_self]
        refine hK12 _ ?_
        clear hK12
        refine aw_region zT ?_
        simp only [amset, amlib, zset, eq_self, ↓reduceIte, reduceCtorEq, Nat.reduceBEq, Nat.reduceEqDiff, Nat.reduceAdd, Nat.reduceMul, Nat.reduceLeDiff, Nat.reduceLT, Nat.reduceSub]
        refine ⟨⟨by omega, by omega⟩, ?_⟩
        refine hR _ (by rw [show (dn ++ [y]).length = dn.length + 1 by simp, take_snoc hz hzl, all2_snoc hzl.symm, hI, Bool.true_and]; simpa using h1) ?_
        refine Reach.to ?_ ?_
        · simp only [amset, amlib, zset, eq_self, ↓reduceIte, reduceCtorEq, Nat.reduceBEq, Nat.reduceEqDiff, Nat.reduceAdd, Nat.reduceMul, Nat.reduceLeDiff, Nat.reduceLT, Nat.reduceSub] <;> simp [eq_self]
        · simp only [amset, amlib, zset, eq_self, ↓reduceIte, reduceCtorEq, Nat.reduceBEq, Nat.reduceEqDiff, Nat.reduceAdd, Nat.reduceMul, Nat.reduceLeDiff, Nat.reduceLT, Nat.reduceSub] <;> simp [eq_self]
theorem prog112 : Tryz.prog.funcs[112]? = some Tryz.f112 := by kernel_rfl
theorem holds112 (F : Nat) (p : Tk → Tk → Bool) (l m : List Tk) (hF : ∀ x ∈ l, ∀ y, Holds Tryz.prog zG F [.agg [.str x.name, .int .i64 x.period, .int .i64 x.deadline, .str x.channel, .str x.param, .int .i64 x.within, .sl 7 (encSs x.body), .int .i64 x.pos], .agg [.str y.name, .int .i64 y.period, .int .i64 y.deadline, .str y.channel, .str y.param, .int .i64 y.within, .sl 7 (encSs y.body), .int .i64 y.pos]] [.c (.bool (p x y))]) : Holds Tryz.prog zG 112 [.c (.sl 8 (encTs l)), .c (.sl 8 (encTs m)), .c (.fn F)] [.c (.bool (all2 p l m))] := by
  refine holds_of_body zT prog112 rfl rfl rfl (by simp [Tryz.f112]) ?_
  refine aw_ops zT fun K1 hK1 => ?_
  simp only [amset, amlib, zset, eq_self, ↓reduceIte, reduceCtorEq, Nat.reduceBEq, Nat.reduceEqDiff, Nat.reduceAdd, Nat.reduceMul, Nat.reduceLeDiff, Nat.reduceLT, Nat.reduceSub]
  refine hK1 _ ?_
  clear hK1
  refine aw_seq fun K2 hK2 => ?_
  refine aw_ops zT fun K3 hK3 => ?_
  simp only [amset, amlib, zset, eq_self, ↓reduceIte, reduceCtorEq, Nat.reduceBEq, Nat.reduceEqDiff, Nat.reduceAdd, Nat.reduceMul, Nat.reduceLeDiff, Nat.reduceLT, Nat.reduceSub]
  intros
  intros
  refine hK3 _ ?_
  clear hK3
  refine aw_cond rfl (fun h0 => ?_) (fun h0 => ?_)
  · skip
    refine aw_ops zT fun K4 hK4 => ?_
    simp only [amset, amlib, zset, eq_self, ↓reduceIte, reduceCtorEq, Nat.reduceBEq, Nat.reduceEqDiff, Nat.reduceAdd, Nat.reduceMul, Nat.reduceLeDiff, Nat.reduceLT, Nat.reduceSub]
    refine hK4 _ ?_
    clear hK4
    refine aw_ret ?_
    show resOf zG _ [.tmp 6] = some _
    simp only [amset, amlib, zset, eq_self, ↓reduceIte, reduceCtorEq, Nat.reduceBEq, Nat.reduceEqDiff, Nat.reduceAdd, Nat.reduceMul, Nat.reduceLeDiff, Nat.reduceLT, Nat.reduceSub]
    rw [all2_ne (by simpa using h0)]
  · skip
    refine aw_skip ?_
    simp only [thenQ, blkQ, if_true, reduceIte, Nat.reduceEqDiff, eq_self]
    refine hK2 _ ?_
    clear hK2
    refine aw_seq fun K5 hK5 => ?_
    refine aw_ops zT fun K6 hK6 => ?_
    simp only [amset, amlib, zset, eq_self, ↓reduceIte, reduceCtorEq, Nat.reduceBEq, Nat.reduceEqDiff, Nat.reduceAdd, Nat.reduceMul, Nat.reduceLeDiff, Nat.reduceLT, Nat.reduceSub]
    intros
    refine hK6 _ ?_
    clear hK6
    refine aw_block ?_
    refine aw_range (α := Tk) (l) (fun dn => all2 p dn (m.take dn.length) = true) (fun dn => [(17, .cell (.c (.int .i64 dn.length)))]) (fun dn => []) [] [6, 7, 8, 9, 17, 18, 19, 20, 21, 22, 23, 24, 25, 26, 27, 28, 29, 30, 31] [8, 9] rfl ?_ ?_ ?_ ?_
    · simp only [amset, amlib, zset, eq_self, ↓reduceIte, reduceCtorEq, Nat.reduceBEq, Nat.reduceEqDiff, Nat.reduceAdd, Nat.reduceMul, Nat.reduceLeDiff, Nat.reduceLT, Nat.reduceSub] <;> simp [eq_self]
    · simp only [amset, amlib, zset, eq_self, ↓reduceIte, reduceCtorEq, Nat.reduceBEq, Nat.reduceEqDiff, Nat.reduceAdd, Nat.reduceMul, Nat.reduceLeDiff, Nat.reduceLT, Nat.reduceSub] <;> simp [eq_self]
    · intro hI R
      refine aw_norm (by simp only [amset, amlib, zset, eq_self, ↓reduceIte, reduceCtorEq, Nat.reduceBEq, Nat.reduceEqDiff, Nat.reduceAdd, Nat.reduceMul, Nat.reduceLeDiff, Nat.reduceLT, Nat.reduceSub]; exact rfl) ?_
      refine aw_ops zT fun K7 hK7 => ?_
      simp only [amset, amlib, zset, eq_self, ↓reduceIte, reduceCtorEq, Nat.reduceBEq, Nat.reduceEqDiff, Nat.reduceAdd, Nat.reduceMul, Nat.reduceLeDiff, Nat.reduceLT, Nat.reduceSub]
      refine hK7 _ ?_
      clear hK7
      refine aw_seq fun K8 hK8 => ?_
      refine aw_cond (t := false) (by simp [evalO, S.get, amLook]) (fun h => nomatch h) (fun _ => ?_)
      refine aw_exit ?_
      simp only [thenQ, blkQ, if_true, reduceIte, Nat.reduceEqDiff, eq_self]
      refine hK5 _ ?_
      clear hK5
      refine aw_ops zT fun K9 hK9 => ?_
      simp only [amset, amlib, zset, eq_self, ↓reduceIte, reduceCtorEq, Nat.reduceBEq, Nat.reduceEqDiff, Nat.reduceAdd, Nat.reduceMul, Nat.reduceLeDiff, Nat.reduceLT, Nat.reduceSub]
      refine hK9 _ ?_
      clear hK9
      refine aw_ret ?_
      show resOf zG _ [.tmp 6] = some _
      simp only [amset, amlib, zset, eq_self, ↓reduceIte, reduceCtorEq, Nat.reduceBEq, Nat.reduceEqDiff, Nat.reduceAdd, Nat.reduceMul, Nat.reduceLeDiff, Nat.reduceLT, Nat.reduceSub]
      have h5 : m.length = l.length := by simp at h0; omega
      rw [← h5, List.take_length] at hI
      rw [hI]
    · intro dn y td harg hI R hR
      have hl : (l).length = dn.length + (td.length + 1) := by rw [harg]; simp
      have hmem : y ∈ l := by rw [harg]; simp
      refine aw_norm (by simp only [amset, amlib, zset, eq_self, ↓reduceIte, reduceCtorEq, Nat.reduceBEq, Nat.reduceEqDiff, Nat.reduceAdd, Nat.reduceMul, Nat.reduceLeDiff, Nat.reduceLT, Nat.reduceSub]; exact rfl) ?_
      have hget : (encTs (l)).getD dn.length [] = encT y := by rw [harg]; exact encTs_mid dn td y
      have hlen2 : dn.length < m.length := by simp at h0; omega
      obtain ⟨z, rz, hz, hzm, hzl⟩ := at_same (a := m) dn.length hlen2
      have hget2 : (encTs m).getD dn.length [] = encT z := by
        have := encTs_mid (m.take dn.length) rz z
        rw [← hz, hzl] at this
        exact this
      refine aw_ops zT fun K10 hK10 => ?_
      simp only [amset, amlib, zset, eq_self, ↓reduceIte, reduceCtorEq, Nat.reduceBEq, Nat.reduceEqDiff, Nat.reduceAdd, Nat.reduceMul, Nat.reduceLeDiff, Nat.reduceLT, Nat.reduceSub]
      refine hK10 _ ?_
      clear hK10
      refine aw_seq fun K11 hK11 => ?_
      refine aw_cond (t := true) (by simp [evalO, S.get, amLook]; omega) (fun _ => ?_) (fun h => nomatch h)
      refine aw_skip ?_
      simp only [thenQ, blkQ, if_true, reduceIte, Nat.reduceEqDiff, eq_self]
      refine hK11 _ ?_
      clear hK11
      refine aw_seq fun K12 hK12 => ?_
      refine aw_block ?_
      refine aw_ops zT fun K13 hK13 => ?_
      simp only [amset, amlib, zset, hget, hget2, eq_self, ↓reduceIte, reduceCtorEq, Nat.reduceBEq, Nat.reduceEqDiff, Nat.reduceAdd, Nat.reduceMul, Nat.reduceLeDiff, Nat.reduceLT, Nat.reduceSub]
      refine ⟨⟨by omega, by omega⟩, ?_⟩
      refine hK13 _ ?_
      clear hK13
      refine aw_ops zT fun K14 hK14 => ?_
      simp only [amset, amlib, zset, hget, hget2, eq_self, ↓reduceIte, reduceCtorEq, Nat.reduceBEq, Nat.reduceEqDiff, Nat.reduceAdd, Nat.reduceMul, Nat.reduceLeDiff, Nat.reduceLT, Nat.reduceSub]
      refine ⟨⟨by omega, by omega⟩, ?_⟩
      refine hK14 _ ?_
      clear hK14
      refine aw_ops zT fun K15 hK15 => ?_
      simp only [amset, amlib, zset, eq_self, ↓reduceIte, reduceCtorEq, Nat.reduceBEq, Nat.reduceEqDiff, Nat.reduceAdd, Nat.reduceMul, Nat.reduceLeDiff, Nat.reduceLT, Nat.reduceSub]
      refine ⟨_, hF y hmem z, ?_⟩
      simp only [later]
      simp only [amset, amlib, zset, eq_self, ↓reduceIte, reduceCtorEq, Nat.reduceBEq, Nat.reduceEqDiff, Nat.reduceAdd, Nat.reduceMul, Nat.reduceLeDiff, Nat.reduceLT, Nat.reduceSub]
      refine hK15 _ ?_
      clear hK15
      refine aw_cond rfl (fun h1 => ?_) (fun h1 => ?_)
      · skip
        refine aw_ops zT fun K16 hK16 => ?_
        simp only [amset, amlib, zset, eq_self, ↓reduceIte, reduceCtorEq, Nat.reduceBEq, Nat.reduceEqDiff, Nat.reduceAdd, Nat.reduceMul, Nat.reduceLeDiff, Nat.reduceLT, Nat.reduceSub]
        refine hK16 _ ?_
        clear hK16
        refine aw_ret ?_
        show resOf zG _ [.tmp 6] = some _
        simp only [amset, amlib, zset, eq_self, ↓reduceIte, reduceCtorEq, Nat.reduceBEq, Nat.reduceEqDiff, Nat.reduceAdd, Nat.reduceMul, Nat.reduceLeDiff, Nat.reduceLT, Nat.reduceSub]
        rw [harg, hz, all2_fail hzl.symm (by simpa using h1)]
      · skip
        refine aw_skip ?_
        simp only [thenQ, blkQ, if_true, reduceIte, Nat.reduceEqDiff, eq_self]
        refine hK12 _ ?_
        clear hK12
        refine aw_region zT ?_
        simp only [amset, amlib, zset, eq_self, ↓reduceIte, reduceCtorEq, Nat.reduceBEq, Nat.reduceEqDiff, Nat.reduceAdd, Nat.reduceMul, Nat.reduceLeDiff, Nat.reduceLT, Nat.reduceSub]
        refine ⟨⟨by omega, by omega⟩, ?_⟩
        refine hR _ (by rw [show (dn ++ [y]).length = dn.length + 1 by simp, take_snoc hz hzl, all2_snoc hzl.symm, hI, Bool.true_and]; simpa using h1) ?_
        refine Reach.to ?_ ?_
        · simp only [amset, amlib, zset, eq_self, ↓reduceIte, reduceCtorEq, Nat.reduceBEq, Nat.reduceEqDiff, Nat.reduceAdd, Nat.reduceMul, Nat.reduceLeDiff, Nat.reduceLT, Nat.reduceSub] <;> simp [eq_self]
        · simp only [amset, amlib, zset, eq_self, ↓reduceIte, reduceCtorEq, Nat.reduceBEq, Nat.reduceEqDiff, Nat.reduceAdd, Nat.reduceMul, Nat.reduceLeDiff, Nat.reduceLT, Nat.reduceSub] <;> simp [eq_self]
theorem prog109 : Tryz.prog.funcs[109]? = some Tryz.f109 := by kernel_rfl
theorem holds109 (l m : List (List UInt8)) : Holds Tryz.prog zG 109 [.c (.sl 1 (encStrs l)), .c (.sl 1 (encStrs m))] [.c (.bool (all2 eqStr l m))] := by
  refine holds_of_body zT prog109 rfl rfl rfl (by simp [Tryz.f109]) ?_
  refine aw_ops zT fun K1 hK1 => ?_
  simp only [amset, amlib, zset, eq_self, ↓reduceIte, reduceCtorEq, Nat.reduceBEq, Nat.reduceEqDiff, Nat.reduceAdd, Nat.reduceMul, Nat.reduceLeDiff, Nat.reduceLT, Nat.reduceSub]
  refine hK1 _ ?_
  clear hK1
  refine aw_seq fun K2 hK2 => ?_
  refine aw_ops zT fun K3 hK3 => ?_
  simp only [amset, amlib, zset, eq_self, ↓reduceIte, reduceCtorEq, Nat.reduceBEq, Nat.reduceEqDiff, Nat.reduceAdd, Nat.reduceMul, Nat.reduceLeDiff, Nat.reduceLT, Nat.reduceSub]
  intros
  intros
  refine hK3 _ ?_
  clear hK3
  refine aw_cond rfl (fun h0 => ?_) (fun h0 => ?_)
  · skip
    refine aw_ops zT fun K4 hK4 => ?_
    simp only [amset, amlib, zset, eq_self, ↓reduceIte, reduceCtorEq, Nat.reduceBEq, Nat.reduceEqDiff, Nat.reduceAdd, Nat.reduceMul, Nat.reduceLeDiff, Nat.reduceLT, Nat.reduceSub]
    refine hK4 _ ?_
    clear hK4
    refine aw_ret ?_
    show resOf zG _ [.tmp 4] = some _
    simp only [amset, amlib, zset, eq_self, ↓reduceIte, reduceCtorEq, Nat.reduceBEq, Nat.reduceEqDiff, Nat.reduceAdd, Nat.reduceMul, Nat.reduceLeDiff, Nat.reduceLT, Nat.reduceSub]
    rw [all2_ne (by simpa using h0)]
  · skip
    refine aw_skip ?_
    simp only [thenQ, blkQ, if_true, reduceIte, Nat.reduceEqDiff, eq_self]
    refine hK2 _ ?_
    clear hK2
    refine aw_seq fun K5 hK5 => ?_
    refine aw_ops zT fun K6 hK6 => ?_
    simp only [amset, amlib, zset, eq_self, ↓reduceIte, reduceCtorEq, Nat.reduceBEq, Nat.reduceEqDiff, Nat.reduceAdd, Nat.reduceMul, Nat.reduceLeDiff, Nat.reduceLT, Nat.reduceSub]
    intros
    refine hK6 _ ?_
    clear hK6
    refine aw_block ?_
    refine aw_range (α := (List UInt8)) (l) (fun dn => all2 eqStr dn (m.take dn.length) = true) (fun dn => [(13, .cell (.c (.int .i64 dn.length)))]) (fun dn => []) [] [4, 5, 13, 14, 15, 16, 17, 18, 19, 20, 21, 22, 23, 24, 25] [] rfl ?_ ?_ ?_ ?_
    · simp only [amset, amlib, zset, eq_self, ↓reduceIte, reduceCtorEq, Nat.reduceBEq, Nat.reduceEqDiff, Nat.reduceAdd, Nat.reduceMul, Nat.reduceLeDiff, Nat.reduceLT, Nat.reduceSub] <;> simp [eq_self]
    · simp only [amset, amlib, zset, eq_self, ↓reduceIte, reduceCtorEq, Nat.reduceBEq, Nat.reduceEqDiff, Nat.reduceAdd, Nat.reduceMul, Nat.reduceLeDiff, Nat.reduceLT, Nat.reduceSub] <;> simp [eq_self]
    · intro hI R
      refine aw_norm (by simp only [amset, amlib, zset, eq_self, ↓reduceIte, reduceCtorEq, Nat.reduceBEq, Nat.reduceEqDiff, Nat.reduceAdd, Nat.reduceMul, Nat.reduceLeDiff, Nat.reduceLT, Nat.reduceSub]; exact rfl) ?_
      refine aw_ops zT fun K7 hK7 => ?_
      simp only [amset, amlib, zset, eq_self, ↓reduceIte, reduceCtorEq, Nat.reduceBEq, Nat.reduceEqDiff, Nat.reduceAdd, Nat.reduceMul, Nat.reduceLeDiff, Nat.reduceLT, Nat.reduceSub]
      refine hK7 _ ?_
      clear hK7
      refine aw_seq fun K8 hK8 => ?_
      refine aw_cond (t := false) (by simp [evalO, S.get, amLook]) (fun h => nomatch h) (fun _ => ?_)
      refine aw_exit ?_
      simp only [thenQ, blkQ, if_true, reduceIte, Nat.reduceEqDiff, eq_self]
      refine hK5 _ ?_
      clear hK5
      refine aw_ops zT fun K9 hK9 => ?_
      simp only [amset, amlib, zset, eq_self, ↓reduceIte, reduceCtorEq, Nat.reduceBEq, Nat.reduceEqDiff, Nat.reduceAdd, Nat.reduceMul, Nat.reduceLeDiff, Nat.reduceLT, Nat.reduceSub]
      refine hK9 _ ?_
      clear hK9
      refine aw_ret ?_
      show resOf zG _ [.tmp 4] = some _
      simp only [amset, amlib, zset, eq_self, ↓reduceIte, reduceCtorEq, Nat.reduceBEq, Nat.reduceEqDiff, Nat.reduceAdd, Nat.reduceMul, Nat.reduceLeDiff, Nat.reduceLT, Nat.reduceSub]
      have h5 : m.length = l.length := by simp at h0; omega
      rw [← h5, List.take_length] at hI
      rw [hI]
    · intro dn y td harg hI R hR
      have hl : (l).length = dn.length + (td.length + 1) := by rw [harg]; simp
      have hmem : y ∈ l := by rw [harg]; simp
      refine aw_norm (by simp only [amset, amlib, zset, eq_self, ↓reduceIte, reduceCtorEq, Nat.reduceBEq, Nat.reduceEqDiff, Nat.reduceAdd, Nat.reduceMul, Nat.reduceLeDiff, Nat.reduceLT, Nat.reduceSub]; exact rfl) ?_
      have hget : (encStrs (l)).getD dn.length [] = encStr y := by rw [harg]; exact encStrs_mid dn td y
      have hlen2 : dn.length < m.length := by simp at h0; omega
      obtain ⟨z, rz, hz, hzm, hzl⟩ := at_same (a := m) dn.length hlen2
      have hget2 : (encStrs m).getD dn.length [] = encStr z := by
        have := encStrs_mid (m.take dn.length) rz z
        rw [← hz, hzl] at this
        exact this
      refine aw_ops zT fun K10 hK10 => ?_
      simp only [amset, amlib, zset, eq_self, ↓reduceIte, reduceCtorEq, Nat.reduceBEq, Nat.reduceEqDiff, Nat.reduceAdd, Nat.reduceMul, Nat.reduceLeDiff, Nat.reduceLT, Nat.reduceSub]
      refine hK10 _ ?_
      clear hK10
      refine aw_seq fun K11 hK11 => ?_
      refine aw_cond (t := true) (by simp [evalO, S.get, amLook]; omega) (fun _ => ?_) (fun h => nomatch h)
      refine aw_skip ?_
      simp only [thenQ, blkQ, if_true, reduceIte, Nat.reduceEqDiff, eq_self]
      refine hK11 _ ?_
      clear hK11
      refine aw_seq fun K12 hK12 => ?_
      refine aw_block ?_
      refine aw_ops zT fun K13 hK13 => ?_
      simp only [amset, amlib, zset, eq_self, ↓reduceIte, reduceCtorEq, Nat.reduceBEq, Nat.reduceEqDiff, Nat.reduceAdd, Nat.reduceMul, Nat.reduceLeDiff, Nat.reduceLT, Nat.reduceSub]
      refine hK13 _ ?_
      clear hK13
      refine aw_draw zT prog_mixed fun K14 hK14 => ?_
      simp only [amset, amlib, zset, hget, hget2, eq_self, ↓reduceIte, reduceCtorEq, Nat.reduceBEq, Nat.reduceEqDiff, Nat.reduceAdd, Nat.reduceMul, Nat.reduceLeDiff, Nat.reduceLT, Nat.reduceSub]
      refine ⟨⟨by omega, by omega⟩, ?_⟩
      refine ⟨⟨by omega, by omega⟩, ?_⟩
      refine ⟨by kernel_rfl, ?_⟩
      refine hK14 _ ?_
      clear hK14
      refine aw_cond rfl (fun h1 => ?_) (fun h1 => ?_)
      · skip
        refine aw_ops zT fun K15 hK15 => ?_
        simp only [amset, amlib, zset, eq_self, ↓reduceIte, reduceCtorEq, Nat.reduceBEq, Nat.reduceEqDiff, Nat.reduceAdd, Nat.reduceMul, Nat.reduceLeDiff, Nat.reduceLT, Nat.reduceSub]
        refine hK15 _ ?_
        clear hK15
        refine aw_ret ?_
        show resOf zG _ [.tmp 4] = some _
        simp only [amset, amlib, zset, eq_self, ↓reduceIte, reduceCtorEq, Nat.reduceBEq, Nat.reduceEqDiff, Nat.reduceAdd, Nat.reduceMul, Nat.reduceLeDiff, Nat.reduceLT, Nat.reduceSub]
        rw [harg, hz, all2_fail hzl.symm (by simpa [eqStr] using h1)]
      · skip
        refine aw_skip ?_
        simp only [thenQ, blkQ, if_true, reduceIte, Nat.reduceEqDiff, eq_self]
        refine hK12 _ ?_
        clear hK12
        refine aw_region zT ?_
        simp only [amset, amlib, zset, eq_self, ↓reduceIte, reduceCtorEq, Nat.reduceBEq, Nat.reduceEqDiff, Nat.reduceAdd, Nat.reduceMul, Nat.reduceLeDiff, Nat.reduceLT, Nat.reduceSub]
        refine ⟨⟨by omega, by omega⟩, ?_⟩
        refine hR _ (by rw [show (dn ++ [y]).length = dn.length + 1 by simp, take_snoc hz hzl, all2_snoc hzl.symm, hI, Bool.true_and]; simpa [eqStr] using h1) ?_
        refine Reach.to ?_ ?_
        · simp only [amset, amlib, zset, eq_self, ↓reduceIte, reduceCtorEq, Nat.reduceBEq, Nat.reduceEqDiff, Nat.reduceAdd, Nat.reduceMul, Nat.reduceLeDiff, Nat.reduceLT, Nat.reduceSub] <;> simp [eq_self]
        · simp only [amset, amlib, zset, eq_self, ↓reduceIte, reduceCtorEq, Nat.reduceBEq, Nat.reduceEqDiff, Nat.reduceAdd, Nat.reduceMul, Nat.reduceLeDiff, Nat.reduceLT, Nat.reduceSub] <;> simp [eq_self]
theorem prog106 : Tryz.prog.funcs[106]? = some Tryz.f106 := by kernel_rfl
theorem holds106 (x y : Cn) : Holds Tryz.prog zG 106 [.agg [.str x.name, .int .i16 x.value, .int .i64 x.pos], .agg [.str y.name, .int .i16 y.value, .int .i64 y.pos]] [.c (.bool (eqC x y))] := by
  refine holds_of_body zT prog106 rfl rfl rfl (by simp [Tryz.f106]) ?_
  refine aw_ops zT fun K1 hK1 => ?_
  simp only [amset, amlib, zset, eq_self, ↓reduceIte, reduceCtorEq, Nat.reduceBEq, Nat.reduceEqDiff, Nat.reduceAdd, Nat.reduceMul, Nat.reduceLeDiff, Nat.reduceLT, Nat.reduceSub]
  refine hK1 _ ?_
  clear hK1
  refine aw_ops zT fun K2 hK2 => ?_
  cases e0 : (x.name == y.name) with
  | true =>
    cases e1 : (x.value == y.value) with
    | true =>
      simp only [amset, amlib, zset, e0, e1, eq_self, ↓reduceIte, reduceCtorEq, Nat.reduceBEq, Nat.reduceEqDiff, Nat.reduceAdd, Nat.reduceMul, Nat.reduceLeDiff, Nat.reduceLT, Nat.reduceSub]
      refine hK2 _ ?_
      clear hK2
      refine aw_ret ?_
      show resOf zG _ [.tmp 4] = some _
      simp only [amset, amlib, zset, eq_self, ↓reduceIte, reduceCtorEq, Nat.reduceBEq, Nat.reduceEqDiff, Nat.reduceAdd, Nat.reduceMul, Nat.reduceLeDiff, Nat.reduceLT, Nat.reduceSub]
      simp only [eqC, e0, e1, Bool.true_or, Bool.or_true, Bool.false_or, Bool.or_false, Bool.true_and, Bool.and_true, Bool.false_and, Bool.and_false, Bool.not_true, Bool.not_false, if_true, if_false, ↓reduceIte, Bool.false_eq_true]
    | false =>
      simp only [amset, amlib, zset, e0, e1, eq_self, ↓reduceIte, reduceCtorEq, Nat.reduceBEq, Nat.reduceEqDiff, Nat.reduceAdd, Nat.reduceMul, Nat.reduceLeDiff, Nat.reduceLT, Nat.reduceSub]
      refine hK2 _ ?_
      clear hK2
      refine aw_ret ?_
      show resOf zG _ [.tmp 4] = some _
      simp only [amset, amlib, zset, eq_self, ↓reduceIte, reduceCtorEq, Nat.reduceBEq, Nat.reduceEqDiff, Nat.reduceAdd, Nat.reduceMul, Nat.reduceLeDiff, Nat.reduceLT, Nat.reduceSub]
      simp only [eqC, e0, e1, Bool.true_or, Bool.or_true, Bool.false_or, Bool.or_false, Bool.true_and, Bool.and_true, Bool.false_and, Bool.and_false, Bool.not_true, Bool.not_false, if_true, if_false, ↓reduceIte, Bool.false_eq_true]
  | false =>
    simp only [amset, amlib, zset, e0, eq_self, ↓reduceIte, reduceCtorEq, Nat.reduceBEq, Nat.reduceEqDiff, Nat.reduceAdd, Nat.reduceMul, Nat.reduceLeDiff, Nat.reduceLT, Nat.reduceSub]
    refine hK2 _ ?_
    clear hK2
    refine aw_ret ?_
    show resOf zG _ [.tmp 4] = some _
    simp only [amset, amlib, zset, eq_self, ↓reduceIte, reduceCtorEq, Nat.reduceBEq, Nat.reduceEqDiff, Nat.reduceAdd, Nat.reduceMul, Nat.reduceLeDiff, Nat.reduceLT, Nat.reduceSub]
    simp only [eqC, e0, Bool.true_or, Bool.or_true, Bool.false_or, Bool.or_false, Bool.true_and, Bool.and_true, Bool.false_and, Bool.and_false, Bool.not_true, Bool.not_false, if_true, if_false, ↓reduceIte, Bool.false_eq_true]
theorem prog108 : Tryz.prog.funcs[108]? = some Tryz.f108 := by kernel_rfl
theorem holds108 (x y : Gl) : Holds Tryz.prog zG 108 [.agg [.str x.name, .int .i64 x.len, .int .i16 x.init, .int .i64 x.pos], .agg [.str y.name, .int .i64 y.len, .int .i16 y.init, .int .i64 y.pos]] [.c (.bool (eqG x y))] := by
  refine holds_of_body zT prog108 rfl rfl rfl (by simp [Tryz.f108]) ?_
  refine aw_ops zT fun K1 hK1 => ?_
  simp only [amset, amlib, zset, eq_self, ↓reduceIte, reduceCtorEq, Nat.reduceBEq, Nat.reduceEqDiff, Nat.reduceAdd, Nat.reduceMul, Nat.reduceLeDiff, Nat.reduceLT, Nat.reduceSub]
  refine hK1 _ ?_
  clear hK1
  refine aw_ops zT fun K2 hK2 => ?_
  cases e0 : (x.name == y.name) with
  | true =>
    cases e1 : (x.len == y.len) with
    | true =>
      cases e2 : (x.init == y.init) with
      | true =>
        simp only [amset, amlib, zset, e0, e1, e2, eq_self, ↓reduceIte, reduceCtorEq, Nat.reduceBEq, Nat.reduceEqDiff, Nat.reduceAdd, Nat.reduceMul, Nat.reduceLeDiff, Nat.reduceLT, Nat.reduceSub]
        refine hK2 _ ?_
        clear hK2
        refine aw_ret ?_
        show resOf zG _ [.tmp 4] = some _
        simp only [amset, amlib, zset, eq_self, ↓reduceIte, reduceCtorEq, Nat.reduceBEq, Nat.reduceEqDiff, Nat.reduceAdd, Nat.reduceMul, Nat.reduceLeDiff, Nat.reduceLT, Nat.reduceSub]
        simp only [eqG, e0, e1, e2, Bool.true_or, Bool.or_true, Bool.false_or, Bool.or_false, Bool.true_and, Bool.and_true, Bool.false_and, Bool.and_false, Bool.not_true, Bool.not_false, if_true, if_false, ↓reduceIte, Bool.false_eq_true]
      | false =>
        simp only [amset, amlib, zset, e0, e1, e2, eq_self, ↓reduceIte, reduceCtorEq, Nat.reduceBEq, Nat.reduceEqDiff, Nat.reduceAdd, Nat.reduceMul, Nat.reduceLeDiff, Nat.reduceLT, Nat.reduceSub]
        refine hK2 _ ?_
        clear hK2
        refine aw_ret ?_
        show resOf zG _ [.tmp 4] = some _
        simp only [amset, amlib, zset, eq_self, ↓reduceIte, reduceCtorEq, Nat.reduceBEq, Nat.reduceEqDiff, Nat.reduceAdd, Nat.reduceMul, Nat.reduceLeDiff, Nat.reduceLT, Nat.reduceSub]
        simp only [eqG, e0, e1, e2, Bool.true_or, Bool.or_true, Bool.false_or, Bool.or_false, Bool.true_and, Bool.and_true, Bool.false_and, Bool.and_false, Bool.not_true, Bool.not_false, if_true, if_false, ↓reduceIte, Bool.false_eq_true]
    | false =>
      simp only [amset, amlib, zset, e0, e1, eq_self, ↓reduceIte, reduceCtorEq, Nat.reduceBEq, Nat.reduceEqDiff, Nat.reduceAdd, Nat.reduceMul, Nat.reduceLeDiff, Nat.reduceLT, Nat.reduceSub]
      refine hK2 _ ?_
      clear hK2
      refine aw_ret ?_
      show resOf zG _ [.tmp 4] = some _
      simp only [amset, amlib, zset, eq_self, ↓reduceIte, reduceCtorEq, Nat.reduceBEq, Nat.reduceEqDiff, Nat.reduceAdd, Nat.reduceMul, Nat.reduceLeDiff, Nat.reduceLT, Nat.reduceSub]
      simp only [eqG, e0, e1, Bool.true_or, Bool.or_true, Bool.false_or, Bool.or_false, Bool.true_and, Bool.and_true, Bool.false_and, Bool.and_false, Bool.not_true, Bool.not_false, if_true, if_false, ↓reduceIte, Bool.false_eq_true]
  | false =>
    simp only [amset, amlib, zset, e0, eq_self, ↓reduceIte, reduceCtorEq, Nat.reduceBEq, Nat.reduceEqDiff, Nat.reduceAdd, Nat.reduceMul, Nat.reduceLeDiff, Nat.reduceLT, Nat.reduceSub]
    refine hK2 _ ?_
    clear hK2
    refine aw_ret ?_
    show resOf zG _ [.tmp 4] = some _
    simp only [amset, amlib, zset, eq_self, ↓reduceIte, reduceCtorEq, Nat.reduceBEq, Nat.reduceEqDiff, Nat.reduceAdd, Nat.reduceMul, Nat.reduceLeDiff, Nat.reduceLT, Nat.reduceSub]
    simp only [eqG, e0, Bool.true_or, Bool.or_true, Bool.false_or, Bool.or_false, Bool.true_and, Bool.and_true, Bool.false_and, Bool.and_false, Bool.not_true, Bool.not_false, if_true, if_false, ↓reduceIte, Bool.false_eq_true]
theorem prog111 : Tryz.prog.funcs[111]? = some Tryz.f111 := by kernel_rfl
theorem holds111 (x y : Ch) : Holds Tryz.prog zG 111 [.agg [.str x.name, .int .i64 x.cap, .int .i64 x.pos], .agg [.str y.name, .int .i64 y.cap, .int .i64 y.pos]] [.c (.bool (eqH x y))] := by
  refine holds_of_body zT prog111 rfl rfl rfl (by simp [Tryz.f111]) ?_
  refine aw_ops zT fun K1 hK1 => ?_
  simp only [amset, amlib, zset, eq_self, ↓reduceIte, reduceCtorEq, Nat.reduceBEq, Nat.reduceEqDiff, Nat.reduceAdd, Nat.reduceMul, Nat.reduceLeDiff, Nat.reduceLT, Nat.reduceSub]
  refine hK1 _ ?_
  clear hK1
  refine aw_ops zT fun K2 hK2 => ?_
  cases e0 : (x.name == y.name) with
  | true =>
    cases e1 : (x.cap == y.cap) with
    | true =>
      simp only [amset, amlib, zset, e0, e1, eq_self, ↓reduceIte, reduceCtorEq, Nat.reduceBEq, Nat.reduceEqDiff, Nat.reduceAdd, Nat.reduceMul, Nat.reduceLeDiff, Nat.reduceLT, Nat.reduceSub]
      refine hK2 _ ?_
      clear hK2
      refine aw_ret ?_
      show resOf zG _ [.tmp 4] = some _
      simp only [amset, amlib, zset, eq_self, ↓reduceIte, reduceCtorEq, Nat.reduceBEq, Nat.reduceEqDiff, Nat.reduceAdd, Nat.reduceMul, Nat.reduceLeDiff, Nat.reduceLT, Nat.reduceSub]
      simp only [eqH, e0, e1, Bool.true_or, Bool.or_true, Bool.false_or, Bool.or_false, Bool.true_and, Bool.and_true, Bool.false_and, Bool.and_false, Bool.not_true, Bool.not_false, if_true, if_false, ↓reduceIte, Bool.false_eq_true]
    | false =>
      simp only [amset, amlib, zset, e0, e1, eq_self, ↓reduceIte, reduceCtorEq, Nat.reduceBEq, Nat.reduceEqDiff, Nat.reduceAdd, Nat.reduceMul, Nat.reduceLeDiff, Nat.reduceLT, Nat.reduceSub]
      refine hK2 _ ?_
      clear hK2
      refine aw_ret ?_
      show resOf zG _ [.tmp 4] = some _
      simp only [amset, amlib, zset, eq_self, ↓reduceIte, reduceCtorEq, Nat.reduceBEq, Nat.reduceEqDiff, Nat.reduceAdd, Nat.reduceMul, Nat.reduceLeDiff, Nat.reduceLT, Nat.reduceSub]
      simp only [eqH, e0, e1, Bool.true_or, Bool.or_true, Bool.false_or, Bool.or_false, Bool.true_and, Bool.and_true, Bool.false_and, Bool.and_false, Bool.not_true, Bool.not_false, if_true, if_false, ↓reduceIte, Bool.false_eq_true]
  | false =>
    simp only [amset, amlib, zset, e0, eq_self, ↓reduceIte, reduceCtorEq, Nat.reduceBEq, Nat.reduceEqDiff, Nat.reduceAdd, Nat.reduceMul, Nat.reduceLeDiff, Nat.reduceLT, Nat.reduceSub]
    refine hK2 _ ?_
    clear hK2
    refine aw_ret ?_
    show resOf zG _ [.tmp 4] = some _
    simp only [amset, amlib, zset, eq_self, ↓reduceIte, reduceCtorEq, Nat.reduceBEq, Nat.reduceEqDiff, Nat.reduceAdd, Nat.reduceMul, Nat.reduceLeDiff, Nat.reduceLT, Nat.reduceSub]
    simp only [eqH, e0, Bool.true_or, Bool.or_true, Bool.false_or, Bool.or_false, Bool.true_and, Bool.and_true, Bool.false_and, Bool.and_false, Bool.not_true, Bool.not_false, if_true, if_false, ↓reduceIte, Bool.false_eq_true]
theorem prog41 : Tryz.prog.funcs[41]? = some Tryz.f41 := by kernel_rfl
theorem step41 (x y : Ex) (ih : ∀ z ∈ x.args, ∀ w, Holds Tryz.prog zG 41 [.agg [.int .i64 z.kind, .str z.name, .int .i16 z.value, .int .i64 z.op, .sl 6 (encEs z.args), .int .i64 z.pos], .agg [.int .i64 w.kind, .str w.name, .int .i16 w.value, .int .i64 w.op, .sl 6 (encEs w.args), .int .i64 w.pos]] [.c (.bool (eqE z w))]) : Holds Tryz.prog zG 41 [.agg [.int .i64 x.kind, .str x.name, .int .i16 x.value, .int .i64 x.op, .sl 6 (encEs x.args), .int .i64 x.pos], .agg [.int .i64 y.kind, .str y.name, .int .i16 y.value, .int .i64 y.op, .sl 6 (encEs y.args), .int .i64 y.pos]] [.c (.bool (eqE x y))] := by
  refine holds_of_body zT prog41 rfl rfl rfl (by simp [Tryz.f41]) ?_
  refine aw_ops zT fun K1 hK1 => ?_
  simp only [amset, amlib, zset, eq_self, ↓reduceIte, reduceCtorEq, Nat.reduceBEq, Nat.reduceEqDiff, Nat.reduceAdd, Nat.reduceMul, Nat.reduceLeDiff, Nat.reduceLT, Nat.reduceSub]
  refine hK1 _ ?_
  clear hK1
  refine aw_ops zT fun K2 hK2 => ?_
  cases e0 : (x.kind == y.kind) with
  | true =>
    cases e1 : (x.name == y.name) with
    | true =>
      cases e2 : (x.value == y.value) with
      | true =>
        cases e3 : (x.op == y.op) with
        | true =>
          simp only [amset, amlib, zset, e0, e1, e2, e3, eq_self, ↓reduceIte, reduceCtorEq, Nat.reduceBEq, Nat.reduceEqDiff, Nat.reduceAdd, Nat.reduceMul, Nat.reduceLeDiff, Nat.reduceLT, Nat.reduceSub]
          refine ⟨_, holds115 41 eqE x.args y.args ih, ?_⟩
          simp only [later]
          simp only [amset, amlib, zset, e0, e1, e2, e3, eq_self, ↓reduceIte, reduceCtorEq, Nat.reduceBEq, Nat.reduceEqDiff, Nat.reduceAdd, Nat.reduceMul, Nat.reduceLeDiff, Nat.reduceLT, Nat.reduceSub]
          refine hK2 _ ?_
          clear hK2
          refine aw_ret ?_
          show resOf zG _ [.tmp 4] = some _
          simp only [amset, amlib, zset, eq_self, ↓reduceIte, reduceCtorEq, Nat.reduceBEq, Nat.reduceEqDiff, Nat.reduceAdd, Nat.reduceMul, Nat.reduceLeDiff, Nat.reduceLT, Nat.reduceSub]
          simp only [eqE_eq, all2_eqE, e0, e1, e2, e3, Bool.true_or, Bool.or_true, Bool.false_or, Bool.or_false, Bool.true_and, Bool.and_true, Bool.false_and, Bool.and_false, Bool.not_true, Bool.not_false, if_true, if_false, ↓reduceIte, Bool.false_eq_true]
        | false =>
          simp only [amset, amlib, zset, e0, e1, e2, e3, eq_self, ↓reduceIte, reduceCtorEq, Nat.reduceBEq, Nat.reduceEqDiff, Nat.reduceAdd, Nat.reduceMul, Nat.reduceLeDiff, Nat.reduceLT, Nat.reduceSub]
          refine hK2 _ ?_
          clear hK2
          refine aw_ret ?_
          show resOf zG _ [.tmp 4] = some _
          simp only [amset, amlib, zset, eq_self, ↓reduceIte, reduceCtorEq, Nat.reduceBEq, Nat.reduceEqDiff, Nat.reduceAdd, Nat.reduceMul, Nat.reduceLeDiff, Nat.reduceLT, Nat.reduceSub]
          simp only [eqE_eq, all2_eqE, e0, e1, e2, e3, Bool.true_or, Bool.or_true, Bool.false_or, Bool.or_false, Bool.true_and, Bool.and_true, Bool.false_and, Bool.and_false, Bool.not_true, Bool.not_false, if_true, if_false, ↓reduceIte, Bool.false_eq_true]
      | false =>
        simp only [amset, amlib, zset, e0, e1, e2, eq_self, ↓reduceIte, reduceCtorEq, Nat.reduceBEq, Nat.reduceEqDiff, Nat.reduceAdd, Nat.reduceMul, Nat.reduceLeDiff, Nat.reduceLT, Nat.reduceSub]
        refine hK2 _ ?_
        clear hK2
        refine aw_ret ?_
        show resOf zG _ [.tmp 4] = some _
        simp only [amset, amlib, zset, eq_self, ↓reduceIte, reduceCtorEq, Nat.reduceBEq, Nat.reduceEqDiff, Nat.reduceAdd, Nat.reduceMul, Nat.reduceLeDiff, Nat.reduceLT, Nat.reduceSub]
        simp only [eqE_eq, all2_eqE, e0, e1, e2, Bool.true_or, Bool.or_true, Bool.false_or, Bool.or_false, Bool.true_and, Bool.and_true, Bool.false_and, Bool.and_false, Bool.not_true, Bool.not_false, if_true, if_false, ↓reduceIte, Bool.false_eq_true]
    | false =>
      simp only [amset, amlib, zset, e0, e1, eq_self, ↓reduceIte, reduceCtorEq, Nat.reduceBEq, Nat.reduceEqDiff, Nat.reduceAdd, Nat.reduceMul, Nat.reduceLeDiff, Nat.reduceLT, Nat.reduceSub]
      refine hK2 _ ?_
      clear hK2
      refine aw_ret ?_
      show resOf zG _ [.tmp 4] = some _
      simp only [amset, amlib, zset, eq_self, ↓reduceIte, reduceCtorEq, Nat.reduceBEq, Nat.reduceEqDiff, Nat.reduceAdd, Nat.reduceMul, Nat.reduceLeDiff, Nat.reduceLT, Nat.reduceSub]
      simp only [eqE_eq, all2_eqE, e0, e1, Bool.true_or, Bool.or_true, Bool.false_or, Bool.or_false, Bool.true_and, Bool.and_true, Bool.false_and, Bool.and_false, Bool.not_true, Bool.not_false, if_true, if_false, ↓reduceIte, Bool.false_eq_true]
  | false =>
    simp only [amset, amlib, zset, e0, eq_self, ↓reduceIte, reduceCtorEq, Nat.reduceBEq, Nat.reduceEqDiff, Nat.reduceAdd, Nat.reduceMul, Nat.reduceLeDiff, Nat.reduceLT, Nat.reduceSub]
    refine hK2 _ ?_
    clear hK2
    refine aw_ret ?_
    show resOf zG _ [.tmp 4] = some _
    simp only [amset, amlib, zset, eq_self, ↓reduceIte, reduceCtorEq, Nat.reduceBEq, Nat.reduceEqDiff, Nat.reduceAdd, Nat.reduceMul, Nat.reduceLeDiff, Nat.reduceLT, Nat.reduceSub]
    simp only [eqE_eq, all2_eqE, e0, Bool.true_or, Bool.or_true, Bool.false_or, Bool.or_false, Bool.true_and, Bool.and_true, Bool.false_and, Bool.and_false, Bool.not_true, Bool.not_false, if_true, if_false, ↓reduceIte, Bool.false_eq_true]
theorem holds41 (x y : Ex) : Holds Tryz.prog zG 41 [.agg [.int .i64 x.kind, .str x.name, .int .i16 x.value, .int .i64 x.op, .sl 6 (encEs x.args), .int .i64 x.pos], .agg [.int .i64 y.kind, .str y.name, .int .i16 y.value, .int .i64 y.op, .sl 6 (encEs y.args), .int .i64 y.pos]] [.c (.bool (eqE x y))] := step41 x y fun z hz w => holds41 z w
  termination_by SizeOf.sizeOf x
  decreasing_by exact Ex.args_lt hz
theorem prog176 : Tryz.prog.funcs[176]? = some Tryz.f176 := by kernel_rfl
theorem step176 (x y : St) (ih : ∀ z ∈ x.body, ∀ w, Holds Tryz.prog zG 176 [.agg [.int .i64 z.kind, .str z.name, .int .i64 z.n, .sl 6 (encEs z.args), .sl 7 (encSs z.body), .sl 7 (encSs z.els), .int .i64 z.pos], .agg [.int .i64 w.kind, .str w.name, .int .i64 w.n, .sl 6 (encEs w.args), .sl 7 (encSs w.body), .sl 7 (encSs w.els), .int .i64 w.pos]] [.c (.bool (eqS z w))]) (ihe : ∀ z ∈ x.els, ∀ w, Holds Tryz.prog zG 176 [.agg [.int .i64 z.kind, .str z.name, .int .i64 z.n, .sl 6 (encEs z.args), .sl 7 (encSs z.body), .sl 7 (encSs z.els), .int .i64 z.pos], .agg [.int .i64 w.kind, .str w.name, .int .i64 w.n, .sl 6 (encEs w.args), .sl 7 (encSs w.body), .sl 7 (encSs w.els), .int .i64 w.pos]] [.c (.bool (eqS z w))]) : Holds Tryz.prog zG 176 [.agg [.int .i64 x.kind, .str x.name, .int .i64 x.n, .sl 6 (encEs x.args), .sl 7 (encSs x.body), .sl 7 (encSs x.els), .int .i64 x.pos], .agg [.int .i64 y.kind, .str y.name, .int .i64 y.n, .sl 6 (encEs y.args), .sl 7 (encSs y.body), .sl 7 (encSs y.els), .int .i64 y.pos]] [.c (.bool (eqS x y))] := by
  refine holds_of_body zT prog176 rfl rfl rfl (by simp [Tryz.f176]) ?_
  refine aw_ops zT fun K1 hK1 => ?_
  simp only [amset, amlib, zset, eq_self, ↓reduceIte, reduceCtorEq, Nat.reduceBEq, Nat.reduceEqDiff, Nat.reduceAdd, Nat.reduceMul, Nat.reduceLeDiff, Nat.reduceLT, Nat.reduceSub]
  refine hK1 _ ?_
  clear hK1
  refine aw_ops zT fun K2 hK2 => ?_
  cases e0 : (x.kind == y.kind) with
  | true =>
    cases e1 : (x.name == y.name) with
    | true =>
      cases e2 : (x.n == y.n) with
      | true =>
        cases e3 : (all2 eqE x.args y.args) with
        | true =>
          cases e4 : (all2 eqS x.body y.body) with
          | true =>
            simp only [amset, amlib, zset, e0, e1, e2, e3, e4, eq_self, ↓reduceIte, reduceCtorEq, Nat.reduceBEq, Nat.reduceEqDiff, Nat.reduceAdd, Nat.reduceMul, Nat.reduceLeDiff, Nat.reduceLT, Nat.reduceSub]
            refine ⟨_, holds115 41 eqE x.args y.args fun z _ w => holds41 z w, ?_⟩
            simp only [later]
            simp only [amset, amlib, zset, e0, e1, e2, e3, e4, eq_self, ↓reduceIte, reduceCtorEq, Nat.reduceBEq, Nat.reduceEqDiff, Nat.reduceAdd, Nat.reduceMul, Nat.reduceLeDiff, Nat.reduceLT, Nat.reduceSub]
            refine ⟨_, holds175 176 eqS x.body y.body ih, ?_⟩
            simp only [later]
            simp only [amset, amlib, zset, e0, e1, e2, e3, e4, eq_self, ↓reduceIte, reduceCtorEq, Nat.reduceBEq, Nat.reduceEqDiff, Nat.reduceAdd, Nat.reduceMul, Nat.reduceLeDiff, Nat.reduceLT, Nat.reduceSub]
            refine ⟨_, holds175 176 eqS x.els y.els ihe, ?_⟩
            simp only [later]
            simp only [amset, amlib, zset, e0, e1, e2, e3, e4, eq_self, ↓reduceIte, reduceCtorEq, Nat.reduceBEq, Nat.reduceEqDiff, Nat.reduceAdd, Nat.reduceMul, Nat.reduceLeDiff, Nat.reduceLT, Nat.reduceSub]
            refine hK2 _ ?_
            clear hK2
            refine aw_ret ?_
            show resOf zG _ [.tmp 4] = some _
            simp only [amset, amlib, zset, eq_self, ↓reduceIte, reduceCtorEq, Nat.reduceBEq, Nat.reduceEqDiff, Nat.reduceAdd, Nat.reduceMul, Nat.reduceLeDiff, Nat.reduceLT, Nat.reduceSub]
            simp only [eqS_eq, ← all2_eqE, ← all2_eqS, e0, e1, e2, e3, e4, Bool.true_or, Bool.or_true, Bool.false_or, Bool.or_false, Bool.true_and, Bool.and_true, Bool.false_and, Bool.and_false, Bool.not_true, Bool.not_false, if_true, if_false, ↓reduceIte, Bool.false_eq_true]
          | false =>
            simp only [amset, amlib, zset, e0, e1, e2, e3, e4, eq_self, ↓reduceIte, reduceCtorEq, Nat.reduceBEq, Nat.reduceEqDiff, Nat.reduceAdd, Nat.reduceMul, Nat.reduceLeDiff, Nat.reduceLT, Nat.reduceSub]
            refine ⟨_, holds115 41 eqE x.args y.args fun z _ w => holds41 z w, ?_⟩
            simp only [later]
            simp only [amset, amlib, zset, e0, e1, e2, e3, e4, eq_self, ↓reduceIte, reduceCtorEq, Nat.reduceBEq, Nat.reduceEqDiff, Nat.reduceAdd, Nat.reduceMul, Nat.reduceLeDiff, Nat.reduceLT, Nat.reduceSub]
            refine ⟨_, holds175 176 eqS x.body y.body ih, ?_⟩
            simp only [later]
            simp only [amset, amlib, zset, e0, e1, e2, e3, e4, eq_self, ↓reduceIte, reduceCtorEq, Nat.reduceBEq, Nat.reduceEqDiff, Nat.reduceAdd, Nat.reduceMul, Nat.reduceLeDiff, Nat.reduceLT, Nat.reduceSub]
            refine hK2 _ ?_
            clear hK2
            refine aw_ret ?_
            show resOf zG _ [.tmp 4] = some _
            simp only [amset, amlib, zset, eq_self, ↓reduceIte, reduceCtorEq, Nat.reduceBEq, Nat.reduceEqDiff, Nat.reduceAdd, Nat.reduceMul, Nat.reduceLeDiff, Nat.reduceLT, Nat.reduceSub]
            simp only [eqS_eq, ← all2_eqE, ← all2_eqS, e0, e1, e2, e3, e4, Bool.true_or, Bool.or_true, Bool.false_or, Bool.or_false, Bool.true_and, Bool.and_true, Bool.false_and, Bool.and_false, Bool.not_true, Bool.not_false, if_true, if_false, ↓reduceIte, Bool.false_eq_true]
        | false =>
          simp only [amset, amlib, zset, e0, e1, e2, e3, eq_self, ↓reduceIte, reduceCtorEq, Nat.reduceBEq, Nat.reduceEqDiff, Nat.reduceAdd, Nat.reduceMul, Nat.reduceLeDiff, Nat.reduceLT, Nat.reduceSub]
          refine ⟨_, holds115 41 eqE x.args y.args fun z _ w => holds41 z w, ?_⟩
          simp only [later]
          simp only [amset, amlib, zset, e0, e1, e2, e3, eq_self, ↓reduceIte, reduceCtorEq, Nat.reduceBEq, Nat.reduceEqDiff, Nat.reduceAdd, Nat.reduceMul, Nat.reduceLeDiff, Nat.reduceLT, Nat.reduceSub]
          refine hK2 _ ?_
          clear hK2
          refine aw_ret ?_
          show resOf zG _ [.tmp 4] = some _
          simp only [amset, amlib, zset, eq_self, ↓reduceIte, reduceCtorEq, Nat.reduceBEq, Nat.reduceEqDiff, Nat.reduceAdd, Nat.reduceMul, Nat.reduceLeDiff, Nat.reduceLT, Nat.reduceSub]
          simp only [eqS_eq, ← all2_eqE, ← all2_eqS, e0, e1, e2, e3, Bool.true_or, Bool.or_true, Bool.false_or, Bool.or_false, Bool.true_and, Bool.and_true, Bool.false_and, Bool.and_false, Bool.not_true, Bool.not_false, if_true, if_false, ↓reduceIte, Bool.false_eq_true]
      | false =>
        simp only [amset, amlib, zset, e0, e1, e2, eq_self, ↓reduceIte, reduceCtorEq, Nat.reduceBEq, Nat.reduceEqDiff, Nat.reduceAdd, Nat.reduceMul, Nat.reduceLeDiff, Nat.reduceLT, Nat.reduceSub]
        refine hK2 _ ?_
        clear hK2
        refine aw_ret ?_
        show resOf zG _ [.tmp 4] = some _
        simp only [amset, amlib, zset, eq_self, ↓reduceIte, reduceCtorEq, Nat.reduceBEq, Nat.reduceEqDiff, Nat.reduceAdd, Nat.reduceMul, Nat.reduceLeDiff, Nat.reduceLT, Nat.reduceSub]
        simp only [eqS_eq, ← all2_eqE, ← all2_eqS, e0, e1, e2, Bool.true_or, Bool.or_true, Bool.false_or, Bool.or_false, Bool.true_and, Bool.and_true, Bool.false_and, Bool.and_false, Bool.not_true, Bool.not_false, if_true, if_false, ↓reduceIte, Bool.false_eq_true]
    | false =>
      simp only [amset, amlib, zset, e0, e1, eq_self, ↓reduceIte, reduceCtorEq, Nat.reduceBEq, Nat.reduceEqDiff, Nat.reduceAdd, Nat.reduceMul, Nat.reduceLeDiff, Nat.reduceLT, Nat.reduceSub]
      refine hK2 _ ?_
      clear hK2
      refine aw_ret ?_
      show resOf zG _ [.tmp 4] = some _
      simp only [amset, amlib, zset, eq_self, ↓reduceIte, reduceCtorEq, Nat.reduceBEq, Nat.reduceEqDiff, Nat.reduceAdd, Nat.reduceMul, Nat.reduceLeDiff, Nat.reduceLT, Nat.reduceSub]
      simp only [eqS_eq, ← all2_eqE, ← all2_eqS, e0, e1, Bool.true_or, Bool.or_true, Bool.false_or, Bool.or_false, Bool.true_and, Bool.and_true, Bool.false_and, Bool.and_false, Bool.not_true, Bool.not_false, if_true, if_false, ↓reduceIte, Bool.false_eq_true]
  | false =>
    simp only [amset, amlib, zset, e0, eq_self, ↓reduceIte, reduceCtorEq, Nat.reduceBEq, Nat.reduceEqDiff, Nat.reduceAdd, Nat.reduceMul, Nat.reduceLeDiff, Nat.reduceLT, Nat.reduceSub]
    refine hK2 _ ?_
    clear hK2
    refine aw_ret ?_
    show resOf zG _ [.tmp 4] = some _
    simp only [amset, amlib, zset, eq_self, ↓reduceIte, reduceCtorEq, Nat.reduceBEq, Nat.reduceEqDiff, Nat.reduceAdd, Nat.reduceMul, Nat.reduceLeDiff, Nat.reduceLT, Nat.reduceSub]
    simp only [eqS_eq, ← all2_eqE, ← all2_eqS, e0, Bool.true_or, Bool.or_true, Bool.false_or, Bool.or_false, Bool.true_and, Bool.and_true, Bool.false_and, Bool.and_false, Bool.not_true, Bool.not_false, if_true, if_false, ↓reduceIte, Bool.false_eq_true]
theorem holds176 (x y : St) : Holds Tryz.prog zG 176 [.agg [.int .i64 x.kind, .str x.name, .int .i64 x.n, .sl 6 (encEs x.args), .sl 7 (encSs x.body), .sl 7 (encSs x.els), .int .i64 x.pos], .agg [.int .i64 y.kind, .str y.name, .int .i64 y.n, .sl 6 (encEs y.args), .sl 7 (encSs y.body), .sl 7 (encSs y.els), .int .i64 y.pos]] [.c (.bool (eqS x y))] := step176 x y (fun z hz w => holds176 z w) (fun z hz w => holds176 z w)
  termination_by SizeOf.sizeOf x
  decreasing_by
  · exact St.body_lt hz
  · exact St.els_lt hz
theorem prog113 : Tryz.prog.funcs[113]? = some Tryz.f113 := by kernel_rfl
theorem holds113 (x y : Tk) : Holds Tryz.prog zG 113 [.agg [.str x.name, .int .i64 x.period, .int .i64 x.deadline, .str x.channel, .str x.param, .int .i64 x.within, .sl 7 (encSs x.body), .int .i64 x.pos], .agg [.str y.name, .int .i64 y.period, .int .i64 y.deadline, .str y.channel, .str y.param, .int .i64 y.within, .sl 7 (encSs y.body), .int .i64 y.pos]] [.c (.bool (eqT x y))] := by
  refine holds_of_body zT prog113 rfl rfl rfl (by simp [Tryz.f113]) ?_
  refine aw_ops zT fun K1 hK1 => ?_
  simp only [amset, amlib, zset, eq_self, ↓reduceIte, reduceCtorEq, Nat.reduceBEq, Nat.reduceEqDiff, Nat.reduceAdd, Nat.reduceMul, Nat.reduceLeDiff, Nat.reduceLT, Nat.reduceSub]
  refine hK1 _ ?_
  clear hK1
  refine aw_ops zT fun K2 hK2 => ?_
  cases e0 : (x.name == y.name) with
  | true =>
    cases e1 : (x.period == y.period) with
    | true =>
      cases e2 : (x.deadline == y.deadline) with
      | true =>
        cases e3 : (x.channel == y.channel) with
        | true =>
          cases e4 : (x.param == y.param) with
          | true =>
            cases e5 : (x.within == y.within) with
            | true =>
              simp only [amset, amlib, zset, e0, e1, e2, e3, e4, e5, eq_self, ↓reduceIte, reduceCtorEq, Nat.reduceBEq, Nat.reduceEqDiff, Nat.reduceAdd, Nat.reduceMul, Nat.reduceLeDiff, Nat.reduceLT, Nat.reduceSub]
              refine ⟨_, holds175 176 eqS x.body y.body fun z _ w => holds176 z w, ?_⟩
              simp only [later]
              simp only [amset, amlib, zset, e0, e1, e2, e3, e4, e5, eq_self, ↓reduceIte, reduceCtorEq, Nat.reduceBEq, Nat.reduceEqDiff, Nat.reduceAdd, Nat.reduceMul, Nat.reduceLeDiff, Nat.reduceLT, Nat.reduceSub]
              refine hK2 _ ?_
              clear hK2
              refine aw_ret ?_
              show resOf zG _ [.tmp 4] = some _
              simp only [amset, amlib, zset, eq_self, ↓reduceIte, reduceCtorEq, Nat.reduceBEq, Nat.reduceEqDiff, Nat.reduceAdd, Nat.reduceMul, Nat.reduceLeDiff, Nat.reduceLT, Nat.reduceSub]
              simp only [eqT, all2_eqS, e0, e1, e2, e3, e4, e5, Bool.true_or, Bool.or_true, Bool.false_or, Bool.or_false, Bool.true_and, Bool.and_true, Bool.false_and, Bool.and_false, Bool.not_true, Bool.not_false, if_true, if_false, ↓reduceIte, Bool.false_eq_true]
            | false =>
              simp only [amset, amlib, zset, e0, e1, e2, e3, e4, e5, eq_self, ↓reduceIte, reduceCtorEq, Nat.reduceBEq, Nat.reduceEqDiff, Nat.reduceAdd, Nat.reduceMul, Nat.reduceLeDiff, Nat.reduceLT, Nat.reduceSub]
              refine hK2 _ ?_
              clear hK2
              refine aw_ret ?_
              show resOf zG _ [.tmp 4] = some _
              simp only [amset, amlib, zset, eq_self, ↓reduceIte, reduceCtorEq, Nat.reduceBEq, Nat.reduceEqDiff, Nat.reduceAdd, Nat.reduceMul, Nat.reduceLeDiff, Nat.reduceLT, Nat.reduceSub]
              simp only [eqT, all2_eqS, e0, e1, e2, e3, e4, e5, Bool.true_or, Bool.or_true, Bool.false_or, Bool.or_false, Bool.true_and, Bool.and_true, Bool.false_and, Bool.and_false, Bool.not_true, Bool.not_false, if_true, if_false, ↓reduceIte, Bool.false_eq_true]
          | false =>
            simp only [amset, amlib, zset, e0, e1, e2, e3, e4, eq_self, ↓reduceIte, reduceCtorEq, Nat.reduceBEq, Nat.reduceEqDiff, Nat.reduceAdd, Nat.reduceMul, Nat.reduceLeDiff, Nat.reduceLT, Nat.reduceSub]
            refine hK2 _ ?_
            clear hK2
            refine aw_ret ?_
            show resOf zG _ [.tmp 4] = some _
            simp only [amset, amlib, zset, eq_self, ↓reduceIte, reduceCtorEq, Nat.reduceBEq, Nat.reduceEqDiff, Nat.reduceAdd, Nat.reduceMul, Nat.reduceLeDiff, Nat.reduceLT, Nat.reduceSub]
            simp only [eqT, all2_eqS, e0, e1, e2, e3, e4, Bool.true_or, Bool.or_true, Bool.false_or, Bool.or_false, Bool.true_and, Bool.and_true, Bool.false_and, Bool.and_false, Bool.not_true, Bool.not_false, if_true, if_false, ↓reduceIte, Bool.false_eq_true]
        | false =>
          simp only [amset, amlib, zset, e0, e1, e2, e3, eq_self, ↓reduceIte, reduceCtorEq, Nat.reduceBEq, Nat.reduceEqDiff, Nat.reduceAdd, Nat.reduceMul, Nat.reduceLeDiff, Nat.reduceLT, Nat.reduceSub]
          refine hK2 _ ?_
          clear hK2
          refine aw_ret ?_
          show resOf zG _ [.tmp 4] = some _
          simp only [amset, amlib, zset, eq_self, ↓reduceIte, reduceCtorEq, Nat.reduceBEq, Nat.reduceEqDiff, Nat.reduceAdd, Nat.reduceMul, Nat.reduceLeDiff, Nat.reduceLT, Nat.reduceSub]
          simp only [eqT, all2_eqS, e0, e1, e2, e3, Bool.true_or, Bool.or_true, Bool.false_or, Bool.or_false, Bool.true_and, Bool.and_true, Bool.false_and, Bool.and_false, Bool.not_true, Bool.not_false, if_true, if_false, ↓reduceIte, Bool.false_eq_true]
      | false =>
        simp only [amset, amlib, zset, e0, e1, e2, eq_self, ↓reduceIte, reduceCtorEq, Nat.reduceBEq, Nat.reduceEqDiff, Nat.reduceAdd, Nat.reduceMul, Nat.reduceLeDiff, Nat.reduceLT, Nat.reduceSub]
        refine hK2 _ ?_
        clear hK2
        refine aw_ret ?_
        show resOf zG _ [.tmp 4] = some _
        simp only [amset, amlib, zset, eq_self, ↓reduceIte, reduceCtorEq, Nat.reduceBEq, Nat.reduceEqDiff, Nat.reduceAdd, Nat.reduceMul, Nat.reduceLeDiff, Nat.reduceLT, Nat.reduceSub]
        simp only [eqT, all2_eqS, e0, e1, e2, Bool.true_or, Bool.or_true, Bool.false_or, Bool.or_false, Bool.true_and, Bool.and_true, Bool.false_and, Bool.and_false, Bool.not_true, Bool.not_false, if_true, if_false, ↓reduceIte, Bool.false_eq_true]
    | false =>
      simp only [amset, amlib, zset, e0, e1, eq_self, ↓reduceIte, reduceCtorEq, Nat.reduceBEq, Nat.reduceEqDiff, Nat.reduceAdd, Nat.reduceMul, Nat.reduceLeDiff, Nat.reduceLT, Nat.reduceSub]
      refine hK2 _ ?_
      clear hK2
      refine aw_ret ?_
      show resOf zG _ [.tmp 4] = some _
      simp only [amset, amlib, zset, eq_self, ↓reduceIte, reduceCtorEq, Nat.reduceBEq, Nat.reduceEqDiff, Nat.reduceAdd, Nat.reduceMul, Nat.reduceLeDiff, Nat.reduceLT, Nat.reduceSub]
      simp only [eqT, all2_eqS, e0, e1, Bool.true_or, Bool.or_true, Bool.false_or, Bool.or_false, Bool.true_and, Bool.and_true, Bool.false_and, Bool.and_false, Bool.not_true, Bool.not_false, if_true, if_false, ↓reduceIte, Bool.false_eq_true]
  | false =>
    simp only [amset, amlib, zset, e0, eq_self, ↓reduceIte, reduceCtorEq, Nat.reduceBEq, Nat.reduceEqDiff, Nat.reduceAdd, Nat.reduceMul, Nat.reduceLeDiff, Nat.reduceLT, Nat.reduceSub]
    refine hK2 _ ?_
    clear hK2
    refine aw_ret ?_
    show resOf zG _ [.tmp 4] = some _
    simp only [amset, amlib, zset, eq_self, ↓reduceIte, reduceCtorEq, Nat.reduceBEq, Nat.reduceEqDiff, Nat.reduceAdd, Nat.reduceMul, Nat.reduceLeDiff, Nat.reduceLT, Nat.reduceSub]
    simp only [eqT, all2_eqS, e0, Bool.true_or, Bool.or_true, Bool.false_or, Bool.or_false, Bool.true_and, Bool.and_true, Bool.false_and, Bool.and_false, Bool.not_true, Bool.not_false, if_true, if_false, ↓reduceIte, Bool.false_eq_true]
theorem prog38 : Tryz.prog.funcs[38]? = some Tryz.f38 := by kernel_rfl
theorem holds38 (x y : Pg) : Holds Tryz.prog zG 38 [.agg [.sl 3 (encCs x.consts), .sl 4 (encGs x.globals), .sl 1 (encStrs x.sensors), .sl 1 (encStrs x.outputs), .sl 3 (encHs x.channels), .sl 8 (encTs x.tasks)], .agg [.sl 3 (encCs y.consts), .sl 4 (encGs y.globals), .sl 1 (encStrs y.sensors), .sl 1 (encStrs y.outputs), .sl 3 (encHs y.channels), .sl 8 (encTs y.tasks)]] [.c (.bool (eqP x y))] := by
  refine holds_of_body zT prog38 rfl rfl rfl (by simp [Tryz.f38]) ?_
  refine aw_ops zT fun K1 hK1 => ?_
  simp only [amset, amlib, zset, eq_self, ↓reduceIte, reduceCtorEq, Nat.reduceBEq, Nat.reduceEqDiff, Nat.reduceAdd, Nat.reduceMul, Nat.reduceLeDiff, Nat.reduceLT, Nat.reduceSub]
  refine hK1 _ ?_
  clear hK1
  refine aw_ops zT fun K2 hK2 => ?_
  cases e0 : (all2 eqC x.consts y.consts) with
  | true =>
    cases e1 : (all2 eqG x.globals y.globals) with
    | true =>
      cases e2 : (all2 eqStr x.sensors y.sensors) with
      | true =>
        cases e3 : (all2 eqStr x.outputs y.outputs) with
        | true =>
          cases e4 : (all2 eqH x.channels y.channels) with
          | true =>
            simp only [amset, amlib, zset, e0, e1, e2, e3, e4, eq_self, ↓reduceIte, reduceCtorEq, Nat.reduceBEq, Nat.reduceEqDiff, Nat.reduceAdd, Nat.reduceMul, Nat.reduceLeDiff, Nat.reduceLT, Nat.reduceSub]
            refine ⟨_, holds105 106 eqC x.consts y.consts fun z _ w => holds106 z w, ?_⟩
            simp only [later]
            simp only [amset, amlib, zset, e0, e1, e2, e3, e4, eq_self, ↓reduceIte, reduceCtorEq, Nat.reduceBEq, Nat.reduceEqDiff, Nat.reduceAdd, Nat.reduceMul, Nat.reduceLeDiff, Nat.reduceLT, Nat.reduceSub]
            refine ⟨_, holds107 108 eqG x.globals y.globals fun z _ w => holds108 z w, ?_⟩
            simp only [later]
            simp only [amset, amlib, zset, e0, e1, e2, e3, e4, eq_self, ↓reduceIte, reduceCtorEq, Nat.reduceBEq, Nat.reduceEqDiff, Nat.reduceAdd, Nat.reduceMul, Nat.reduceLeDiff, Nat.reduceLT, Nat.reduceSub]
            refine ⟨_, holds109 x.sensors y.sensors, ?_⟩
            simp only [later]
            simp only [amset, amlib, zset, e0, e1, e2, e3, e4, eq_self, ↓reduceIte, reduceCtorEq, Nat.reduceBEq, Nat.reduceEqDiff, Nat.reduceAdd, Nat.reduceMul, Nat.reduceLeDiff, Nat.reduceLT, Nat.reduceSub]
            refine ⟨_, holds109 x.outputs y.outputs, ?_⟩
            simp only [later]
            simp only [amset, amlib, zset, e0, e1, e2, e3, e4, eq_self, ↓reduceIte, reduceCtorEq, Nat.reduceBEq, Nat.reduceEqDiff, Nat.reduceAdd, Nat.reduceMul, Nat.reduceLeDiff, Nat.reduceLT, Nat.reduceSub]
            refine ⟨_, holds110 111 eqH x.channels y.channels fun z _ w => holds111 z w, ?_⟩
            simp only [later]
            simp only [amset, amlib, zset, e0, e1, e2, e3, e4, eq_self, ↓reduceIte, reduceCtorEq, Nat.reduceBEq, Nat.reduceEqDiff, Nat.reduceAdd, Nat.reduceMul, Nat.reduceLeDiff, Nat.reduceLT, Nat.reduceSub]
            refine ⟨_, holds112 113 eqT x.tasks y.tasks fun z _ w => holds113 z w, ?_⟩
            simp only [later]
            simp only [amset, amlib, zset, e0, e1, e2, e3, e4, eq_self, ↓reduceIte, reduceCtorEq, Nat.reduceBEq, Nat.reduceEqDiff, Nat.reduceAdd, Nat.reduceMul, Nat.reduceLeDiff, Nat.reduceLT, Nat.reduceSub]
            refine hK2 _ ?_
            clear hK2
            refine aw_ret ?_
            show resOf zG _ [.tmp 4] = some _
            simp only [amset, amlib, zset, eq_self, ↓reduceIte, reduceCtorEq, Nat.reduceBEq, Nat.reduceEqDiff, Nat.reduceAdd, Nat.reduceMul, Nat.reduceLeDiff, Nat.reduceLT, Nat.reduceSub]
            simp only [eqP, e0, e1, e2, e3, e4, Bool.true_or, Bool.or_true, Bool.false_or, Bool.or_false, Bool.true_and, Bool.and_true, Bool.false_and, Bool.and_false, Bool.not_true, Bool.not_false, if_true, if_false, ↓reduceIte, Bool.false_eq_true]
          | false =>
            simp only [amset, amlib, zset, e0, e1, e2, e3, e4, eq_self, ↓reduceIte, reduceCtorEq, Nat.reduceBEq, Nat.reduceEqDiff, Nat.reduceAdd, Nat.reduceMul, Nat.reduceLeDiff, Nat.reduceLT, Nat.reduceSub]
            refine ⟨_, holds105 106 eqC x.consts y.consts fun z _ w => holds106 z w, ?_⟩
            simp only [later]
            simp only [amset, amlib, zset, e0, e1, e2, e3, e4, eq_self, ↓reduceIte, reduceCtorEq, Nat.reduceBEq, Nat.reduceEqDiff, Nat.reduceAdd, Nat.reduceMul, Nat.reduceLeDiff, Nat.reduceLT, Nat.reduceSub]
            refine ⟨_, holds107 108 eqG x.globals y.globals fun z _ w => holds108 z w, ?_⟩
            simp only [later]
            simp only [amset, amlib, zset, e0, e1, e2, e3, e4, eq_self, ↓reduceIte, reduceCtorEq, Nat.reduceBEq, Nat.reduceEqDiff, Nat.reduceAdd, Nat.reduceMul, Nat.reduceLeDiff, Nat.reduceLT, Nat.reduceSub]
            refine ⟨_, holds109 x.sensors y.sensors, ?_⟩
            simp only [later]
            simp only [amset, amlib, zset, e0, e1, e2, e3, e4, eq_self, ↓reduceIte, reduceCtorEq, Nat.reduceBEq, Nat.reduceEqDiff, Nat.reduceAdd, Nat.reduceMul, Nat.reduceLeDiff, Nat.reduceLT, Nat.reduceSub]
            refine ⟨_, holds109 x.outputs y.outputs, ?_⟩
            simp only [later]
            simp only [amset, amlib, zset, e0, e1, e2, e3, e4, eq_self, ↓reduceIte, reduceCtorEq, Nat.reduceBEq, Nat.reduceEqDiff, Nat.reduceAdd, Nat.reduceMul, Nat.reduceLeDiff, Nat.reduceLT, Nat.reduceSub]
            refine ⟨_, holds110 111 eqH x.channels y.channels fun z _ w => holds111 z w, ?_⟩
            simp only [later]
            simp only [amset, amlib, zset, e0, e1, e2, e3, e4, eq_self, ↓reduceIte, reduceCtorEq, Nat.reduceBEq, Nat.reduceEqDiff, Nat.reduceAdd, Nat.reduceMul, Nat.reduceLeDiff, Nat.reduceLT, Nat.reduceSub]
            refine hK2 _ ?_
            clear hK2
            refine aw_ret ?_
            show resOf zG _ [.tmp 4] = some _
            simp only [amset, amlib, zset, eq_self, ↓reduceIte, reduceCtorEq, Nat.reduceBEq, Nat.reduceEqDiff, Nat.reduceAdd, Nat.reduceMul, Nat.reduceLeDiff, Nat.reduceLT, Nat.reduceSub]
            simp only [eqP, e0, e1, e2, e3, e4, Bool.true_or, Bool.or_true, Bool.false_or, Bool.or_false, Bool.true_and, Bool.and_true, Bool.false_and, Bool.and_false, Bool.not_true, Bool.not_false, if_true, if_false, ↓reduceIte, Bool.false_eq_true]
        | false =>
          simp only [amset, amlib, zset, e0, e1, e2, e3, eq_self, ↓reduceIte, reduceCtorEq, Nat.reduceBEq, Nat.reduceEqDiff, Nat.reduceAdd, Nat.reduceMul, Nat.reduceLeDiff, Nat.reduceLT, Nat.reduceSub]
          refine ⟨_, holds105 106 eqC x.consts y.consts fun z _ w => holds106 z w, ?_⟩
          simp only [later]
          simp only [amset, amlib, zset, e0, e1, e2, e3, eq_self, ↓reduceIte, reduceCtorEq, Nat.reduceBEq, Nat.reduceEqDiff, Nat.reduceAdd, Nat.reduceMul, Nat.reduceLeDiff, Nat.reduceLT, Nat.reduceSub]
          refine ⟨_, holds107 108 eqG x.globals y.globals fun z _ w => holds108 z w, ?_⟩
          simp only [later]
          simp only [amset, amlib, zset, e0, e1, e2, e3, eq_self, ↓reduceIte, reduceCtorEq, Nat.reduceBEq, Nat.reduceEqDiff, Nat.reduceAdd, Nat.reduceMul, Nat.reduceLeDiff, Nat.reduceLT, Nat.reduceSub]
          refine ⟨_, holds109 x.sensors y.sensors, ?_⟩
          simp only [later]
          simp only [amset, amlib, zset, e0, e1, e2, e3, eq_self, ↓reduceIte, reduceCtorEq, Nat.reduceBEq, Nat.reduceEqDiff, Nat.reduceAdd, Nat.reduceMul, Nat.reduceLeDiff, Nat.reduceLT, Nat.reduceSub]
          refine ⟨_, holds109 x.outputs y.outputs, ?_⟩
          simp only [later]
          simp only [amset, amlib, zset, e0, e1, e2, e3, eq_self, ↓reduceIte, reduceCtorEq, Nat.reduceBEq, Nat.reduceEqDiff, Nat.reduceAdd, Nat.reduceMul, Nat.reduceLeDiff, Nat.reduceLT, Nat.reduceSub]
          refine hK2 _ ?_
          clear hK2
          refine aw_ret ?_
          show resOf zG _ [.tmp 4] = some _
          simp only [amset, amlib, zset, eq_self, ↓reduceIte, reduceCtorEq, Nat.reduceBEq, Nat.reduceEqDiff, Nat.reduceAdd, Nat.reduceMul, Nat.reduceLeDiff, Nat.reduceLT, Nat.reduceSub]
          simp only [eqP, e0, e1, e2, e3, Bool.true_or, Bool.or_true, Bool.false_or, Bool.or_false, Bool.true_and, Bool.and_true, Bool.false_and, Bool.and_false, Bool.not_true, Bool.not_false, if_true, if_false, ↓reduceIte, Bool.false_eq_true]
      | false =>
        simp only [amset, amlib, zset, e0, e1, e2, eq_self, ↓reduceIte, reduceCtorEq, Nat.reduceBEq, Nat.reduceEqDiff, Nat.reduceAdd, Nat.reduceMul, Nat.reduceLeDiff, Nat.reduceLT, Nat.reduceSub]
        refine ⟨_, holds105 106 eqC x.consts y.consts fun z _ w => holds106 z w, ?_⟩
        simp only [later]
        simp only [amset, amlib, zset, e0, e1, e2, eq_self, ↓reduceIte, reduceCtorEq, Nat.reduceBEq, Nat.reduceEqDiff, Nat.reduceAdd, Nat.reduceMul, Nat.reduceLeDiff, Nat.reduceLT, Nat.reduceSub]
        refine ⟨_, holds107 108 eqG x.globals y.globals fun z _ w => holds108 z w, ?_⟩
        simp only [later]
        simp only [amset, amlib, zset, e0, e1, e2, eq_self, ↓reduceIte, reduceCtorEq, Nat.reduceBEq, Nat.reduceEqDiff, Nat.reduceAdd, Nat.reduceMul, Nat.reduceLeDiff, Nat.reduceLT, Nat.reduceSub]
        refine ⟨_, holds109 x.sensors y.sensors, ?_⟩
        simp only [later]
        simp only [amset, amlib, zset, e0, e1, e2, eq_self, ↓reduceIte, reduceCtorEq, Nat.reduceBEq, Nat.reduceEqDiff, Nat.reduceAdd, Nat.reduceMul, Nat.reduceLeDiff, Nat.reduceLT, Nat.reduceSub]
        refine hK2 _ ?_
        clear hK2
        refine aw_ret ?_
        show resOf zG _ [.tmp 4] = some _
        simp only [amset, amlib, zset, eq_self, ↓reduceIte, reduceCtorEq, Nat.reduceBEq, Nat.reduceEqDiff, Nat.reduceAdd, Nat.reduceMul, Nat.reduceLeDiff, Nat.reduceLT, Nat.reduceSub]
        simp only [eqP, e0, e1, e2, Bool.true_or, Bool.or_true, Bool.false_or, Bool.or_false, Bool.true_and, Bool.and_true, Bool.false_and, Bool.and_false, Bool.not_true, Bool.not_false, if_true, if_false, ↓reduceIte, Bool.false_eq_true]
    | false =>
      simp only [amset, amlib, zset, e0, e1, eq_self, ↓reduceIte, reduceCtorEq, Nat.reduceBEq, Nat.reduceEqDiff, Nat.reduceAdd, Nat.reduceMul, Nat.reduceLeDiff, Nat.reduceLT, Nat.reduceSub]
      refine ⟨_, holds105 106 eqC x.consts y.consts fun z _ w => holds106 z w, ?_⟩
      simp only [later]
      simp only [amset, amlib, zset, e0, e1, eq_self, ↓reduceIte, reduceCtorEq, Nat.reduceBEq, Nat.reduceEqDiff, Nat.reduceAdd, Nat.reduceMul, Nat.reduceLeDiff, Nat.reduceLT, Nat.reduceSub]
      refine ⟨_, holds107 108 eqG x.globals y.globals fun z _ w => holds108 z w, ?_⟩
      simp only [later]
      simp only [amset, amlib, zset, e0, e1, eq_self, ↓reduceIte, reduceCtorEq, Nat.reduceBEq, Nat.reduceEqDiff, Nat.reduceAdd, Nat.reduceMul, Nat.reduceLeDiff, Nat.reduceLT, Nat.reduceSub]
      refine hK2 _ ?_
      clear hK2
      refine aw_ret ?_
      show resOf zG _ [.tmp 4] = some _
      simp only [amset, amlib, zset, eq_self, ↓reduceIte, reduceCtorEq, Nat.reduceBEq, Nat.reduceEqDiff, Nat.reduceAdd, Nat.reduceMul, Nat.reduceLeDiff, Nat.reduceLT, Nat.reduceSub]
      simp only [eqP, e0, e1, Bool.true_or, Bool.or_true, Bool.false_or, Bool.or_false, Bool.true_and, Bool.and_true, Bool.false_and, Bool.and_false, Bool.not_true, Bool.not_false, if_true, if_false, ↓reduceIte, Bool.false_eq_true]
  | false =>
    simp only [amset, amlib, zset, e0, eq_self, ↓reduceIte, reduceCtorEq, Nat.reduceBEq, Nat.reduceEqDiff, Nat.reduceAdd, Nat.reduceMul, Nat.reduceLeDiff, Nat.reduceLT, Nat.reduceSub]
    refine ⟨_, holds105 106 eqC x.consts y.consts fun z _ w => holds106 z w, ?_⟩
    simp only [later]
    simp only [amset, amlib, zset, e0, eq_self, ↓reduceIte, reduceCtorEq, Nat.reduceBEq, Nat.reduceEqDiff, Nat.reduceAdd, Nat.reduceMul, Nat.reduceLeDiff, Nat.reduceLT, Nat.reduceSub]
    refine hK2 _ ?_
    clear hK2
    refine aw_ret ?_
    show resOf zG _ [.tmp 4] = some _
    simp only [amset, amlib, zset, eq_self, ↓reduceIte, reduceCtorEq, Nat.reduceBEq, Nat.reduceEqDiff, Nat.reduceAdd, Nat.reduceMul, Nat.reduceLeDiff, Nat.reduceLT, Nat.reduceSub]
    simp only [eqP, e0, Bool.true_or, Bool.or_true, Bool.false_or, Bool.or_false, Bool.true_and, Bool.and_true, Bool.false_and, Bool.and_false, Bool.not_true, Bool.not_false, if_true, if_false, ↓reduceIte, Bool.false_eq_true]
end Go.Proofs.Am
set_option maxRecDepth 100000
set_option maxHeartbeats 4000000
namespace Go.Proofs.Am
def xW : Ex := binE' 5 (binE' 3 (nameE [97]) (nameE [98])) (unE' 1 (binE' 4 (nameE [99]) (numE 1)))
def pW : Pg := ⟨[], [], [], [], [], [⟨[116], 5, 0, [], [], 0, [.mk 8 [] 0 [nameE [97]] [] [] 0], 0⟩]⟩
theorem awE : ((if wfA xW = true then txA xW else []) == [40, 97, 32, 43, 32, 98, 41, 32, 42, 32, 45, 40, 99, 32, 45, 32, 49, 41]) = true := by kernel_rfl
theorem awF : (fmtA pW == [116, 97, 115, 107, 32, 116, 32, 101, 118, 101, 114, 121, 32, 53, 32, 123, 10, 32, 32, 32, 32, 101, 109, 105, 116, 32, 97, 59, 10, 125, 10]) = true := by kernel_rfl
theorem awW : wfP pW = true := by kernel_rfl
theorem awS : (((szT pW.tasks : Nat) : Int) == 2) = true := by kernel_rfl
theorem awD : (((depT pW.tasks : Nat) : Int) == 2) = true := by kernel_rfl
theorem awQ : eqP pW pW = true := by kernel_rfl
theorem awN : (fmtA pW).length ≤ 1000000000000 := by
  have h : Nat.ble (fmtA pW).length 1000000000000 = true := by kernel_rfl
  exact Nat.le_of_ble_eq_true h
theorem wdW : wdL xW.args := by simp [xW, binE', unE', nameE, numE, wdE, wdL, i16r, Ex.args]
theorem szW : (subE xW).length ≤ 1000000000000 := by simp [xW, binE', unE', nameE, numE, subE, subL]
theorem sizedW : ∀ t ∈ pW.tasks, sized t.body := by
  intro t ht
  simp only [pW, List.mem_cons, List.not_mem_nil, or_false] at ht
  subst ht
  intro z hz
  simp only [stmL, stmS_eq, St.body, St.els, List.append_nil, List.mem_cons, List.not_mem_nil, or_false, List.nil_append] at hz
  subst hz
  simp [St.args, wdL, wdE, nameE, i16r, subL, subE]
theorem prog81 : Tryz.prog.funcs[81]? = some Tryz.f81 := by kernel_rfl
theorem holds81 (op : Int) (a b : Ex) : Holds Tryz.prog zG 81 [.c (.int .i64 op), .agg [.int .i64 a.kind, .str a.name, .int .i16 a.value, .int .i64 a.op, .sl 6 (encEs a.args), .int .i64 a.pos], .agg [.int .i64 b.kind, .str b.name, .int .i16 b.value, .int .i64 b.op, .sl 6 (encEs b.args), .int .i64 b.pos]] [.agg [.int .i64 (binE' op a b).kind, .str (binE' op a b).name, .int .i16 (binE' op a b).value, .int .i64 (binE' op a b).op, .sl 6 (encEs (binE' op a b).args), .int .i64 (binE' op a b).pos]] := by
  refine holds_of_body zT prog81 rfl rfl rfl (by simp [Tryz.f81]) ?_
  refine aw_ops zT fun K1 hK1 => ?_
  simp only [amset, amlib, zset, eq_self, ↓reduceIte, reduceCtorEq, Nat.reduceBEq, Nat.reduceEqDiff, Nat.reduceAdd, Nat.reduceMul, Nat.reduceLeDiff, Nat.reduceLT, Nat.reduceSub]
  refine hK1 _ ?_
  clear hK1
  refine aw_ops zT fun K2 hK2 => ?_
  simp only [amset, amlib, zset, eq_self, ↓reduceIte, reduceCtorEq, Nat.reduceBEq, Nat.reduceEqDiff, Nat.reduceAdd, Nat.reduceMul, Nat.reduceLeDiff, Nat.reduceLT, Nat.reduceSub]
  refine hK2 _ ?_
  clear hK2
  refine aw_ret ?_
  show resOf zG _ [.cell 6 32] = some _
  simp only [amset, amlib, zset, eq_self, ↓reduceIte, reduceCtorEq, Nat.reduceBEq, Nat.reduceEqDiff, Nat.reduceAdd, Nat.reduceMul, Nat.reduceLeDiff, Nat.reduceLT, Nat.reduceSub]
  simp only [numE, binE', unE', nameE, Ex.kind, Ex.name, Ex.value, Ex.op, Ex.args, Ex.pos, encEs, encE_eq]
theorem prog82 : Tryz.prog.funcs[82]? = some Tryz.f82 := by kernel_rfl
theorem holds82 (s : List UInt8) : Holds Tryz.prog zG 82 [.c (.str s)] [.agg [.int .i64 (nameE s).kind, .str (nameE s).name, .int .i16 (nameE s).value, .int .i64 (nameE s).op, .sl 6 (encEs (nameE s).args), .int .i64 (nameE s).pos]] := by
  refine holds_of_body zT prog82 rfl rfl rfl (by simp [Tryz.f82]) ?_
  refine aw_ops zT fun K1 hK1 => ?_
  simp only [amset, amlib, zset, eq_self, ↓reduceIte, reduceCtorEq, Nat.reduceBEq, Nat.reduceEqDiff, Nat.reduceAdd, Nat.reduceMul, Nat.reduceLeDiff, Nat.reduceLT, Nat.reduceSub]
  refine hK1 _ ?_
  clear hK1
  refine aw_ops zT fun K2 hK2 => ?_
  simp only [amset, amlib, zset, eq_self, ↓reduceIte, reduceCtorEq, Nat.reduceBEq, Nat.reduceEqDiff, Nat.reduceAdd, Nat.reduceMul, Nat.reduceLeDiff, Nat.reduceLT, Nat.reduceSub]
  refine hK2 _ ?_
  clear hK2
  refine aw_ret ?_
  show resOf zG _ [.cell 2 32] = some _
  simp only [amset, amlib, zset, eq_self, ↓reduceIte, reduceCtorEq, Nat.reduceBEq, Nat.reduceEqDiff, Nat.reduceAdd, Nat.reduceMul, Nat.reduceLeDiff, Nat.reduceLT, Nat.reduceSub]
  simp only [numE, binE', unE', nameE, Ex.kind, Ex.name, Ex.value, Ex.op, Ex.args, Ex.pos, encEs, encE_eq]
theorem prog31 : Tryz.prog.funcs[31]? = some Tryz.f31 := by kernel_rfl
theorem holds31  : Holds Tryz.prog zG 31 [] [.c (.bool true)] := by
  refine holds_of_body zT prog31 rfl rfl rfl (by simp [Tryz.f31]) ?_
  refine aw_ops zT fun K1 hK1 => ?_
  simp only [amset, amlib, zset, eq_self, ↓reduceIte, reduceCtorEq, Nat.reduceBEq, Nat.reduceEqDiff, Nat.reduceAdd, Nat.reduceMul, Nat.reduceLeDiff, Nat.reduceLT, Nat.reduceSub]
  refine hK1 _ ?_
  clear hK1
  refine aw_ops zT fun K2 hK2 => ?_
  simp only [amset, amlib, zset, eq_self, ↓reduceIte, reduceCtorEq, Nat.reduceBEq, Nat.reduceEqDiff, Nat.reduceAdd, Nat.reduceMul, Nat.reduceLeDiff, Nat.reduceLT, Nat.reduceSub]
  refine ⟨_, holds82 [97], ?_⟩
  simp only [later]
  simp only [amset, amlib, zset, eq_self, ↓reduceIte, reduceCtorEq, Nat.reduceBEq, Nat.reduceEqDiff, Nat.reduceAdd, Nat.reduceMul, Nat.reduceLeDiff, Nat.reduceLT, Nat.reduceSub]
  refine ⟨_, holds82 [98], ?_⟩
  simp only [later]
  simp only [amset, amlib, zset, eq_self, ↓reduceIte, reduceCtorEq, Nat.reduceBEq, Nat.reduceEqDiff, Nat.reduceAdd, Nat.reduceMul, Nat.reduceLeDiff, Nat.reduceLT, Nat.reduceSub]
  refine ⟨_, holds81 3 (nameE [97]) (nameE [98]), ?_⟩
  simp only [later]
  simp only [amset, amlib, zset, eq_self, ↓reduceIte, reduceCtorEq, Nat.reduceBEq, Nat.reduceEqDiff, Nat.reduceAdd, Nat.reduceMul, Nat.reduceLeDiff, Nat.reduceLT, Nat.reduceSub]
  refine ⟨_, holds82 [99], ?_⟩
  simp only [later]
  simp only [amset, amlib, zset, eq_self, ↓reduceIte, reduceCtorEq, Nat.reduceBEq, Nat.reduceEqDiff, Nat.reduceAdd, Nat.reduceMul, Nat.reduceLeDiff, Nat.reduceLT, Nat.reduceSub]
  refine ⟨_, holds81 4 (nameE [99]) (numE 1), ?_⟩
  simp only [later]
  simp only [amset, amlib, zset, eq_self, ↓reduceIte, reduceCtorEq, Nat.reduceBEq, Nat.reduceEqDiff, Nat.reduceAdd, Nat.reduceMul, Nat.reduceLeDiff, Nat.reduceLT, Nat.reduceSub]
  refine ⟨_, holds81 5 (binE' 3 (nameE [97]) (nameE [98])) (unE' 1 (binE' 4 (nameE [99]) (numE 1))), ?_⟩
  simp only [later]
  simp only [amset, amlib, zset, eq_self, ↓reduceIte, reduceCtorEq, Nat.reduceBEq, Nat.reduceEqDiff, Nat.reduceAdd, Nat.reduceMul, Nat.reduceLeDiff, Nat.reduceLT, Nat.reduceSub]
  refine hK2 _ ?_
  clear hK2
  refine aw_ops zT fun K3 hK3 => ?_
  simp only [amset, amlib, zset, eq_self, ↓reduceIte, reduceCtorEq, Nat.reduceBEq, Nat.reduceEqDiff, Nat.reduceAdd, Nat.reduceMul, Nat.reduceLeDiff, Nat.reduceLT, Nat.reduceSub]
  refine ⟨_, holds82 [97], ?_⟩
  simp only [later]
  simp only [amset, amlib, zset, eq_self, ↓reduceIte, reduceCtorEq, Nat.reduceBEq, Nat.reduceEqDiff, Nat.reduceAdd, Nat.reduceMul, Nat.reduceLeDiff, Nat.reduceLT, Nat.reduceSub]
  refine hK3 _ ?_
  clear hK3
  refine aw_freeze 17 ?_
  refine aw_norm (by simp only [amset, amlib, zset, eq_self, ↓reduceIte, reduceCtorEq, Nat.reduceBEq, Nat.reduceEqDiff, Nat.reduceAdd, Nat.reduceMul, Nat.reduceLeDiff, Nat.reduceLT, Nat.reduceSub]; exact rfl) ?_
  refine aw_ops zT fun K4 hK4 => ?_
  simp only [amset, amlib, zset, awE, awF, awW, awS, awD, awQ, eq_self, ↓reduceIte, reduceCtorEq, Nat.reduceBEq, Nat.reduceEqDiff, Nat.reduceAdd, Nat.reduceMul, Nat.reduceLeDiff, Nat.reduceLT, Nat.reduceSub]
  refine ⟨_, holds34 xW (by simp [xW, binE', Ex.value, i16r]) wdW szW, ?_⟩
  simp only [later]
  simp only [amset, amlib, zset, awE, awF, awW, awS, awD, awQ, eq_self, ↓reduceIte, reduceCtorEq, Nat.reduceBEq, Nat.reduceEqDiff, Nat.reduceAdd, Nat.reduceMul, Nat.reduceLeDiff, Nat.reduceLT, Nat.reduceSub]
  refine ⟨_, holdsFmt pW (holds36 pW rfl rfl) sizedW (by decide) (by simp [pW]) (by simp [pW]) awN, ?_⟩
  simp only [later]
  simp only [amset, amlib, zset, awE, awF, awW, awS, awD, awQ, eq_self, ↓reduceIte, reduceCtorEq, Nat.reduceBEq, Nat.reduceEqDiff, Nat.reduceAdd, Nat.reduceMul, Nat.reduceLeDiff, Nat.reduceLT, Nat.reduceSub]
  refine ⟨_, holds36 pW rfl rfl, ?_⟩
  simp only [later]
  simp only [amset, amlib, zset, awE, awF, awW, awS, awD, awQ, eq_self, ↓reduceIte, reduceCtorEq, Nat.reduceBEq, Nat.reduceEqDiff, Nat.reduceAdd, Nat.reduceMul, Nat.reduceLeDiff, Nat.reduceLT, Nat.reduceSub]
  refine ⟨_, holdsSize pW (by decide), ?_⟩
  simp only [later]
  simp only [amset, amlib, zset, awE, awF, awW, awS, awD, awQ, eq_self, ↓reduceIte, reduceCtorEq, Nat.reduceBEq, Nat.reduceEqDiff, Nat.reduceAdd, Nat.reduceMul, Nat.reduceLeDiff, Nat.reduceLT, Nat.reduceSub]
  refine ⟨_, holds84 pW (by decide), ?_⟩
  simp only [later]
  simp only [amset, amlib, zset, awE, awF, awW, awS, awD, awQ, eq_self, ↓reduceIte, reduceCtorEq, Nat.reduceBEq, Nat.reduceEqDiff, Nat.reduceAdd, Nat.reduceMul, Nat.reduceLeDiff, Nat.reduceLT, Nat.reduceSub]
  refine ⟨_, holds38 pW pW, ?_⟩
  simp only [later]
  simp only [amset, amlib, zset, awE, awF, awW, awS, awD, awQ, eq_self, ↓reduceIte, reduceCtorEq, Nat.reduceBEq, Nat.reduceEqDiff, Nat.reduceAdd, Nat.reduceMul, Nat.reduceLeDiff, Nat.reduceLT, Nat.reduceSub]
  refine hK4 _ ?_
  clear hK4
  refine aw_ret ?_
  show resOf zG _ [.tmp 0] = some _
  simp only [amset, amlib, zset, eq_self, ↓reduceIte, reduceCtorEq, Nat.reduceBEq, Nat.reduceEqDiff, Nat.reduceAdd, Nat.reduceMul, Nat.reduceLeDiff, Nat.reduceLT, Nat.reduceSub]
end Go.Proofs.Am
set_option maxRecDepth 100000
set_option maxHeartbeats 4000000
namespace Go.Proofs.Am
theorem prog7 : Tryz.prog.funcs[7]? = some Tryz.f7 := by kernel_rfl
theorem holds7 (x : Ex) (hv : i16r x.value) (hw : wdL x.args) (hs : (subE x).length ≤ 100000000000) : Holds Tryz.prog zG 7 [.agg [.int .i64 x.kind, .str x.name, .int .i16 x.value, .int .i64 x.op, .sl 6 (encEs x.args), .int .i64 x.pos]] [.c (.bool true)] := by
  refine holds_of_body zT prog7 rfl rfl rfl (by simp [Tryz.f7]) ?_
  refine aw_ops zT fun K1 hK1 => ?_
  simp only [amset, amlib, zset, eq_self, ↓reduceIte, reduceCtorEq, Nat.reduceBEq, Nat.reduceEqDiff, Nat.reduceAdd, Nat.reduceMul, Nat.reduceLeDiff, Nat.reduceLT, Nat.reduceSub]
  refine hK1 _ ?_
  clear hK1
  refine aw_seq fun K2 hK2 => ?_
  refine aw_ops zT fun K3 hK3 => ?_
  simp only [amset, amlib, zset, eq_self, ↓reduceIte, reduceCtorEq, Nat.reduceBEq, Nat.reduceEqDiff, Nat.reduceAdd, Nat.reduceMul, Nat.reduceLeDiff, Nat.reduceLT, Nat.reduceSub]
  refine ⟨_, holds31, ?_⟩
  simp only [later]
  simp only [amset, amlib, zset, eq_self, ↓reduceIte, reduceCtorEq, Nat.reduceBEq, Nat.reduceEqDiff, Nat.reduceAdd, Nat.reduceMul, Nat.reduceLeDiff, Nat.reduceLT, Nat.reduceSub]
  refine hK3 _ ?_
  clear hK3
  refine aw_cond (t := false) rfl (fun h => nomatch h) (fun _ => ?_)
  refine aw_skip ?_
  simp only [thenQ, blkQ, if_true, reduceIte, Nat.reduceEqDiff, eq_self]
  refine hK2 _ ?_
  clear hK2
  refine aw_seq fun K4 hK4 => ?_
  refine aw_ops zT fun K5 hK5 => ?_
  simp only [amset, amlib, zset, eq_self, ↓reduceIte, reduceCtorEq, Nat.reduceBEq, Nat.reduceEqDiff, Nat.reduceAdd, Nat.reduceMul, Nat.reduceLeDiff, Nat.reduceLT, Nat.reduceSub]
  refine ⟨_, holds19 x (by omega), ?_⟩
  simp only [later]
  simp only [amset, amlib, zset, eq_self, ↓reduceIte, reduceCtorEq, Nat.reduceBEq, Nat.reduceEqDiff, Nat.reduceAdd, Nat.reduceMul, Nat.reduceLeDiff, Nat.reduceLT, Nat.reduceSub]
  intros
  refine hK5 _ ?_
  clear hK5
  refine aw_cond rfl (fun h1 => ?_) (fun h1 => ?_)
  · skip
    refine aw_ops zT fun K6 hK6 => ?_
    simp only [amset, amlib, zset, eq_self, ↓reduceIte, reduceCtorEq, Nat.reduceBEq, Nat.reduceEqDiff, Nat.reduceAdd, Nat.reduceMul, Nat.reduceLeDiff, Nat.reduceLT, Nat.reduceSub]
    refine hK6 _ ?_
    clear hK6
    refine aw_ret ?_
    show resOf zG _ [.tmp 2] = some _
    simp only [amset, amlib, zset, eq_self, ↓reduceIte, reduceCtorEq, Nat.reduceBEq, Nat.reduceEqDiff, Nat.reduceAdd, Nat.reduceMul, Nat.reduceLeDiff, Nat.reduceLT, Nat.reduceSub]
  · skip
    refine aw_skip ?_
    simp only [thenQ, blkQ, if_true, reduceIte, Nat.reduceEqDiff, eq_self]
    refine hK4 _ ?_
    clear hK4
    refine aw_draw zT prog_mixed fun K7 hK7 => ?_
    simp only [amset, amlib, zset, beq_self_eq_true, eq_self, ↓reduceIte, reduceCtorEq, Nat.reduceBEq, Nat.reduceEqDiff, Nat.reduceAdd, Nat.reduceMul, Nat.reduceLeDiff, Nat.reduceLT, Nat.reduceSub]
    refine ⟨_, holds34 x hv hw (by omega), ?_⟩
    simp only [later]
    simp only [amset, amlib, zset, beq_self_eq_true, eq_self, ↓reduceIte, reduceCtorEq, Nat.reduceBEq, Nat.reduceEqDiff, Nat.reduceAdd, Nat.reduceMul, Nat.reduceLeDiff, Nat.reduceLT, Nat.reduceSub]
    refine ⟨_, holds35 x hv hw (by omega), ?_⟩
    simp only [later]
    simp only [amset, amlib, zset, beq_self_eq_true, eq_self, ↓reduceIte, reduceCtorEq, Nat.reduceBEq, Nat.reduceEqDiff, Nat.reduceAdd, Nat.reduceMul, Nat.reduceLeDiff, Nat.reduceLT, Nat.reduceSub]
    refine ⟨by kernel_rfl, ?_⟩
    refine hK7 _ ?_
    clear hK7
    refine aw_ret ?_
    show resOf zG _ [.tmp 2] = some _
    simp only [amset, amlib, zset, eq_self, ↓reduceIte, reduceCtorEq, Nat.reduceBEq, Nat.reduceEqDiff, Nat.reduceAdd, Nat.reduceMul, Nat.reduceLeDiff, Nat.reduceLT, Nat.reduceSub]
end Go.Proofs.Am
