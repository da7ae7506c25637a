/- Part 2 of a proof that the law holds of every input of the given bulk. -/
import Derived.Test.YtfflfbhnedkppaaGreatDoorPart01
import Derived.RangeFuncLeaves
import Derived.RangeFuncRecord
import Derived.Test.YtfflfbhnedkppaaGreatDoorPart00
import Derived.KernelRfl
set_option autoImplicit false
set_option linter.unusedSimpArgs false
set_option linter.unusedVariables false
set_option linter.unusedSectionVars false
namespace Go.Proofs.Am
open Go.RowKit
/-! States of objects: side by side, none, a loop's record; the frame of a contract. -/
def sepP (p r : OP) : OP := fun F w fp => ∃ f1 f2, p F w f1 ∧ r F w f2 ∧ (∀ b, f1 b → ¬ f2 b) ∧ ∀ b, fp b ↔ f1 b ∨ f2 b
def empP : OP := fun _ _ fp => ∀ b, ¬ fp b
def recP (l : Nat) (rec : Loop) : OP := fun _ w fp => w.heap[l]? = some (.loop rec) ∧ ∀ b, fp b ↔ b = l
theorem Stab.sep {p r : OP} (hp : Stab p) (hr : Stab r) : Stab (sepP p r) := by
  rintro F F' w w' fp ⟨f1, f2, h1, h2, h3, h4⟩ hk hs
  exact ⟨f1, f2, hp F F' w w' f1 h1 hk (fun b hb => hs b ((h4 b).2 (.inl hb))), hr F F' w w' f2 h2 hk (fun b hb => hs b ((h4 b).2 (.inr hb))), h3, h4⟩
theorem Stab.emp : Stab empP := fun F F' w w' fp h hk hs => h
theorem Stab.rec {l : Nat} {rec : Loop} : Stab (recP l rec) := fun F F' w w' fp h hk hs => ⟨(hs l ((h.2 l).2 rfl)).trans h.1, h.2⟩
section
variable {P : Program} {G : Ctx} {ok : Fr} {w0 : World} {N : Nat} {β : Nat → Option Nat} {Ω : Nat → Nat → Option Value} {s : S} {a : Act} {w w' : World} {Q : X → S → Prop}
theorem ObjPost.frame {okp : Nat → Prop} {f1 f2 fp : Nat → Prop} {res : Option (List A)} {p' r : OP} (hr : Stab r) (hst : Stab p') (h2 : r okp w f2) (hd : ∀ b, f1 b → ¬ f2 b) (hfp : ∀ b, fp b ↔ f1 b ∨ f2 b) (hlt : ∀ b, fp b → b < w.heap.size) (hnok : ∀ b, fp b → ¬ okp b) {e : Ending}
    (h : ObjPost G okp w f1 res p' e w') : ObjPost G okp w fp res (sepP p' r) e w' := by
  obtain ⟨u, f1', rfl, hres, hp', hf1, hb⟩ := h
  have hsame : ∀ b, f2 b → w'.heap[b]? = w.heap[b]? := fun b hb2 => hb.block b (hlt b ((hfp b).2 (.inr hb2))) (fun h1 => hd b h1 hb2)
  have hdis : ∀ b, f1' b → ¬ f2 b := fun b h1 h3 => by
    rcases (hf1 b h1).2 with h4 | h4
    · exact hd b h4 h3
    · have := hlt b ((hfp b).2 (.inr h3)); omega
  refine ⟨u, fun b => f1' b ∨ f2 b, rfl, hres, ⟨f1', f2, ?_, ?_, hdis, fun b => Iff.rfl⟩, fun b hb2 => ?_, ⟨hb.os, hb.tape, hb.output, hb.size, fun k hk hx => hb.block k hk (fun h1 => hx ((hfp k).2 (.inl h1)))⟩⟩
  · refine hst _ _ w' w' f1' hp' (Keeps.growW w' fun b hb2 => ?_) (fun _ _ => rfl)
    rcases hb2 with hb2 | ⟨h3, h4⟩
    · exact .inl hb2
    · refine .inr ⟨h3.imp id (fun h3 => (hfp b).2 (.inl h3)), fun h5 => ?_⟩
      rcases h5 with h5 | h5
      · exact h4 h5
      · rcases h3 with h3 | h3
        · have := hlt b ((hfp b).2 (.inr h5)); omega
        · exact hd b h3 h5
  · exact hr _ _ w w' f2 h2 (Keeps.W ⟨fun b hb2 hl => hb.block b hl (fun h1 => hnok b ((hfp b).2 (.inl h1)) hb2), fun b hb2 hl => .inl ⟨hl, .inl hb2⟩⟩) hsame
  · rcases hb2 with hb2 | hb2
    · exact ⟨(hf1 b hb2).1, (hf1 b hb2).2.imp (fun h => (hfp b).2 (.inl h)) id⟩
    · refine ⟨?_, .inl ((hfp b).2 (.inr hb2))⟩
      have h1 := hsame b hb2
      rw [Array.getElem?_eq_getElem (hlt b ((hfp b).2 (.inr hb2)))] at h1
      exact (Array.getElem?_eq_some_iff.1 h1).1
/-- A contract, beside an object that it knows nothing of. -/
theorem CallsO.frame {f : FuncId} {extra : List Value} {args : List A} {p : OP} {res : Option (List A)} {p' : OP} (h : CallsO P G f extra args p res p') {r : OP} (hr : Stab r) : CallsO P G f extra args (sepP p r) res (sepP p' r) := by
  refine ⟨h.1.sep hr, fun okp w vs fp hng hglob hA hp hfp => ?_⟩
  obtain ⟨f1, f2, h1, h2, h3, h4⟩ := hp
  exact Calls.mono (h.2 okp w vs f1 hng hglob hA h1 (fun b hb => hfp b ((h4 b).2 (.inl hb)))) fun e w' he => he.frame hr h.1 h2 h3 h4 (fun b hb => (hfp b hb).1) (fun b hb => (hfp b hb).2.2)
theorem HoldsO.frame {f : FuncId} {args : List A} {p : OP} {res : Option (List A)} {p' : OP} (h : HoldsO P G f args p res p') {r : OP} (hr : Stab r) : HoldsO P G f args (sepP p r) res (sepP p' r) := ⟨h.1, h.2.frame hr⟩
theorem CallV.mono {v : Value} {vs : List Value} {R R' : Ending → World → Prop} (h : CallV P v vs w R) (hr : ∀ e w', R e w' → R' e w') : CallV P v vs w R' := by
  rcases h with ⟨f, extra, h1, h2, h3⟩ | ⟨l, fn, tmps, assign, body, h1, h2, h3⟩
  · exact .inl ⟨f, extra, h1, h2, Calls.mono h3 hr⟩
  · exact .inr ⟨l, fn, tmps, assign, body, h1, h2, RoundIn.mono h3 hr⟩
theorem HoldsV.frame {v : Value} {args : List A} {p : OP} {res : Option (List A)} {p' : OP} (h : HoldsV P G v args p res p') {r : OP} (hr : Stab r) : HoldsV P G v args (sepP p r) res (sepP p' r) := by
  refine ⟨h.1.sep hr, fun okp w vs fp hng hglob hA hp hfp => ?_⟩
  obtain ⟨f1, f2, h1, h2, h3, h4⟩ := hp
  exact (h.2 okp w vs f1 hng hglob hA h1 (fun b hb => hfp b ((h4 b).2 (.inl hb)))).mono fun e w' he => he.frame hr h.1 h2 h3 h4 (fun b hb => (hfp b hb).1) (fun b hb => (hfp b hb).2.2)
theorem RepCell.base {w : World} {F : Nat → Prop} {B B' : Nat} {x : Cell} {v : Value} (h : RepCell w F B Ω x v) : RepCell w F B' Ω x v := by cases x <;> exact h
theorem RepCellL.base {w : World} {F : Nat → Prop} {B B' : Nat} {l : List Cell} {vs : List Value} (h : RepCellL w F B Ω l vs) : RepCellL w F B' Ω l vs := by
  induction h with
  | nil => exact .nil
  | cons h _ ih => exact .cons (RepCell.base (B := B) h) ih
theorem RepV.base {w : World} {F : Nat → Prop} {B B' : Nat} {x : V} {v : Value} (h : RepV w F B β Ω x v) : RepV w F B' β Ω x v := by
  cases x with
  | cell x => exact RepCell.base (B := B) (B' := B') h
  | agg cs => obtain ⟨vs, h1, h2⟩ := h; exact ⟨vs, h1, h2.base⟩
  | _ => exact h
/-- The same frame, told against another world at its entry. -/
theorem Rel.shift (h : Rel G ok w0 N β Ω s a w) {ok' : Fr} {w0' w' : World} {a' : Act} (ht : a'.tmps = a.tmps) (hd : DefersOk G w' (defF w0'.heap.size (okF G ok' w0'.heap.size β Ω)) a'.defers)
    (hk : KeepsW w w' (okF G ok w0.heap.size β Ω) (okF G ok' w0'.heap.size β Ω)) (hs : ∀ b, Mut β Ω b → w'.heap[b]? = w.heap[b]?) (hbel : BelowX ok'.X w0'.heap.size w0' w')
    (hx : ∀ b, ok'.X b → G.nglob ≤ b ∧ ¬ ok'.ok b) (hg : GlobOk G w0') (hlow : ∀ b, Mut β Ω b → w0'.heap.size ≤ b ∨ ok'.X b) : Rel G ok' w0' N β Ω s a' w' := by
  have hlt : ∀ b, Mut β Ω b → b < w'.heap.size := fun b hb => by
    have h1 := hs b hb
    rw [Array.getElem?_eq_getElem (h.lt hb).2] at h1
    exact (Array.getElem?_eq_some_iff.1 h1).1
  have hown : OwnKeeps w w' Ω Ω (fun _ _ => True) := ⟨fun _ _ _ _ h => h, fun k j v b _ h1 h2 _ => hs b (.inr ⟨k, j, v, h1, h2⟩)⟩
  refine ⟨hbel, hx, hg, hd, ?_, fun t v hv => ?_, fun k cs hc => ?_, h.bInj, h.oInj, h.bo, fun k b hb => ⟨hlow b (.inl ⟨k, hb⟩), hlt b (.inl ⟨k, hb⟩)⟩, fun k j v b h1 h2 => ⟨hlow b (.inr ⟨k, j, v, h1, h2⟩), hlt b (.inr ⟨k, j, v, h1, h2⟩)⟩⟩
  · rw [ht]; exact h.size
  · rw [ht]
    exact RepV.keeps (L := fun _ _ => True) (T := fun _ => True) hk hown (fun _ _ _ h => h) (V.live_true v) (h.env t v hv).base
  · rcases h.box k cs hc with ⟨b, vs, ty, h1, h2, h3⟩ | ⟨h1, h2, h3⟩
    · exact .inl ⟨b, vs, ty, h1, (hs b (.inl ⟨k, h1⟩)).trans h2, RepCellL.keeps hk hown (fun x _ => Cell.live_true x) h3.base⟩
    · exact .inr ⟨h1, h2, h3.keeps hk hown (fun x _ => Cell.live_true x)⟩
/-- A box's place is named. -/
theorem aw_ghost {c : Code} {env : List (Nat × V)} {box : List (Nat × List Cell)} (g k : Nat) {cs : List Cell} (hk : amLook k box = some cs) (hn : k ≠ 1000000) (hg : N ≤ g) (h : ∀ b, AW P G N c ⟨(g, .at k b) :: env, box⟩ Q) : AW P G N c ⟨env, box⟩ Q := by
  intro hd ok w0 β Ω a w hng hR r hr
  rcases hR.box k cs hk with ⟨b, vs, ty, hb, _⟩ | ⟨h1, _⟩
  · refine h b hd ok w0 β Ω a w hng { hR with env := fun t v hv => ?_ } r hr
    have hv' : (if t = g then some (V.at k b) else amLook t env) = some v := hv
    split at hv'
    · injection hv' with hv'; subst hv'; exact hb
    · exact hR.env t v hv'
  · exact absurd h1 hn
end
end Go.Proofs.Am
namespace Go.Proofs.Am
open Go.RowKit
/-- Entries of the frame that a round leaves as they are. -/
def stillB (gh : List (Nat × V)) : V → Bool
  | .cell x => x.pure?
  | .agg cs => cs.all (·.pure?)
  | .ptr k _ => gh.any fun p => match p.2 with
    | .at k' _ => k == k'
    | _ => false
  | .at k _ => gh.any fun p => match p.2 with
    | .at k' _ => k == k'
    | _ => false
  | .clo _ caps => caps.all fun c => gh.any fun p => match p.2 with
    | .at k' _ => c.1 == k'
    | _ => false
  | _ => true
def envStill (gh env : List (Nat × V)) : Bool := env.all fun p => stillB gh p.2
section
variable {P : Program} {G : Ctx} {ok : Fr} {w0 : World} {N : Nat} {β β' : Nat → Option Nat} {Ω Ω' : Nat → Nat → Option Value} {s s4 : S} {a a4 : Act} {w w' w4 : World} {Q : X → S → Prop}
theorem pure_keeps {F F' : Nat → Prop} {B B' : Nat} (hk : Keeps w w' F F') {x : Cell} {v : Value} (hp : x.pure? = true) (h : RepCell w F B Ω x v) : RepCell w' F' B' Ω' x v := by
  cases x with
  | c x => exact RepC.keeps hk x v h
  | own => cases hp
  | omap => cases hp
  | objst => cases hp
theorem pures_keeps {F F' : Nat → Prop} {B B' : Nat} (hk : Keeps w w' F F') {l : List Cell} {vs : List Value} (hp : l.all (·.pure?) = true) (h : RepCellL w F B Ω l vs) : RepCellL w' F' B' Ω' l vs := by
  induction h with
  | nil => exact .nil
  | cons h _ ih =>
    simp only [List.all_cons, Bool.and_eq_true] at hp
    exact .cons (pure_keeps (B := B) hk hp.1 h) (ih hp.2)
/-- Behind a round: the frame's entries are what they were, the boxes what the round has left. -/
theorem Rel.restore {env gh : List (Nat × V)} {bx : List (Nat × List Cell)} (h0 : Rel G ok w0 N β Ω ⟨env, bx⟩ a w0) (h3 : Rel G ok w0 N β' Ω' s4 a4 w4) (hm : ∀ b, ok.X b → Mut β Ω b) (hgh0 : envIn env gh) (hgh : envIn s4.env gh) (hst : envStill gh env = true) :
    Rel G ok w0 N β' Ω' ⟨env, s4.box⟩ ⟨a.tmps, []⟩ w4 := by
  have hk : Keeps w0 w4 (okF G ok w0.heap.size β Ω) (okF G ok w0.heap.size β' Ω') := by
    refine ⟨fun b hb hl => ?_, fun b hb hl => ?_⟩
    · rcases hb with ⟨_, hb⟩ | ⟨hb | hb, hn⟩
      · exact h3.below.block b hl (fun hx => by have := h0.xok b hx; rcases hb with hb | hb; exact this.2 hb; omega)
      · omega
      · exact absurd (hm b hb) hn
    · rcases hb with hb | ⟨hb | hb, hn⟩
      · exact .inl hb
      · omega
      · exact absurd (hm b hb) hn
  have key : ∀ k, (gh.any fun p => match p.2 with | .at k' _ => k == k' | _ => false) = true → ∀ b, β k = some b → β' k = some b := by
    intro k hk2 b hb
    simp only [List.any_eq_true] at hk2
    obtain ⟨⟨g, v⟩, hg1, hg2⟩ := hk2
    cases v with
    | «at» k' b' =>
      simp at hg2
      subst hg2
      -- the entry itself, or one that lies ahead of it: all are looked up
      have hin : ∀ (e : List (Nat × V)) (m : List (Nat × V)), envIn e m → (g, V.at k b') ∈ m → amLook g e = some (.at k b') := by
        intro e m
        induction m with
        | nil => intro _ h; cases h
        | cons q r ih =>
          intro h1 h2
          obtain ⟨t, u⟩ := q
          rcases List.mem_cons.1 h2 with h2 | h2
          · cases h2; exact h1.1
          · exact ih h1.2 h2
      have h1 : β k = some b' := h0.env g _ (hin _ _ hgh0 hg1)
      have h2 : β' k = some b' := h3.env g _ (hin _ _ hgh hg1)
      rw [hb] at h1
      rw [h2, ← h1]
    | _ => cases hg2
  refine { h3 with size := h0.size, defers := DefersOk.none, env := fun t v hv => ?_ }
  have h1 := h0.env t v hv
  have h2 : stillB gh v = true := by
    have := List.all_eq_true.1 hst (t, v) (look_mem hv)
    exact this
  cases v with
  | cell x => exact pure_keeps (B := w0.heap.size) (B' := w0.heap.size) hk h2 h1
  | agg cs => obtain ⟨vs, h4, h5⟩ := h1; exact ⟨vs, h4, pures_keeps hk h2 h5⟩
  | tup l => obtain ⟨vs, h4, h5⟩ := h1; exact ⟨vs, h4, h5.keeps hk⟩
  | ptr k off => obtain ⟨b, h4, h5⟩ := h1; exact ⟨b, key k h2 b h4, h5⟩
  | ref cs => exact RepA.keeps (a := .ref cs) hk h1
  | clo f caps =>
    obtain ⟨vs, h4, h5, h6⟩ := h1
    refine ⟨vs, h4, h5, fun j k off hj => ?_⟩
    obtain ⟨b, h7, h8⟩ := h6 j k off hj
    exact ⟨b, key k (by simpa using List.all_eq_true.1 h2 (k, off) (List.mem_of_getElem? hj)) b h7, h8⟩
  | undef => trivial
  | skp => exact h1
  | «at» k b => exact key k h2 b h1
/-- The loop's record is turned. -/
theorem Rel.putRec (h : Rel G ok w0 N β Ω s a w) (hng : G.nglob ≤ w0.heap.size) (hok : s.objOk = true) {p : OP} (hst : Stab p) {l : Nat} {rec : Loop} (hl : amLook 1000000 s.box = some [.objst (sepP p (recP l rec))]) :
    w.heap[l]? = some (.loop rec) ∧ ∀ rec', ∃ Ω', Rel G ok w0 N β Ω' ⟨s.env, (1000000, [.objst (sepP p (recP l rec'))]) :: s.box⟩ a (w.putObj l (.loop rec')) := by
  obtain ⟨hβ, _, fp, ⟨f1, f2, h1, h2, h3, h4⟩, hm⟩ := h.obj hl
  have hlt : l < w.heap.size := (Array.getElem?_eq_some_iff.1 h2.1).1
  refine ⟨h2.1, fun rec' => ?_⟩
  have hother : ∀ b, b ≠ l → (w.putObj l (.loop rec')).heap[b]? = w.heap[b]? := fun b hb => World.putObj_heap_other hb
  have hf1l : ¬ f1 l := fun h5 => h3 l h5 ((h2.2 l).2 rfl)
  have hfpl : fp l := (h4 l).2 (.inr ((h2.2 l).2 rfl))
  refine h.afterObj hl (objOkP hok) (fp := fp) (fp' := fp) hm (hst.sep Stab.rec) ⟨f1, f2, ?_, ⟨World.putObj_heap_same hlt, h2.2⟩, h3, h4⟩ (fun b hb => ⟨by rw [World.putObj_size]; exact (hm b hb).1, .inl hb⟩)
    ⟨rfl, rfl, rfl, by rw [World.putObj_size]; exact Nat.le_refl _, fun k _ hk => hother k (fun e => hk (e ▸ hfpl))⟩ hng
  refine hst _ _ w _ f1 h1 (Keeps.W ⟨fun b hb hl2 => hother b (fun e => ?_), fun b hb hl2 => .inl ⟨hl2, .inl hb⟩⟩) (fun b hb => hother b (fun e => hf1l (e ▸ hb)))
  subst e
  have hmu : Mut β Ω b := .inr ⟨1000000, b, _, (hm b hfpl).2, rfl⟩
  rcases hb with ⟨h5, h6⟩ | ⟨_, h6⟩
  · rcases (h.lt hmu).1 with h7 | h7
    · omega
    · have h8 := h.xok _ h7; rcases h6 with h6 | h6; exact h8.2 h6; omega
  · exact h6 hmu
/-- A frame between two rounds, as the object that the iterator is handed. -/
def RP (G : Ctx) (N : Nat) (tm : Array Value) (s : S) : OP := fun F w fp =>
  (∀ b, b < G.nglob → F b ∧ b < w.heap.size) ∧ (∀ b, fp b → G.nglob ≤ b) ∧ ∃ β Ω, Rel G ⟨fun b => F b ∧ ¬ fp b, fp⟩ w N β Ω s ⟨tm, []⟩ w ∧ ∀ b, Mut β Ω b ↔ fp b
theorem glob_keeps {F F' : Nat → Prop} (hk : KeepsW w w' F F') (hF : ∀ b, b < G.nglob → F b ∧ b < w.heap.size) (h : GlobOk G w) : GlobOk G w' := by
  intro g cs hg
  obtain ⟨h1, h2, vs, ty, fz, h3, hl⟩ := h g cs hg
  have h4 := hk.same g (hF g h1).1 h2 (fun ds e => by rw [h3] at e; cases e)
  refine ⟨h1, hk.lt _ (hF g h1).1 h2, vs, ty, fz, h4.trans h3, hl.keeps Keeps.none⟩
theorem Stab.RP {tm : Array Value} : Stab (RP G N tm s) := by
  rintro F F' w w' fp ⟨hF, hn, β, Ω, hR, hm⟩ hk hs
  have hF' : ∀ b, b < G.nglob → F' b ∧ b < w'.heap.size := fun b hb => ⟨hk.ok b (hF b hb).1 (hF b hb).2, hk.lt _ (hF b hb).1 (hF b hb).2⟩
  refine ⟨hF', hn, β, Ω, hR.shift rfl DefersOk.none ⟨fun b hb hl hnd => ?_, fun b hb hl => ?_, fun b hb hl => ?_⟩ (fun b hb => hs b ((hm b).1 hb)) (.of (Below.refl _ _)) (fun b hb => ⟨hn b hb, fun h => h.2 hb⟩) (glob_keeps hk hF hR.glob) (fun b hb => .inr ((hm b).1 hb)), hm⟩
  · rcases hb with ⟨_, hb | hb⟩ | ⟨hb | hb, hnm⟩
    · exact hk.same b hb.1 hl hnd
    · exact hk.same b (hF b hb).1 hl hnd
    · omega
    · exact absurd ((hm b).2 hb) hnm
  · rcases hb with ⟨_, hb | hb⟩ | ⟨hb | hb, hnm⟩
    · exact .inl ⟨hk.lt _ hb.1 hl, .inl ⟨hk.ok b hb.1 hl, hb.2⟩⟩
    · exact .inl ⟨(hF' b hb).2, .inr hb⟩
    · omega
    · exact absurd ((hm b).2 hb) hnm
  · rcases hb with ⟨_, hb | hb⟩ | ⟨hb | hb, hnm⟩
    · exact hk.lt _ hb.1 hl
    · exact (hF' b hb).2
    · omega
    · exact absurd ((hm b).2 hb) hnm
def bodyQ (xj : X) (gh : List (Nat × V)) (p' : OP) (bx' : List (Nat × List Cell)) (r : OP) : X → S → Prop := fun x s => x = xj ∧ s.objOk = true ∧ amLook 1000000 s.box = some [.objst (sepP p' r)] ∧ envIn s.env gh ∧ envIn s.box bx'
def asgQ (P : Program) (G : Ctx) (N : Nat) (body : Code) (xj : X) (gh : List (Nat × V)) (p' : OP) (bx' : List (Nat × List Cell)) (r : OP) : X → S → Prop := fun x s => x = .norm ∧ s.objOk = true ∧
  ∃ pA, Stab pA ∧ amLook 1000000 s.box = some [.objst (sepP pA r)] ∧ ∀ r', Stab r' → AW P G N body ⟨s.env, (1000000, [.objst (sepP pA r')]) :: s.box⟩ (bodyQ xj gh p' bx' r')
/-- One round: the loop's variable is set, the body is run; it ends as xj says. -/
def RoundAW (P : Program) (G : Ctx) (N : Nat) (assign body : Code) (t : Nat) (x : A) (env gh : List (Nat × V)) (bx : List (Nat × List Cell)) (p : OP) (xj : X) (p' : OP) (bx' : List (Nat × List Cell)) : Prop :=
  ∀ r, Stab r → AW P G N assign ⟨(t, x.val) :: env, (1000000, [.objst (sepP p r)]) :: bx⟩ (asgQ P G N body xj gh p' bx' r)
def jumpOf : X → Option Code
  | .norm => none
  | .ret => some .ret
  | .exit id => some (.exit id)
def isNorm : X → Bool
  | .norm => true
  | _ => false
theorem yield_holds (hmk : G.marks = false) {assign body : Code} {t l D fn : Nat} {x : A} {tm : Array Value} {env gh : List (Nat × V)} {bx bx' : List (Nat × List Cell)} {p p' : OP} {xj : X} (hdA : dsts N assign = true) (hdB : dsts N body = true) (ht : t < N)
    (hp : Stab p) (hp' : Stab p') (hgh : envIn env gh) (hstill : envStill gh env = true) (hr : RoundAW P G N assign body t x env gh bx p xj p' bx') :
    HoldsV P G (.func (.yield l) #[] #[]) [x] (RP G N tm ⟨env, (1000000, [.objst (sepP p (recP l { state := .ready, pending := none, fn := fn, tmps := tm, params := #[t], assign := assign, body := body, defers := D }))]) :: bx⟩) (some [.c (.bool (isNorm xj))])
      (RP G N tm ⟨env, (1000000, [.objst (sepP p' (recP l { state := if (jumpOf xj).isNone then .ready else .done, pending := jumpOf xj, fn := fn, tmps := tm, params := #[t], assign := assign, body := body, defers := D }))]) :: bx'⟩) := by
  refine ⟨Stab.RP, fun okp W vs fp hng hglob hA hobj hfp => .inr ?_⟩
  obtain ⟨hF, hn, β, Ω, hR, hm⟩ := hobj
  obtain ⟨_, _, fp0, ⟨f1, f2, g1, g2, g3, g4⟩, hmk2⟩ := hR.obj rfl
  obtain ⟨v, rfl, hv⟩ : ∃ v, vs = [v] ∧ RepA W okp x v := by
    cases hA with
    | cons h r => cases r; exact ⟨_, rfl, h⟩
  have hy := run_yield (P := P) (args := #[v]) g2.1 rfl
  have hz : ((#[t] : Array Tmp).zip #[v]).foldl (fun (tmps : Array Value) (x : Tmp × Value) => tmps.setIfInBounds x.1 x.2) tm = tm.setIfInBounds t v := by rw [← Array.foldl_toList, Array.toList_zip]; rfl
  refine ⟨l, fn, tm.setIfInBounds t v, assign, body, rfl, hz ▸ hy, roundIn_of_wpIn (F := Fence.wide) trivial ?_⟩
  have hR1 := hR.put (dst := some t) (v := x.val) (x := v) (fun d hd => by injection hd with hd; omega) (val_sound (hv.keeps (Keeps.W ⟨fun _ _ _ => rfl, fun b hb hl => .inl ⟨hl, .inl ⟨hb, fun hb2 => (hfp b hb2).2.2 hb⟩⟩⟩)))
  refine wpIn_mono (hr _ Stab.rec hdA _ W β Ω _ W hng hR1 (some l) (fun h => by rw [hmk] at h; cases h)) ?_
  rintro e a1 w1 ⟨x1, s3, β1, Ω1, rfl, ⟨rfl, hok3, pA, hpA, hl3, hbody⟩, hR3⟩
  obtain ⟨hrec1, hput1⟩ := hR3.putRec hng hok3 hpA hl3
  obtain ⟨Ω2, hR4⟩ := hput1 { state := .busy, pending := none, fn := fn, tmps := tm, params := #[t], assign := assign, body := body, defers := D }
  refine ⟨_, run_beginRound hrec1 rfl, ?_⟩
  refine wpIn_mono (hbody _ Stab.rec hdB _ W β1 Ω2 a1 _ hng hR4 (some l) (fun h => by rw [hmk] at h; cases h)) ?_
  rintro e a2 w3 ⟨x2, s5, β3, Ω3, rfl, ⟨rfl, hok5, hl5, hgh5, hbx5⟩, hR5⟩
  obtain ⟨hrec3, hput3⟩ := hR5.putRec hng hok5 hp' hl5
  have fin : ∃ v w'', (Instr.endRound l (jumpOf x2)).run P w3 = .ok v w'' ∧ ObjPost G okp W fp (some [.c (.bool (isNorm x2))]) (RP G N tm ⟨env, (1000000, [.objst (sepP p' (recP l { state := if (jumpOf x2).isNone then .ready else .done, pending := jumpOf x2, fn := fn, tmps := tm, params := #[t], assign := assign, body := body, defers := D }))]) :: bx'⟩) (.returned v) w'' := by
    refine ⟨_, _, run_endRound (jumpOf x2) hrec3, ?_⟩
    obtain ⟨Ω4, hR6⟩ := hput3 { state := if (jumpOf x2).isNone then .ready else .done, pending := jumpOf x2, fn := fn, tmps := tm, params := #[t], assign := assign, body := body, defers := D }
    have hR7 := (hR.restore hR6 (fun b hb => (hm b).2 hb) hgh hgh5 hstill).sub (s' := ⟨env, (1000000, [.objst (sepP p' (recP l { state := if (jumpOf x2).isNone then .ready else .done, pending := jumpOf x2, fn := fn, tmps := tm, params := #[t], assign := assign, body := body, defers := D }))]) :: bx'⟩) ⟨fun _ _ h => h, fun k cs hc => by
      have hc' : (if k = 1000000 then some _ else amLook k bx') = some cs := hc
      show (if k = 1000000 then some _ else amLook k s5.box) = some cs
      split at hc'
      · rename_i e; rw [if_pos e]; exact hc'
      · rename_i e; rw [if_neg e]; exact envIn_look hbx5 k cs hc'⟩
    have hlow : ∀ b, Mut β3 Ω4 b → (W.heap.size ≤ b ∨ fp b) := fun b hb => (hR7.lt hb).1
    have hsz := hR7.below.size
    refine ⟨_, Mut β3 Ω4, rfl, ⟨rfl, [.bool (jumpOf x2).isNone], rfl, .cons (show _ = _ by cases x2 <;> rfl) .nil⟩, ⟨fun b hb => ⟨.inl ⟨(hF b hb).2, .inr hb⟩, Nat.lt_of_lt_of_le (hF b hb).2 hsz⟩, fun b hb => ?_, β3, Ω4, ?_, fun b => Iff.rfl⟩, fun b hb => ⟨(hR7.lt hb).2, (hlow b hb).symm⟩, hR7.below⟩
    · rcases hlow b hb with h1 | h1
      · omega
      · exact hn b h1
    · refine hR7.shift rfl DefersOk.none (Keeps.W ⟨fun _ _ _ => rfl, fun b hb hl => ?_⟩) (fun _ _ => rfl) (.of (Below.refl _ _)) (fun b hb => ⟨?_, fun h => h.2 hb⟩) ?_ (fun b hb => .inr hb)
      · rcases hb with ⟨h1, h2 | h2⟩ | ⟨h1, h2⟩
        · refine .inl ⟨hl, .inl ⟨.inl ⟨h1, .inl h2.1⟩, fun h3 => ?_⟩⟩
          rcases hlow b h3 with h4 | h4
          · omega
          · exact h2.2 h4
        · exact .inl ⟨hl, .inr h2⟩
        · exact .inl ⟨hl, .inl ⟨.inr ⟨h1, h2⟩, h2⟩⟩
      · rcases hlow b hb with h1 | h1
        · omega
        · exact hn b h1
      · exact hR7.globw
  cases x2 with
  | norm => exact fin
  | ret => exact fin
  | exit id => exact fin
end
end Go.Proofs.Am
namespace Go.Proofs.Am
open Go.RowKit
def Ctx.on (G : Ctx) : Ctx := { G with marks := true }
/-- The iterator's contract: it hands the elements over, one after the other, till one is answered with false. -/
def IterOk (P : Program) (G : Ctx) (f : FuncId) (caps : List C) (xs : List A) : Prop :=
  ∀ (v : Value) (p : Nat → OP) (m : Nat) (ps : OP), (∀ i, Stab (p i)) → Stab ps → v.oneCell' = true → v.cells = #[v] → m ≤ xs.length → (∀ i x, i < m → xs[i]? = some x → HoldsV P G v [x] (p i) (some [.c (.bool true)]) (p (i + 1))) →
    (∀ x, xs[m]? = some x → HoldsV P G v [x] (p m) (some [.c (.bool false)]) ps) → HoldsO P G f (.c (.val v) :: capRefs caps) (p 0) (some []) (if m < xs.length then ps else p m)
section
variable {P : Program} {G : Ctx} {ok : Fr} {w0 : World} {N : Nat} {β β' : Nat → Option Nat} {Ω Ω' : Nat → Nat → Option Value} {s s4 : S} {a a4 : Act} {w w' w4 : World} {Q : X → S → Prop}
theorem Rel.toOn {tm : Array Value} (h : Rel G ok w0 N β Ω s ⟨tm, []⟩ w) : Rel G.on ok w0 N β Ω s ⟨tm, []⟩ w :=
  ⟨h.below, h.xok, h.glob, MarksOk.nil, h.size, h.env, h.box, h.bInj, h.oInj, h.bo, h.bB, h.oB⟩
theorem Rel.off {tm : Array Value} (h : Rel G.on ok w0 N β Ω s ⟨tm, []⟩ w) : Rel G ok w0 N β Ω s ⟨tm, []⟩ w :=
  ⟨h.below, h.xok, h.glob, DefersOk.none, h.size, h.env, h.box, h.bInj, h.oInj, h.bo, h.bB, h.oB⟩
theorem okF_notMut (h : Rel G ok w0 N β Ω s a w) (hng : G.nglob ≤ w0.heap.size) {b : Nat} (hb : okF G ok w0.heap.size β Ω b) : ¬ Mut β Ω b := by
  rcases hb with ⟨h1, h2⟩ | ⟨_, h2⟩
  · intro hm
    rcases (h.lt hm).1 with h3 | h3
    · omega
    · have h4 := h.xok b h3; rcases h2 with h2 | h2; exact h4.2 h2; omega
  · exact h2
theorem MarksOk.lt {F : Nat → Prop} {ds : List Deferred} (h : MarksOk w F ds) : ∀ d ∈ ds, ∃ D, d = { target := .collected D, args := #[] } ∧ D < w.heap.size := by
  induction h with
  | nil => intro d hd; cases hd
  | cons h hF hn _ ih =>
    intro d hd
    rcases List.mem_cons.1 hd with rfl | hd
    · exact ⟨_, rfl, (Array.getElem?_eq_some_iff.1 h).1⟩
    · exact ih d hd
theorem fnOk_run {f : FuncId} (h : FnOk P f) (args : Array Value) (w : World) : (callFunc f args).run P w = .ok (.enter f args) w := by
  obtain ⟨fn, h1, h2, h3⟩ := h
  have hb' : fn.body ≠ none := by intro e; rw [e] at h2; cases h2
  simp only [beq_eq_false_iff_ne, ne_eq] at h3
  simp [callFunc, h1, hb', h3]
/-- Behind the iterator: the frame is as it was, its boxes as the last round left them. -/
theorem range_end (hng : G.nglob ≤ w0.heap.size) {w1 : World} {Ω1 : Nat → Nat → Option Value} {s1 : S} (hR3 : Rel G.on ok w0 N β Ω1 s1 a w1) {fp' : Nat → Prop} {D l : Nat} {rec : Loop} {env0 : List (Nat × V)} {bxq : List (Nat × List Cell)} {q : OP} (hq : Stab q)
    (hD : w1.heap[D]? = some (.deferred (some []))) (hDo : okF G ok w0.heap.size β Ω1 D) (hDB : w0.heap.size ≤ D) (hDn : ∀ d ∈ a.defers, d ≠ { target := .collected D, args := #[] }) (hok : ObjOkP ⟨env0, bxq⟩) (hst : rec.state ≠ .busy)
    (hp' : RP G N a.tmps ⟨env0, (1000000, [.objst (sepP q (recP l rec))]) :: bxq⟩ (fun b => (b < w1.heap.size ∧ (okF G ok w0.heap.size β Ω1 b ∨ b < G.nglob)) ∨ ((w1.heap.size ≤ b ∨ Mut β Ω1 b) ∧ ¬ fp' b)) w4 fp')
    (hfp' : ∀ b, fp' b → b < w4.heap.size ∧ (Mut β Ω1 b ∨ w1.heap.size ≤ b)) (hb : BelowX (Mut β Ω1) w1.heap.size w1 w4) :
    ∃ w5 β5 Ω5, (Instr.endLoop l).run P w4 = .ok rec.pending w5 ∧ Rel G.on ok w0 N β5 Ω5 ⟨env0, (1000000, [.objst q]) :: bxq⟩ { a with defers := { target := .collected D, args := #[] } :: a.defers } w5 := by
  obtain ⟨hF, hn, β4, Ω4, hR4, hm4⟩ := hp'
  have hle : w0.heap.size ≤ w1.heap.size := hR3.below.size
  have hlow1 : ∀ b, Mut β Ω1 b → w0.heap.size ≤ b ∨ ok.X b := fun b hb => (hR3.lt hb).1
  have hlow4 : ∀ b, fp' b → w0.heap.size ≤ b ∨ ok.X b := fun b hb => by
    rcases (hfp' b hb).2 with h1 | h1
    · exact hlow1 b h1
    · exact .inl (by omega)
  have h14 : ∀ b, b < w1.heap.size → okF G ok w0.heap.size β Ω1 b → okF G ok w0.heap.size β4 Ω4 b := by
    intro b hl h1
    have h1m := okF_notMut (G := G.on) hR3 hng h1
    rcases h1 with h1 | ⟨h1, _⟩
    · exact .inl h1
    · refine .inr ⟨h1, fun h2 => ?_⟩
      rcases (hfp' b ((hm4 b).1 h2)).2 with h3 | h3
      · exact h1m h3
      · omega
  have hk14 : Keeps w1 w4 (okF G ok w0.heap.size β Ω1) (okF G ok w0.heap.size β4 Ω4) := ⟨fun b h1 hl => hb.block b hl (okF_notMut (G := G.on) hR3 hng h1), fun b h1 hl => h14 b hl h1⟩
  have hDl : D < w1.heap.size := (Array.getElem?_eq_some_iff.1 hD).1
  have hR5 : Rel G.on ok w0 N β4 Ω4 ⟨env0, (1000000, [.objst (sepP q (recP l rec))]) :: bxq⟩ { a with defers := { target := .collected D, args := #[] } :: a.defers } w4 := by
    refine hR4.toOn.shift rfl (show MarksOk w4 _ _ from .cons ((hk14.same D hDo hDl).trans hD) ⟨hDB, h14 D hDl hDo⟩ hDn ?_) (Keeps.W ⟨fun _ _ _ => rfl, fun b h1 hl => ?_⟩) (fun _ _ => rfl) ?_ hR3.xok hR3.glob (fun b hb => hlow4 b ((hm4 b).1 hb))
    · have hmk : MarksOk w1 (defF w0.heap.size (okF G.on ok w0.heap.size β Ω1)) a.defers := hR3.defers
      exact MarksOk.keeps (F := defF w0.heap.size (okF G ok w0.heap.size β Ω1)) hk14.def hmk
    · show okF G ok w0.heap.size β4 Ω4 b
      rcases h1 with ⟨_, h1 | h1⟩ | ⟨h1 | h1, h2⟩
      · rcases h1.1 with ⟨h2, h3 | h3⟩ | ⟨h2, h3⟩
        · exact h14 b h2 h3
        · exact .inl ⟨by omega, .inr h3⟩
        · refine .inr ⟨?_, fun h4 => h3 ((hm4 b).1 h4)⟩
          rcases h2 with h2 | h2
          · exact .inl (by omega)
          · exact hlow1 b h2
      · have h1 : b < G.nglob := h1
        exact .inl ⟨by omega, .inr h1⟩
      · have h1 : w4.heap.size ≤ b := h1; omega
      · exact absurd ((hm4 b).2 h1) h2
    · exact hR3.below.trans ⟨hb.os, hb.tape, hb.output, hb.size, fun b h1 h2 => hb.block b (by omega) (fun h3 => by rcases hlow1 b h3 with h4 | h4; omega; exact h2 h4)⟩
  obtain ⟨_, _, fp, ⟨f1, f2, g1, g2, g3, g4⟩, hm⟩ := hR5.obj rfl
  have hf1l : ¬ f1 l := fun h5 => g3 l h5 ((g2.2 l).2 rfl)
  have hfpl : fp l := (g4 l).2 (.inr ((g2.2 l).2 rfl))
  have hother : ∀ (o : Obj) b, b ≠ l → (w4.putObj l o).heap[b]? = w4.heap[b]? := fun o b hb => World.putObj_heap_other hb
  have hok' : ObjOkP (⟨env0, (1000000, [.objst (sepP q (recP l rec))]) :: bxq⟩ : S) := by
    refine ⟨hok.1, fun t cs hc ht => ?_⟩
    have hc' : (if t = 1000000 then some _ else amLook t bxq) = some cs := hc
    rw [if_neg ht] at hc'
    exact hok.2 t cs hc' ht
  obtain ⟨Ω6, hR6⟩ := hR5.afterObj (w' := w4.putObj l (.loop { rec with state := .exhausted })) rfl hok' (fp := fp) (fp' := f1) hm hq (by
      refine hq _ _ w4 _ f1 g1 (Keeps.W ⟨fun b hb hl2 => hother _ b (fun e => ?_), fun b hb hl2 => .inl ⟨hl2, .inl hb⟩⟩) (fun b hb => hother _ b (fun e => hf1l (e ▸ hb)))
      subst e
      exact okF_notMut hR5 hng hb (.inr ⟨1000000, b, _, (hm b hfpl).2, rfl⟩))
    (fun b hb => ⟨by rw [World.putObj_size]; exact (hm b ((g4 b).2 (.inl hb))).1, .inl ((g4 b).2 (.inl hb))⟩)
    ⟨rfl, rfl, rfl, by rw [World.putObj_size]; exact Nat.le_refl _, fun k _ hk => hother _ k (fun e => hk (e ▸ hfpl))⟩ hng
  refine ⟨_, _, _, run_endLoop g2.1 hst, hR6.sub ⟨fun _ _ h => h, fun k cs hc => ?_⟩⟩
  have hc' : (if k = 1000000 then some _ else amLook k bxq) = some cs := hc
  show (if k = 1000000 then some _ else if k = 1000000 then some _ else amLook k bxq) = some cs
  split at hc'
  · rename_i e; rw [if_pos e]; exact hc'
  · rename_i e; rw [if_neg e, if_neg e]; exact hc'
/-- **Go's range over a function.** -/
theorem aw_rangeFunc (hmk : G.marks = false) {g : Operand} {t : Nat} {assign body : Code} {f : FuncId} {caps : List C} {env0 gh : List (Nat × V)} (bx : Nat → List (Nat × List Cell)) (p : Nat → OP) (m : Nat) (xs : List A) (ps : OP) (bxs : List (Nat × List Cell))
    (hdA : dsts N assign = true) (hdB : dsts N body = true) (ht : t < N) (hg : evalO G.on s g = .cell (.c (.clo f caps))) (hfn : FnOk P f) (hit : IterOk P G f caps xs) (hm : m ≤ xs.length) (hst : ∀ i, Stab (p i)) (hsts : Stab ps)
    (henv : envIn s.env env0) (hobj : amLook 1000000 s.box = some [.objst (p 0)]) (hbx : envIn s.box (bx 0)) (hok : s.objOk = true) (hokm : (⟨env0, bx m⟩ : S).objOk = true) (hoks : m < xs.length → (⟨env0, bxs⟩ : S).objOk = true) (hgh : envIn env0 gh) (hstill : envStill gh env0 = true)
    (round : ∀ i x, i < m → xs[i]? = some x → RoundAW P G N assign body t x env0 gh (bx i) (p i) .norm (p (i + 1)) (bx (i + 1)))
    (stop : ∀ x, xs[m]? = some x → RoundAW P G N assign body t x env0 gh (bx m) (p m) .ret ps bxs)
    (hQ1 : m = xs.length → Q .norm ⟨env0, (1000000, [.objst (p m)]) :: bx m⟩) (hQ2 : m < xs.length → Q .ret ⟨env0, (1000000, [.objst ps]) :: bxs⟩) : AW P G.on N (.rangeFunc g #[t] assign body) s Q := by
  intro _ ok w0 β Ω a w hng hR r hr
  obtain rfl : r = none := hr rfl
  refine wpIn_rangeFunc (F := FR none) ?_
  intro fn _
  let rec_ : LoopState → Option Code → Loop := fun st pe => { state := st, pending := pe, fn := fn, tmps := a.tmps, params := #[t], assign := assign, body := body, defers := w.heap.size }
  obtain ⟨w1, hw1⟩ : ∃ w1, (w.alloc (.deferred (some []))).alloc (.loop (rec_ .ready none)) = w1 := ⟨_, rfl⟩
  have hsz1 : w1.heap.size = w.heap.size + 2 := by rw [← hw1]; simp
  have hL1 : w1.heap[w.heap.size + 1]? = some (.loop (rec_ .ready none)) := by
    rw [← hw1]; have := World.alloc_heap_new (w.alloc (.deferred (some []))) (.loop (rec_ .ready none)); rwa [World.size_alloc] at this
  have hK1 : w1.heap[w.heap.size]? = some (.deferred (some [])) := by
    rw [← hw1]; exact (Below.heap_alloc _ _ _ (by simp)).trans (World.alloc_heap_new w _)
  have hb1 : Below w.heap.size w w1 := by rw [← hw1]; exact ((Below.refl _ w).alloc (Nat.le_refl _) _).alloc (by simp) _
  obtain ⟨_, hst0, fp0, hp0, hm0⟩ := hR.obj hobj
  obtain ⟨Ω1, hR2, hmut⟩ := hR.afterObj' (w' := w1) (p' := sepP (p 0) (recP (w.heap.size + 1) (rec_ .ready none))) hobj (objOkP hok) (fp := fp0) (fp' := fun b => fp0 b ∨ b = w.heap.size + 1) hm0 ((hst 0).sep Stab.rec)
    (by
      refine ⟨fp0, fun b => b = w.heap.size + 1, ?_, ⟨hL1, fun b => Iff.rfl⟩, fun b h1 h2 => by have := (hm0 b h1).1; omega, fun b => Iff.rfl⟩
      exact hst 0 _ _ w w1 fp0 hp0 (Keeps.W ⟨fun b _ hl => hb1.block b hl, fun b hb hl => .inl ⟨hl, .inl hb⟩⟩) (fun b hb => hb1.block b (hm0 b hb).1))
    (fun b hb => by rcases hb with hb | hb; exact ⟨by have := (hm0 b hb).1; omega, .inl hb⟩; exact ⟨by omega, .inr (by omega)⟩) (.of hb1) hng
  have hclo := eval_sound hR2 g
  have hg2 : evalO G.on (⟨s.env, (1000000, [.objst (sepP (p 0) (recP (w.heap.size + 1) (rec_ .ready none)))]) :: s.box⟩ : S) g = .cell (.c (.clo f caps)) := by
    rw [← hg]; cases g <;> rfl
  rw [hg2] at hclo
  obtain ⟨ads, hga, hcaps⟩ := hclo
  have hR3 : Rel G.on ok w0 N β Ω1 ⟨env0, (1000000, [.objst (sepP (p 0) (recP (w.heap.size + 1) (rec_ .ready none)))]) :: bx 0⟩ a w1 := hR2.sub ⟨envIn_look henv, fun k cs hc => by
    have hc' : (if k = 1000000 then some _ else amLook k (bx 0)) = some cs := hc
    show (if k = 1000000 then some _ else amLook k s.box) = some cs
    split at hc'
    · rename_i e; rw [if_pos e]; exact hc'
    · rename_i e; rw [if_neg e]; exact envIn_look hbx k cs hc'⟩
  have hD : okF G ok w0.heap.size β Ω1 w.heap.size := by
    have := hR.below.size
    refine .inr ⟨.inl (by omega), fun h1 => ?_⟩
    rcases hmut _ h1 with h2 | h2 | h2
    · have := (hR.lt h2).2; omega
    · have := (hm0 _ h2).1; omega
    · omega
  have hDn : ∀ d ∈ a.defers, d ≠ { target := .collected w.heap.size, args := #[] } := by
    intro d hd e
    have hmk2 : MarksOk w (defF w0.heap.size (okF G.on ok w0.heap.size β Ω)) a.defers := hR.defers
    obtain ⟨D', h1, h2⟩ := hmk2.lt d hd
    rw [e] at h1
    injection h1 with h1
    injection h1 with h1
    omega
  have hfp : ∀ b, Mut β Ω1 b → b < w1.heap.size ∧ G.nglob ≤ b ∧ ¬ okF G ok w0.heap.size β Ω1 b := fun b hb => ⟨(hR3.lt hb).2, by
    rcases (hR3.lt hb).1 with h1 | h1
    · have : G.nglob ≤ w0.heap.size := hng
      omega
    · exact (hR3.xok b h1).1, fun h2 => okF_notMut (G := G.on) hR3 hng h2 hb⟩
  have hRP : RP G N a.tmps ⟨env0, (1000000, [.objst (sepP (p 0) (recP (w.heap.size + 1) (rec_ .ready none)))]) :: bx 0⟩ (okF G ok w0.heap.size β Ω1) w1 (Mut β Ω1) := by
    have hle := hR3.below.size
    have hng' : G.nglob ≤ w0.heap.size := hng
    refine ⟨fun b hb => ⟨.inl ⟨by omega, .inr hb⟩, by omega⟩, fun b hb => (hfp b hb).2.1, β, Ω1, ?_, fun b => Iff.rfl⟩
    refine (hR3.shift (ok' := ⟨fun b => okF G ok w0.heap.size β Ω1 b ∧ ¬ Mut β Ω1 b, Mut β Ω1⟩) (w0' := w1) (w' := w1) (a' := ⟨a.tmps, []⟩) rfl DefersOk.none (Keeps.W ⟨fun _ _ _ => rfl, fun b hb hl => .inl ⟨hl, .inl ⟨hb, okF_notMut (G := G.on) hR3 hng hb⟩⟩⟩) (fun _ _ => rfl) (.of (Below.refl _ _)) (fun b hb => ⟨(hfp b hb).2.1, fun h => h.2 hb⟩) hR3.globw (fun b hb => .inr hb)).off
  have hcall := hit (.func (.yield (w.heap.size + 1)) #[] #[]) (fun i => RP G N a.tmps ⟨env0, (1000000, [.objst (sepP (p i) (recP (w.heap.size + 1) (rec_ .ready none)))]) :: bx i⟩) m
    (RP G N a.tmps ⟨env0, (1000000, [.objst (sepP ps (recP (w.heap.size + 1) (rec_ .done (some .ret))))]) :: bxs⟩) (fun i => Stab.RP) Stab.RP rfl rfl hm
    (fun i x hi hx => yield_holds hmk hdA hdB ht (hst i) (hst (i + 1)) hgh hstill (round i x hi hx)) (fun x hx => yield_holds hmk hdA hdB ht (hst m) hsts hgh hstill (stop x hx))
  refine ⟨w.heap.size + 1, [{ target := .collected w.heap.size, args := #[] }], w1, { target := .fn (.func f) (ads.map fun a => Value.pointer (some a)).toArray, args := #[.func (.yield (w.heap.size + 1)) #[] #[]] }, w1, f,
    #[.func (.yield (w.heap.size + 1)) #[] #[]] ++ (ads.map fun a => Value.pointer (some a)).toArray, w1, ?_, ?_, fun _ _ => trivial, ?_, fun h => (by cases h), ?_⟩
  · rw [← hw1]; exact run_enterLoop_outer _ _ _ _ _
  · simp only [resolve, hga]
    simp [go_sem]
  · simp [invoke, go_sem, fnOk_run hfn]
  · refine callsIn_FR.2 ?_
    have hA : RepAs w1 (okF G ok w0.heap.size β Ω1) (.c (.val (.func (.yield (w.heap.size + 1)) #[] #[])) :: capRefs caps) (.func (.yield (w.heap.size + 1)) #[] #[] :: ads.map fun a => Value.pointer (some a)) :=
      .cons ⟨rfl, rfl, rfl⟩ (caps_refs hcaps)
    have h1 := hcall.2.2 _ w1 _ (Mut β Ω1) (by have := hR3.below.size; have : G.nglob ≤ w0.heap.size := hng; omega) hR3.globw hA hRP hfp
    have harr : (Value.func (.yield (w.heap.size + 1)) #[] #[] :: ads.map fun a => Value.pointer (some a)) ++ [] = [.func (.yield (w.heap.size + 1)) #[] #[]] ++ (ads.map fun a => Value.pointer (some a)) := by simp
    have harr2 : ((Value.func (.yield (w.heap.size + 1)) #[] #[] :: ads.map fun a => Value.pointer (some a)) ++ []).toArray = #[.func (.yield (w.heap.size + 1)) #[] #[]] ++ (ads.map fun a => Value.pointer (some a)).toArray := by rw [harr]; simp
    rw [harr2] at h1
    refine Calls.mono h1 fun e w4 he => ?_
    obtain ⟨u, fp', rfl, _, hp', hfp', hbx4⟩ := he
    by_cases hlt : m < xs.length
    · rw [if_pos hlt] at hp'
      obtain ⟨w5, β5, Ω5, h3, h4⟩ := range_end (P := P) (G := G) (rec := rec_ .done (some .ret)) hng hR3 hsts hK1 hD hR.below.size hDn (objOkP (hoks hlt)) (by simp [rec_]) hp' hfp' hbx4
      exact ⟨_, w5, h3, wpIn_ret ⟨.ret, _, β5, Ω5, rfl, hQ2 hlt, h4⟩⟩
    · rw [if_neg hlt] at hp'
      obtain ⟨w5, β5, Ω5, h3, h4⟩ := range_end (P := P) (G := G) (rec := rec_ .ready none) hng hR3 (hst m) hK1 hD hR.below.size hDn (objOkP hokm) (by simp [rec_]) hp' hfp' hbx4
      exact ⟨_, w5, h3, .norm, _, β5, Ω5, rfl, hQ1 (by omega), h4⟩
end
end Go.Proofs.Am
namespace Go.Proofs.Am
open Go.RowKit
def isTmpR : ResultVar → Bool
  | .tmp _ => true
  | _ => false
/-- Only blocks of deferred calls, laid by the call itself, are shut. -/
structure Shut (K : Nat → Prop) (w w2 : World) : Prop where
  os : w2.os = w.os
  tape : w2.tape = w.tape
  output : w2.output = w.output
  size : w2.heap.size = w.heap.size
  block : ∀ b, (¬ K b ∨ ∀ ds, w.heap[b]? ≠ some (.deferred ds)) → w2.heap[b]? = w.heap[b]?
theorem Shut.refl (K : Nat → Prop) (w : World) : Shut K w w := ⟨rfl, rfl, rfl, rfl, fun _ _ => rfl⟩
section
variable {P : Program} {G : Ctx} {ok : Fr} {w0 : World} {N : Nat} {β β' : Nat → Option Nat} {Ω Ω' : Nat → Nat → Option Value} {s s4 : S} {a a4 : Act} {w w' w4 : World} {Q : X → S → Prop}
theorem leavesM {fn : Func} {tmps : Array Value} {R : Ending → World → Prop} {K : Nat → Prop} {w0 : World} : ∀ (ds : List Deferred) (w : World), MarksOk w K ds → Shut K w0 w → (∀ w2, Shut K w0 w2 → ∃ v, (results fn tmps).run P w2 = .ok v w2 ∧ R (.returned v) w2) → LeavesInM Fence.wide 0 P fn tmps R ds .returning w := by
  intro ds
  induction ds with
  | nil => intro w _ hs h; exact h w hs
  | cons d ds ih =>
    intro w hm hs h
    cases hm with
    | @cons D _ hD hF hn hr =>
      refine ⟨by simp, .inl ⟨D, _, rfl, run_takeDeferred hD, ih _ ?_ ?_ h⟩⟩
      · clear ih
        have hlt : ∀ D', D' ≠ D → (w.putObj D (.deferred none)).heap[D']? = w.heap[D']? := fun D' h => World.putObj_heap_other h
        induction hr with
        | nil => exact .nil
        | @cons D' ds' h1 h2 h3 _ ih2 =>
          refine .cons ((hlt D' (fun e => hn _ (List.mem_cons_self ..) (by rw [e]))).trans h1) h2 h3 (ih2 (fun d hd => hn d (List.mem_cons_of_mem _ hd)))
      · refine ⟨hs.os, hs.tape, hs.output, by rw [World.putObj_size]; exact hs.size, fun b hb => ?_⟩
        refine (World.putObj_heap_other (fun e => ?_)).trans (hs.block b hb)
        subst e
        rcases hb with hb | hb
        · exact hb hF
        · have h2 := hs.block b (.inr hb)
          rw [hD] at h2
          exact hb _ h2.symm
theorem tmps_run (tmps : Array Value) : ∀ (l : List ResultVar) (w : World), l.all isTmpR = true → ∃ us : List Value, ∀ w : World, (l.mapM (resRun tmps)).run P w = .ok us w := by
  intro l
  induction l with
  | nil => intro w _; exact ⟨[], fun w => by simp⟩
  | cons r rest ih =>
    intro w h
    simp only [List.all_cons, Bool.and_eq_true] at h
    obtain ⟨us, hus⟩ := ih w h.2
    cases r with
    | tmp t => exact ⟨tmps.getD t undef :: us, fun w => by simp only [List.mapM_cons, resRun, Sem.run_bind, Sem.run_pure, Result.andThen_ok, hus]⟩
    | cell x t => cases h.1
/-- .. where the body holds a loop over a function: it leaves with marks among its deferred calls. -/
theorem holdsOM_of_body (hT : TyOk P G.on) {f : FuncId} {fn : Func} {c : Code} (hf : P.funcs[f]? = some fn) (hb : fn.body = some c) (hn : (fn.name == "runtime.NumGoroutine") = false) (hd : dsts fn.ntmps c = true) (htm : fn.results.toList.all isTmpR = true) {args res : List A} {p p' : OP} (hlen : args.length ≤ fn.ntmps) (hst : Stab p) (hst' : Stab p')
    (h : AW P G.on fn.ntmps c ⟨argEnv 0 args, [(1000000, [.objst p])]⟩ (retQO G.on fn.results.toList res p')) : HoldsO P G f args p (some res) p' := by
  refine ⟨⟨fn, hf, by rw [hb]; rfl, hn⟩, hst', fun ok w vs fp hng hglob hA hp hfp => ?_⟩
  rw [List.append_nil]
  refine (callsIn_wide (n := 0)).1 (callsIn_of_wp_marks (F := Fence.wide) hf hb trivial (wpIn_mono (h hd ⟨ok, fp⟩ w _ _ _ w hng (relO_init (G := G.on) hlen hst hglob hA hp hfp) none (fun _ => rfl)) ?_))
  rintro e a' w' ⟨x, s', β', Ω', rfl, hq, hR'⟩
  have fin : (resOf G.on s' fn.results.toList = some res ∧ res.all (·.scalar) = true ∧ amLook 1000000 s'.box = some [.objst p']) → LeavesInM Fence.wide 0 P fn a'.tmps (fun e w' => ObjPost G ok w fp (some res) p' e w') a'.defers .returning w' := by
    rintro ⟨hres, hsc, hobj⟩
    have hmk : MarksOk w' (defF w.heap.size (okF G.on ⟨ok, fp⟩ w.heap.size β' Ω')) a'.defers := hR'.defers
    refine leavesM _ w' hmk (Shut.refl _ _) fun w2 hs => ?_
    unfold resOf at hres
    cases hvs : resVs G.on s' fn.results.toList with
    | none => rw [hvs] at hres; cases hres
    | some vs' =>
      rw [hvs] at hres
      have hres' : argsV vs' = some res := hres
      obtain ⟨us, h1, h2, h3⟩ := resVs_sound hT hR' _ _ hvs
      obtain ⟨us', h4⟩ := tmps_run (P := P) a'.tmps _ w' htm
      obtain rfl : us' = us := by have := (h4 w').symm.trans h1; injection this
      obtain ⟨hβ, _, fp', hp', hm⟩ := hR'.obj hobj
      have ho : ∀ b, fp' b → w.heap.size ≤ b ∨ fp b := fun b hb => (hR'.oB 1000000 b _ b (hm b hb).2 rfl).1
      have hfb : ∀ b, fp' b → w2.heap[b]? = w'.heap[b]? := by
        intro b hb
        exact hs.block b (.inl fun hK => okF_notMut hR' hng hK.2 (.inr ⟨1000000, b, _, (hm b hb).2, rfl⟩))
      refine ⟨_, results_run fn a'.tmps us' (h4 w2), resVal us', fp', rfl, ⟨hsc, us', rfl, ?_⟩, ?_, fun b hb => ⟨by rw [hs.size]; exact (hm b hb).1, (ho b hb).symm⟩, ?_⟩
      · have := argsV_sound hR' (F' := fun _ => True) (fun _ _ => trivial) (fun _ _ _ _ _ _ => trivial) vs' res us' hres' h2 h3
        exact this.scalar hsc
      · refine hst' _ _ w' w2 fp' hp' ⟨fun b _ _ hnd => hs.block b (.inr hnd), fun b hb hl => ?_, fun b _ hl => by rw [hs.size]; exact hl⟩ hfb
        rcases hb with hb | ⟨h4, h5⟩
        · exact .inl hb
        · exact .inr ⟨h4, fun h6 => h5 (.inr ⟨1000000, b, _, (hm b h6).2, rfl⟩)⟩
      · have hbl := hR'.below
        exact ⟨hs.os.trans hbl.os, hs.tape.trans hbl.tape, hs.output.trans hbl.output, by rw [hs.size]; exact hbl.size, fun k hk hx => (hs.block k (.inl fun hK => by have h9 : w.heap.size ≤ k := hK.1; omega)).trans (hbl.block k hk hx)⟩
  cases x with
  | norm => exact fin hq
  | ret => exact fin hq
  | exit id => exact hq.elim
end
end Go.Proofs.Am
namespace Go.Proofs.Am
open Go.RowKit
def zChk : List Z → List Value → Bool
  | [], [] => true
  | .int k :: zs, .int k' n :: vs => k == k' && n == 0 && zChk zs vs
  | .bool :: zs, .bool b :: vs => !b && zChk zs vs
  | .str :: zs, .string s :: vs => s.data.toList.isEmpty && zChk zs vs
  | .sl _ _ :: zs, .slice none 0 0 :: vs => zChk zs vs
  | .nilp :: zs, .pointer none :: vs => zChk zs vs
  | .nilm :: zs, .map none :: vs => zChk zs vs
  | .nilf :: zs, .nilFunc :: vs => zChk zs vs
  | _, _ => false
theorem zChk_ok (G : Ctx) (zs : List Z) (vs : List Value) : zChk zs vs = true → ZOk G zs vs := by
  fun_induction zChk zs vs with
  | case1 => exact fun _ => .nil
  | case2 k zs k' n vs ih =>
    intro h
    simp only [Bool.and_eq_true, beq_iff_eq] at h
    obtain ⟨⟨h1, h2⟩, h3⟩ := h
    subst h1 h2
    exact .int _ (ih h3)
  | case3 zs b vs ih =>
    intro h
    simp only [Bool.and_eq_true, Bool.not_eq_true'] at h
    obtain ⟨h1, h3⟩ := h
    subst h1
    exact .bool (ih h3)
  | case4 zs s vs ih =>
    intro h
    simp only [Bool.and_eq_true, List.isEmpty_iff] at h
    obtain ⟨h1, h3⟩ := h
    have hs : s = ⟨#[]⟩ := by
      obtain ⟨⟨l⟩⟩ := s
      simp only at h1
      subst h1
      rfl
    rw [hs]
    exact .str (ih h3)
  | case5 e z zs vs ih => exact fun h => .sl _ _ (ih h)
  | case6 zs vs ih => exact fun h => .nilp (ih h)
  | case7 zs vs ih => exact fun h => .nilm (ih h)
  | case8 zs vs ih => exact fun h => .nilf (ih h)
  | case9 => exact fun h => nomatch h
def undChk (P : Program) (t : TypeId) (d : Ty) : Bool := match d.k, P.underlying t with
  | .int k, some (.int k') => k == k' && d.size == 1
  | .bool, some .bool => d.size == 1
  | .str, some .string => d.size == 1
  | .slice e, some (.slice e') => e == e' && d.size == 1
  | .ptr e, some (.pointer e') => e == e' && d.size == 1
  | .struct offs, some (.struct fs) => (fs.toList.mapM (fun f => (P.info? f.type).map fun i => (f.offset, i.size))) == some offs && offs.all (fun p => p.2 != 0)
  | .array n e, some (.array n' e') => n == n' && e == e'
  | .map k e, some (.map k' e') => k == k' && e == e' && d.size == 1
  | .other, some (.map _ _) => d.size == 1
  | .other, some (.func _ _ _) => d.size == 1
  | _, _ => false
def zintChk : TK → Value → Bool
  | .int k, .int k' n => k == k' && n == 0
  | .int _, _ => false
  | _, _ => true
def tyChk (P : Program) (p : Nat × Ty) : Bool := (match P.info? p.1 with
  | some i => i.size == p.2.size && i.bytes == p.2.bytes && (match i.zero with
    | some z => zChk p.2.zero z.cells.toList && z.cells.size == p.2.size && zintChk p.2.k z
    | none => false) && decide (0 < p.2.size) && decide (0 < p.2.bytes)
  | none => false) && undChk P p.1 p.2
theorem undChk_ok {P : Program} {t : TypeId} {d : Ty} (h : undChk P t d = true) : UndOk P t d := by
  unfold undChk at h
  unfold UndOk
  split at h <;> rename_i h1 h2 <;> try rw [h1]
  all_goals try (simp only [Bool.and_eq_true, beq_iff_eq] at h)
  · obtain ⟨rfl, h⟩ := h; exact ⟨h2, h⟩
  · exact ⟨h2, h⟩
  · exact ⟨h2, h⟩
  · obtain ⟨rfl, h⟩ := h; exact ⟨h2, h⟩
  · obtain ⟨rfl, h⟩ := h; exact ⟨h2, h⟩
  · obtain ⟨ha, hb⟩ := h
    refine ⟨_, h2, ha, fun p hp => ?_⟩
    have := List.all_eq_true.1 hb p hp
    simpa using this
  · obtain ⟨rfl, rfl⟩ := h; exact h2
  · obtain ⟨⟨rfl, rfl⟩, h⟩ := h; exact ⟨h2, h⟩
  · exact ⟨⟨_, h2, trivial⟩, h⟩
  · exact ⟨⟨_, h2, trivial⟩, h⟩
  · cases h
theorem tyOk_of {P : Program} {G : Ctx} (tab : List (Nat × Ty)) (hG : ∀ t, G.ty t = amLook t tab) (h : tab.all (tyChk P) = true) (hfl : ∀ t d, G.ty t = some d → G.flat t = true → FlatOk P t d.zero) : TyOk P G := by
  have key : ∀ t d, G.ty t = some d → tyChk P (t, d) = true := fun t d ht => List.all_eq_true.1 h (t, d) (look_mem ((hG t).symm.trans ht))
  refine ⟨fun t d ht => ?_, fun t d ht => ?_, fun t d k ht hk => ?_, hfl⟩
  · have h1 := key t d ht
    simp only [tyChk, Bool.and_eq_true] at h1
    obtain ⟨h1, _⟩ := h1
    cases hi : P.info? t with
    | none => rw [hi] at h1; cases h1
    | some i =>
      rw [hi] at h1
      simp only [Bool.and_eq_true, beq_iff_eq, decide_eq_true_eq] at h1
      obtain ⟨⟨⟨⟨h2, h3⟩, h4⟩, h5⟩, h6⟩ := h1
      cases hz : i.zero with
      | none => rw [hz] at h4; cases h4
      | some z =>
        rw [hz] at h4
        simp only [Bool.and_eq_true, beq_iff_eq] at h4
        exact ⟨i, z, rfl, h2, h3, hz, zChk_ok G _ _ h4.1.1, h4.1.2, h5, h6⟩
  · have h1 := key t d ht
    simp only [tyChk, Bool.and_eq_true] at h1
    exact undChk_ok h1.2
  · have h1 := key t d ht
    simp only [tyChk, Bool.and_eq_true] at h1
    obtain ⟨h1, _⟩ := h1
    cases hi : P.info? t with
    | none => rw [hi] at h1; cases h1
    | some i =>
      rw [hi] at h1
      simp only [Bool.and_eq_true, beq_iff_eq, decide_eq_true_eq] at h1
      obtain ⟨⟨⟨⟨h2, h3⟩, h4⟩, h5⟩, h6⟩ := h1
      cases hz : i.zero with
      | none => rw [hz] at h4; cases h4
      | some z =>
        rw [hz] at h4
        simp only [Bool.and_eq_true, beq_iff_eq] at h4
        have h7 := h4.2
        rw [hk] at h7
        refine ⟨i, rfl, ?_⟩
        rw [hz]
        cases z <;> simp [zintChk] at h7
        obtain ⟨rfl, rfl⟩ := h7
        rfl
end Go.Proofs.Am
