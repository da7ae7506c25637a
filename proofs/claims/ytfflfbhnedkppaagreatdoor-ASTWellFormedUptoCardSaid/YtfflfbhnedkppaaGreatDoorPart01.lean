/- Part 1 of a proof that the law holds of every input of the given bulk. -/
import Derived.Test.YtfflfbhnedkppaaGreatDoorPart00
set_option autoImplicit false
set_option linter.unusedSimpArgs false
set_option linter.unusedVariables false
set_option linter.unusedSectionVars false
namespace Go.Proofs.Am
open Go.RowKit
/-- What one operation of a drawn region writes. -/
structure Rec where
  dst : Option Nat
  v : V
  ws : Option (Nat × List Cell)
  /-- The slot (and the own slice's key) that an append has used up. -/
  del : Option (Nat × Nat)
def Rec.app (r : Rec) (s : S) : S :=
  { env := match r.dst with
      | some t => (t, r.v) :: match r.del with
        | some p => (p.1, .undef) :: s.env
        | none => s.env
      | none => match r.del with
        | some p => (p.1, .undef) :: s.env
        | none => s.env,
    box := match r.ws with
      | some p => p :: s.box
      | none => s.box }
def V.psite : V → Option Nat
  | .ptr k _ => some k
  | _ => none
def rsOf (G : Ctx) (o : Oper) (s : S) : Option Nat := match o.op with
  | .load _ a => (evalO G s a).psite
  | .store _ a _ => (evalO G s a).psite
  | .call c => match objCall G s c with
    | true => some 1000000
    | false => none
  | _ => none
def V.frzK : Option Nat → V → V
  | none, v => v
  | some k, v => v.freeze k
/-- A slice literal without elements stays the call's own. -/
def emptyLit (o : Oper) : Bool := match o.op with
  | .buildSlice _ n _ => n == 0
  | _ => false
def V.frzO (o : Oper) (k : Option Nat) (v : V) : V := match emptyLit o with
  | true => v
  | false => v.frzK k
def S.onlyAt (s : S) (t k : Nat) : Bool := s.env.all (fun p => p.1 == t || !p.2.site? k) && s.box.all (fun p => p.2.all (fun x => !x.site? k))
def OnlyP (s : S) (t k : Nat) : Prop := (∀ u v, amLook u s.env = some v → u = t ∨ v.site? k = false) ∧ ∀ i cs, amLook i s.box = some cs → ∀ x ∈ cs, x.site? k = false
def onlyOk (e : Eff) (r : Rec) (s : S) : Bool := match r.del with
  | none => true
  | some p => s.onlyAt p.1 p.2 && match e.key with
    | some d => s.fresh d
    | none => true
def recOf (G : Ctx) (o : Oper) (e : Eff) (s : S) : Option Rec := match e.act with
  | .val v => some ⟨o.dst, v.frzO o e.key, none, none⟩
  | .new v k cs => some ⟨o.dst, v, some (k, cs), none⟩
  | .store k off nw => if rsOf G o s = some k then match amLook k s.box with
      | some cs => some ⟨none, .undef, some (k, splice cs off nw), none⟩
      | none => none
    else none
  | .app k j v => match o.op with
    | .call c => match c.args.toList with
      | .tmp t :: _ => match (s.get t).tag? k j with
        | true => some ⟨o.dst, v, none, some (t, k)⟩
        | false => none
      | _ => none
    | _ => none
  | .mput _ _ _ => none
  | .frz _ _ => none
  | .nil _ => none
def Cell.sites : Cell → List Nat
  | .c _ => []
  | .own k _ _ _ _ => [k]
  | .omap k _ _ => [k]
  | .objst _ => [1000000]
def V.sites : V → List Nat
  | .cell x => x.sites
  | .agg cs => cs.flatMap (·.sites)
  | .ptr k _ => [k]
  | .clo _ caps => caps.map (·.1)
  | .at k _ => [k]
  | _ => []
def Rec.sites (r : Rec) : List Nat := r.v.sites ++ match r.ws with
  | some p => p.1 :: p.2.flatMap (·.sites)
  | none => []
/-- What the check of the orders looks at. -/
structure DR where
  rs : Option Nat
  ws : Option Nat
  key : Option Nat
  men : List Nat
  base : Option (Nat × Nat)
theorem Cell.sites_spec {x : Cell} {k : Nat} (h : k ∉ x.sites) : x.site? k = false := by
  cases x with
  | c x => rfl
  | own t j e z r => simp [Cell.sites] at h; simp [Cell.site?]; exact fun e => h e.symm
  | omap t kd es => simp [Cell.sites] at h; simp [Cell.site?]; exact fun e => h e.symm
  | objst p => simp [Cell.sites] at h; simp [Cell.site?]; exact fun e => h e.symm
theorem Cells.sites_spec {l : List Cell} {k : Nat} (h : k ∉ l.flatMap (·.sites)) : ∀ x ∈ l, x.site? k = false := fun x hx => Cell.sites_spec fun hk => h (List.mem_flatMap.2 ⟨x, hx, hk⟩)
theorem V.sites_spec {v : V} {k : Nat} (h : k ∉ v.sites) : v.site? k = false := by
  cases v with
  | cell x => exact Cell.sites_spec h
  | agg cs => simp only [V.site?, List.any_eq_false]; intro x hx; rw [Cells.sites_spec h x hx]; simp
  | tup l => rfl
  | ptr t off => simp [V.sites] at h; simp [V.site?]; exact fun e => h e.symm
  | ref cs => rfl
  | undef => rfl
  | skp => rfl
  | «at» k' b => simp [V.sites] at h; simp [V.site?]; exact fun e => h e.symm
  | clo f caps =>
    simp only [V.sites, List.mem_map, not_exists, not_and] at h
    simp only [V.site?, List.any_eq_false, beq_iff_eq]
    exact fun p hp => h p hp
def S.eqv (s s' : S) : Prop := (∀ t, amLook t s.env = amLook t s'.env) ∧ ∀ k, amLook k s.box = amLook k s'.box
section
variable {P : Program} {G : Ctx} {ok : Fr} {w0 : World} {N : Nat} {β : Nat → Option Nat} {Ω : Nat → Nat → Option Value} {s s' : S} {a : Act} {w w' : World} {Q : X → S → Prop} {ops : Array Oper}
theorem Rel.eqv (h : Rel G ok w0 N β Ω s a w) (he : s.eqv s') : Rel G ok w0 N β Ω s' a w := h.sub ⟨fun t v hv => (he.1 t).trans hv, fun k cs hc => (he.2 k).trans hc⟩
theorem Cell.freeze_same {k : Nat} {x : Cell} (h : x.site? k = false) : x.freeze k = x := by
  cases x with
  | c x => rfl
  | own t j e z rows => simp [Cell.site?] at h; simp [Cell.freeze, h]
  | omap t kd es => simp [Cell.site?] at h; simp [Cell.freeze, h]
  | objst p => simp [Cell.site?] at h; simp [Cell.freeze, h]
theorem Cells.freeze_same {k : Nat} {l : List Cell} (h : ∀ x ∈ l, x.site? k = false) : l.map (·.freeze k) = l := by
  induction l with
  | nil => rfl
  | cons x r ih => rw [List.map_cons, Cell.freeze_same (h x (by simp)), ih (fun y hy => h y (by simp [hy]))]
theorem V.freeze_same {k : Nat} {v : V} (h : v.site? k = false) : v.freeze k = v := by
  cases v with
  | cell x => simp only [V.freeze]; rw [Cell.freeze_same h]
  | agg cs => simp only [V.freeze]; rw [Cells.freeze_same (by simpa [V.site?] using h)]
  | _ => rfl
theorem Cell.tag_of_site {k j : Nat} {x : Cell} (h : x.site? k = false) : x.tag? k j = false := by
  cases x <;> simp_all [Cell.site?, Cell.tag?]
theorem V.tag_of_site {k j : Nat} {v : V} (h : v.site? k = false) : v.tag? k j = false := by
  cases v with
  | cell x => exact Cell.tag_of_site h
  | agg cs =>
    simp only [V.site?, List.any_eq_false] at h
    simp only [V.tag?, List.any_eq_false]
    exact fun x hx => by rw [Cell.tag_of_site (by simpa using h x hx)]; simp
  | _ => rfl
theorem recOf_rel {o : Oper} {e : Eff} {r : Rec} (hR : Rel G ok w0 N β Ω (e.act.run o.dst s) a w) (hf : FreshOk e s) (h : recOf G o e s = some r) (hon : ∀ p, r.del = some p → OnlyP s p.1 p.2) : ∃ Ω', Rel G ok w0 N β Ω' (r.app s) a w := by
  have fin : (e.act.run o.dst s).eqv (r.app s) → ∃ Ω', Rel G ok w0 N β Ω' (r.app s) a w := fun he => ⟨Ω, hR.eqv he⟩
  unfold recOf at h
  split at h
  · rename_i v hv
    injection h with h; subst h
    cases hem : emptyLit o with
    | true =>
      have hfr : v.frzO o e.key = v := by unfold V.frzO; rw [hem]
      rw [hfr] at fin ⊢
      refine fin ?_
      rw [hv]
      refine ⟨fun t => ?_, fun k => ?_⟩ <;> cases hd : o.dst <;> rfl
    | false =>
    have hfr : v.frzO o e.key = v.frzK e.key := by unfold V.frzO; rw [hem]
    rw [hfr] at fin ⊢
    clear hfr
    cases hk : e.key with
    | none =>
      rw [hk] at fin
      refine fin ?_
      rw [hv]
      refine ⟨fun t => ?_, fun k => ?_⟩ <;> cases hd : o.dst <;> rfl
    | some k =>
      unfold FreshOk at hf
      rw [hk, hv] at hf
      have hf : FreshP s k := hf
      rw [hv] at hR
      refine ⟨_, (hR.freeze k).eqv ⟨fun t => ?_, fun i => ?_⟩⟩
      · have hs : (amLook t s.env).map (·.freeze k) = amLook t s.env := by
          cases hl : amLook t s.env with
          | none => rfl
          | some u => rw [Option.map_some, V.freeze_same (hf.1 t u hl)]
        cases hd : o.dst with
        | none =>
          show amLook t (s.env.map fun p => (p.1, p.2.freeze k)) = amLook t s.env
          rw [look_map (V.freeze k)]; exact hs
        | some d =>
          show amLook t (((d, v) :: s.env).map fun p => (p.1, p.2.freeze k)) = amLook t ((d, v.freeze k) :: s.env)
          rw [List.map_cons, look_cons, look_cons, look_map (V.freeze k), hs]
      · have hs : (amLook i s.box).map (·.map (·.freeze k)) = amLook i s.box := by
          cases hl : amLook i s.box with
          | none => rfl
          | some u => rw [Option.map_some, Cells.freeze_same (hf.2 i u hl).2]
        have hb : (s.put o.dst v).box = s.box := by cases o.dst <;> rfl
        show amLook i ((s.put o.dst v).box.map fun p => (p.1, p.2.map (·.freeze k))) = amLook i s.box
        rw [hb, look_map (fun l : List Cell => l.map (·.freeze k))]; exact hs
  · rename_i v k cs hv
    injection h with h; subst h
    refine fin ?_
    rw [hv]
    refine ⟨fun t => ?_, fun k => ?_⟩ <;> cases hd : o.dst <;> rfl
  · rename_i k off nw hv
    split at h
    rotate_left
    · cases h
    split at h
    · rename_i cs hcs
      injection h with h; subst h
      refine fin ?_
      rw [hv]
      refine ⟨fun t => rfl, fun i => ?_⟩
      show amLook i (s.box.map fun p => if p.1 = k then (p.1, splice p.2 off nw) else p) = amLook i ((k, splice cs off nw) :: s.box)
      rw [look_upd k i (fun l => splice l off nw), look_cons]
      by_cases hi : i = k
      · subst hi; rw [if_pos rfl, if_pos rfl, hcs]; rfl
      · rw [if_neg hi, if_neg hi]
    · cases h
  · rename_i k j v hv
    split at h
    rotate_left
    · cases h
    rename_i c ho
    split at h
    rotate_left
    · cases h
    rename_i t r2 hl
    split at h
    rotate_left
    · cases h
    rename_i htag
    injection h with h; subst h
    obtain ⟨h1, h2⟩ := hon _ rfl
    have hbase : (amLook t s.env).map (·.kill k j) = some .undef := by
      unfold S.get at htag
      cases hl2 : amLook t s.env with
      | none => rw [hl2] at htag; cases htag
      | some u => rw [hl2] at htag; simp only [Option.map_some, V.kill]; rw [if_pos (show u.tag? k j = true from htag)]
    have hoth : ∀ u, u ≠ t → (amLook u s.env).map (·.kill k j) = amLook u s.env := by
      intro u hu
      cases hl2 : amLook u s.env with
      | none => rfl
      | some x =>
        have hs := (h1 u x hl2).resolve_left hu
        simp only [Option.map_some, V.kill]
        rw [if_neg (by rw [V.tag_of_site hs]; simp)]
    refine fin ?_
    rw [hv]
    refine ⟨fun u => ?_, fun i => ?_⟩
    · have hk2 : amLook u (s.kill k j).env = amLook u ((t, .undef) :: s.env) := by
        rw [look_cons]
        unfold S.kill
        rw [look_map (fun x : V => x.kill k j)]
        split
        · rename_i e; rw [e]; exact hbase
        · rename_i e; exact hoth u e
      cases hd : o.dst with
      | none => exact hk2
      | some d =>
        show amLook u ((d, v) :: (s.kill k j).env) = amLook u ((d, v) :: (t, .undef) :: s.env)
        rw [look_cons, look_cons, hk2]
    · have hb : ((s.kill k j).put o.dst v).box = (s.kill k j).box := by cases o.dst <;> rfl
      show amLook i ((s.kill k j).put o.dst v).box = amLook i s.box
      rw [hb, kill_box]
      cases hl2 : amLook i s.box with
      | none => rfl
      | some cs =>
        simp only [Option.map_some]
        congr 1
        have : ∀ x ∈ cs, (if x.tag? k j then Cell.c .dead else x) = x := fun x hx => by rw [if_neg (by rw [Cell.tag_of_site (h2 i cs hl2 x hx)]; simp)]
        calc cs.map (fun x => if x.tag? k j then Cell.c .dead else x) = cs.map id := List.map_congr_left this
          _ = cs := List.map_id _
  · cases h
  · cases h
  · cases h
def wantS (ops : Array Oper) (o : Oper) (s : S) : Option Bool := match o.guard with
  | none => some true
  | some (g, want) => match (ops[g]?).map (·.dst) with
    | some (some t) => match s.get t with
      | .cell (.c (.bool b)) => some (b == want)
      | .skp => some false
      | _ => none
    | _ => none
/-- In the state s the operation does r. -/
def StepD (P : Program) (G : Ctx) (ops : Array Oper) (o : Oper) (s : S) (r : Rec) : Prop :=
  (wantS ops o s = some false ∧ r = ⟨o.dst, .skp, none, none⟩) ∨
  (wantS ops o s = some true ∧ ∃ e, effF G o (evalO G s) (fun k => amLook k s.box) = some e ∧ e.obl ∧ e.fact ∧ recOf G o e s = some r) ∨
  (wantS ops o s = some true ∧ ∃ c f args res, o.op = .call c ∧ calleeOf G s c = some f ∧ argsOf G s c.args.toList = some args ∧ Holds P G f args res ∧ (pures G s c.args.toList = true ∨ res.all (·.scalar) = true) ∧ r = ⟨o.dst, resV res, none, none⟩) ∨
  (wantS ops o s = some true ∧ isObjCall G o s = true ∧ ∃ res p', amObj0 P G o (fun s' => s' = s.objPut o.dst res p') s ∧ r = ⟨o.dst, resO res, some (1000000, [.objst p']), none⟩)
structure Agree (G : Ctx) (ops : Array Oper) (o : Oper) (s s' : S) : Prop where
  env : ∀ t ∈ o.looksAt ops, amLook t s.env = amLook t s'.env
  box : wantS ops o s = some true → ∀ k, rsOf G o s = some k → amLook k s.box = amLook k s'.box
theorem Agree.eval {o : Oper} (h : Agree G ops o s s') {x : Operand} (hx : x ∈ o.op.operands) : evalO G s' x = evalO G s x := by
  cases x with
  | tmp t =>
    have : t ∈ o.looksAt ops := by
      unfold Oper.looksAt
      exact List.mem_append_left _ (List.mem_filterMap.2 ⟨.tmp t, by simpa using hx, rfl⟩)
    show S.get s' t = S.get s t
    unfold S.get
    rw [h.env t this]
  | _ => rfl
theorem Agree.want {o : Oper} (h : Agree G ops o s s') : wantS ops o s' = wantS ops o s := by
  unfold wantS
  cases hg : o.guard with
  | none => rfl
  | some gw =>
    obtain ⟨g, want⟩ := gw
    cases ho : ops[g]? with
    | none => simp [ho]
    | some og =>
      cases hd : og.dst with
      | none => simp [ho, hd]
      | some t =>
        have : t ∈ o.looksAt ops := by unfold Oper.looksAt; exact List.mem_append_right _ (by simp [hg, ho, hd])
        have hget : s'.get t = s.get t := by unfold S.get; rw [h.env t this]
        simp only [ho, Option.map_some, hd, hget]
theorem effF_congr {o : Oper} {ρ ρ' : Operand → V} {bx bx' : Nat → Option (List Cell)} (h : ∀ x ∈ o.op.operands, ρ' x = ρ x)
    (hb : ∀ t x k, (o.op = .load t x ∨ ∃ y, o.op = .store t x y) → (ρ x).psite = some k → bx' k = bx k) : effF G o ρ' bx' = effF G o ρ bx := by
  have parts : ∀ ps : Array (Nat × Operand), (∀ x ∈ ps.toList.map (·.2), ρ' x = ρ x) → (ps.toList.map fun p => (p.1, (ρ' p.2).cells)) = (ps.toList.map fun p => (p.1, (ρ p.2).cells)) := fun ps hp =>
    List.map_congr_left fun p hm => by rw [hp p.2 (List.mem_map.2 ⟨p, hm, rfl⟩)]
  obtain ⟨dst, op, type, pos, after, guard⟩ := o
  cases op <;> simp only [Op.operands] at h <;> try rfl
  case move x =>
    have hx := h x (by simp)
    unfold effF; dsimp only
    split
    all_goals (rename_i heq; first | rfl | (cases heq; rw [hx]) | cases heq)
  case assign x =>
    have hx := h x (by simp)
    unfold effF; dsimp only
    split
    all_goals (rename_i heq; first | rfl | (cases heq; rw [hx]) | cases heq)
  case pick c x y => simp only [effF]; rw [h c (by simp), h x (by simp), h y (by simp)]
  case box t x => simp only [effF]; rw [h x (by simp)]
  case build t ps => simp only [effF]; rw [parts ps (fun x hx => h x (by simpa using hx))]
  case buildSlice t n ps => simp only [effF]; rw [parts ps (fun x hx => h x (by simpa using hx))]
  case load t x =>
    simp only [effF]
    rw [h x (by simp)]
    have hb' := hb t x
    generalize ρ x = v at hb'
    cases G.ty t with
    | none => rfl
    | some d =>
      obtain ⟨kk, n, b, z⟩ := d
      cases v with
      | ptr k off => have := hb' k (.inl rfl) rfl; cases kk <;> simp only [loadE, this]
      | ref cs => cases kk <;> cases cs <;> rfl
      | _ => cases kk <;> rfl
  case store t x y =>
    simp only [effF]
    rw [h x (by simp), h y (by simp)]
    have hb' := hb t x
    generalize ρ x = v at hb'
    generalize (ρ y).cells = u
    cases dst with
    | some d => rfl
    | none =>
      simp only
      cases v <;> try (cases G.ty t <;> cases u <;> rfl)
      rename_i k off
      have := hb' k (.inr ⟨y, rfl⟩) rfl
      cases G.ty t <;> cases u <;> simp only [storeE, this]
  case nilCheck x => simp only [effF]; rw [h x (by simp)]
  case binOp op t x y t' => simp only [effF]; rw [h x (by simp), h y (by simp)]
  case unOp op t x => simp only [effF]; rw [h x (by simp)]
  case convert t t' x => simp only [effF]; rw [h x (by simp)]
  case fieldAddr t x i => simp only [effF]; rw [h x (by simp)]
  case indexAddr t x i => simp only [effF]; rw [h x (by simp), h i (by simp)]
  case extract x i => simp only [effF]; rw [h x (by simp)]
  case index t x i => simp only [effF]; rw [h x (by simp), h i (by simp)]
  case makeFunc fn first captured =>
    simp only [effF]
    rw [List.map_congr_left (f := ρ') (g := ρ) (l := first.toList) (fun x hx => h x (by simp; exact .inl (by simpa using hx))), List.map_congr_left (f := ρ') (g := ρ) (l := captured.toList) (fun x hx => h x (by simp; exact .inr (by simpa using hx)))]
  case makeMap t r => cases r <;> rfl
  case lookup t x i c => simp only [effF]; rw [h x (by simp), h i (by simp)]
  case mapUpdate t m k x => cases dst <;> simp only [effF]; rw [h m (by simp), h k (by simp), h x (by simp)]
  case slice t x lo hi mx =>
    cases lo <;> cases hi <;> cases mx <;> try rfl
    rename_i lo hi
    simp only [effF]
    rw [h x (by simp), h lo (by simp), h hi (by simp)]
  case call c =>
    simp only [effF]
    unfold callE
    split
    · rename_i b hb1
      have hargs : ∀ x ∈ c.args.toList, ρ' x = ρ x := fun x hx => h x (by simp [Call.operands]; exact .inr (by simpa using hx))
      obtain ⟨cal, ⟨args⟩, ⟨ts⟩⟩ := c
      simp only at hargs ⊢
      unfold biE
      split <;> first
        | rfl
        | (rw [hargs _ (by simp)]; done)
        | (rw [List.map_congr_left hargs]; done)
        | (rw [hargs _ (by simp), hargs _ (by simp)]; done)
    · rfl
theorem calleeOf_congr {c : Call} (h : ∀ x ∈ c.operands, evalO G s' x = evalO G s x) : calleeOf G s' c = calleeOf G s c := by
  unfold calleeOf
  cases hc : c.callee with
  | value x => simp only []; rw [h x (by simp [Call.operands, hc])]
  | _ => rfl
theorem argsOf_congr {l : List Operand} (h : ∀ x ∈ l, evalO G s' x = evalO G s x) : argsOf G s' l = argsOf G s l ∧ pures G s' l = pures G s l := by
  induction l with
  | nil => exact ⟨rfl, rfl⟩
  | cons x r ih =>
    obtain ⟨h1, h2⟩ := ih (fun y hy => h y (by simp [hy]))
    simp only [argsOf, pures, h x (by simp), h1, h2, and_self]
theorem wanted_of {o : Oper} {b : Bool} (hR : Rel G ok w0 N β Ω s a w) (h : wantS ops o s = some b) : Region.wanted o (yielded ops a.tmps) = b := by
  unfold wantS at h
  unfold Region.wanted
  cases hg : o.guard with
  | none => rw [hg] at h; simpa using h
  | some gw =>
    obtain ⟨g, want⟩ := gw
    rw [hg] at h
    simp only at h ⊢
    split at h
    · rename_i t ht
      split at h
      · rename_i b' hb
        rw [yielded_of hR ht hb]
        simp only [Option.some.injEq] at h
        subst h
        cases b' <;> cases want <;> rfl
      · rename_i hb
        rw [yielded_skp hR ht hb]
        simp only [Option.some.injEq] at h
        subst h
        rfl
      · cases h
    · cases h
theorem calleeV_congr {c : Call} (h : ∀ x ∈ c.operands, evalO G s' x = evalO G s x) : calleeV G s' c = calleeV G s c := by
  unfold calleeV
  cases hc : c.callee with
  | value x => simp only []; rw [h x (by simp [Call.operands, hc])]
  | _ => rfl
theorem objArgs_congr {l : List Operand} (h : ∀ x ∈ l, evalO G s' x = evalO G s x) : objArgs G s' l = objArgs G s l := by
  induction l with
  | nil => rfl
  | cons x r ih => simp only [objArgs, h x (by simp), ih (fun y hy => h y (by simp [hy]))]
theorem objCall_congr {c : Call} (h : ∀ x ∈ c.operands, evalO G s' x = evalO G s x) : objCall G s' c = objCall G s c := by
  unfold objCall
  cases hc : c.callee with
  | value x => simp only []; rw [h x (by simp [Call.operands, hc]), objArgs_congr (fun y hy => h y (by unfold Call.operands; exact Array.mem_append.2 (.inr (by simpa using hy))))]
  | _ => rfl
theorem Agree.isObj {o : Oper} (h : Agree G ops o s s') : isObjCall G o s' = isObjCall G o s := by
  unfold isObjCall
  cases ho : o.op with
  | call c => exact objCall_congr fun x hx => h.eval (by simp only [ho, Op.operands]; exact hx)
  | _ => rfl
theorem amObj0_congr {o : Oper} {res : Option (List A)} {p' : OP} (hw : wantS ops o s = some true) (ho : isObjCall G o s = true) (hag : Agree G ops o s s') (h : amObj0 P G o (fun s2 => s2 = s.objPut o.dst res p') s) : amObj0 P G o (fun s2 => s2 = s'.objPut o.dst res p') s' := by
  unfold amObj0 at h ⊢
  split
  rotate_left
  · split at h
    · rename_i h1 _ _ h2; exact absurd h2 (h1 _)
    · exact h
  rename_i c hc
  rw [hc] at h
  simp only at h
  have hops : ∀ x ∈ c.operands, evalO G s' x = evalO G s x := fun x hx => hag.eval (by simp only [hc, Op.operands]; exact hx)
  obtain ⟨h1, h2⟩ := argsOf_congr (G := G) (s := s) (s' := s') (l := c.args.toList) fun x hx => hops x (by unfold Call.operands; exact Array.mem_append.2 (.inr (by simpa using hx)))
  have hb : amLook 1000000 s'.box = amLook 1000000 s.box := (hag.box hw 1000000 (by
    unfold isObjCall at ho
    rw [hc] at ho
    simp only at ho
    simp only [rsOf, hc, ho])).symm
  rw [h1, hb, h2, calleeV_congr hops]
  split at h
  rotate_left
  · exact h.elim
  split at h
  rotate_left
  · exact h.elim
  refine ⟨h.1, ?_⟩
  have h3 := h.2
  have inj : ∀ res2 p2, s.objPut o.dst res2 p2 = s.objPut o.dst res p' → s'.objPut o.dst res2 p2 = s'.objPut o.dst res p' := by
    intro res2 p2 he
    unfold S.objPut at he ⊢
    simp only [S.mk.injEq, List.cons.injEq, Prod.mk.injEq, and_true, true_and] at he ⊢
    refine ⟨?_, he.2⟩
    cases hd : o.dst with
    | none => rfl
    | some t => rw [hd] at he; simp only [putEnv, List.cons.injEq, Prod.mk.injEq, and_true, true_and] at he ⊢; exact he.1
  generalize calleeV G s c = cv at h3 ⊢
  unfold objK at h3 ⊢
  split at h3
  · obtain ⟨r2, p2, a1, a2⟩ := h3; exact ⟨r2, p2, a1, inj r2 p2 a2⟩
  · obtain ⟨r2, p2, a1, a2⟩ := h3; exact ⟨r2, p2, a1, inj r2 p2 a2⟩
  · obtain ⟨r2, p2, a1, a2⟩ := h3; exact ⟨r2, p2, a1, inj r2 p2 a2⟩
  · exact h3
theorem Agree.rs {o : Oper} (h : Agree G ops o s s') : rsOf G o s' = rsOf G o s := by
  unfold rsOf
  cases ho : o.op with
  | load t x => simp only []; rw [h.eval (by simp [ho, Op.operands])]
  | store t x y => simp only []; rw [h.eval (by simp [ho, Op.operands])]
  | call c => simp only []; rw [objCall_congr fun x hx => h.eval (by simp only [ho, Op.operands]; exact hx)]
  | _ => rfl
theorem recOf_congr {o : Oper} {e : Eff} {r : Rec} (hw : wantS ops o s = some true) (hag : Agree G ops o s s') (h : recOf G o e s = some r) : recOf G o e s' = some r := by
  unfold recOf at h ⊢
  split
  · rename_i hv; rw [hv] at h; exact h
  · rename_i hv; rw [hv] at h; exact h
  · rename_i k off nw hv
    rw [hv] at h
    simp only at h
    split at h
    · rename_i hk
      have h2 : rsOf G o s' = some k := by rw [← hk]; exact hag.rs
      rw [if_pos h2, ← hag.box hw k hk]
      exact h
    · cases h
  · rename_i k j v hv
    rw [hv] at h
    simp only at h ⊢
    split at h
    rotate_left
    · cases h
    rename_i c ho
    split at h
    rotate_left
    · cases h
    rename_i t r2 hl
    have hget : s'.get t = s.get t := hag.eval (x := .tmp t) (by
      simp only [ho, Op.operands]
      unfold Call.operands
      exact Array.mem_append.2 (.inr (by rw [← Array.mem_toList_iff, hl]; simp)))
    rw [hget]
    exact h
  · rename_i hv; rw [hv] at h; exact h
  · rename_i hv; rw [hv] at h; exact h
  · rename_i hv; rw [hv] at h; exact h
/-- What an append uses up is looked at by it. -/
theorem recOf_del {o : Oper} {e : Eff} {r : Rec} (h : recOf G o e s = some r) {p : Nat × Nat} (hp : r.del = some p) : p.1 ∈ o.looksAt ops := by
  unfold recOf at h
  split at h
  · injection h with h; subst h; cases hp
  · injection h with h; subst h; cases hp
  · split at h
    · split at h
      · injection h with h; subst h; cases hp
      · cases h
    · cases h
  · split at h
    rotate_left
    · cases h
    rename_i c ho
    split at h
    rotate_left
    · cases h
    rename_i t r2 hl
    split at h
    rotate_left
    · cases h
    injection h with h; subst h
    injection hp with hp; subst hp
    unfold Oper.looksAt
    refine List.mem_append_left _ (List.mem_filterMap.2 ⟨.tmp t, ?_, rfl⟩)
    simp only [ho, Op.operands]
    unfold Call.operands
    rw [Array.toList_append]
    exact List.mem_append_right _ (by rw [hl]; simp)
  · cases h
  · cases h
  · cases h
end
end Go.Proofs.Am
namespace Go.Proofs.Am
open Go.RowKit
def amOpD (P : Program) (G : Ctx) (o : Oper) (K K' : DR → S → Prop) (s : S) : Prop :=
  match effF G o (evalO G s) (fun k => amLook k s.box) with
  | some e => match recOf G o e s with
    | some r => e.obl ∧ freshOk e s = true ∧ onlyOk e r s = true ∧ (e.fact → K ⟨rsOf G o s, r.ws.map (·.1), e.key, r.sites, r.del⟩ (r.app s))
    | none => False
  | none => match isObjCall G o s with
    | true => amObj P G o (K' ⟨some 1000000, some 1000000, some 1000000, [1000000], none⟩) s
    | false => amCall0 P G o (K' ⟨none, none, none, [], none⟩) s
/-- The lexical run of a drawn region, with what the check of the orders looks at (d: what the last operation left). -/
def amDraw (P : Program) (G : Ctx) : Nat → List (Nat × Option Nat) → List Oper → List DR → (List DR → S → Prop) → DR → S → Prop
  | _, _, [], acc, K, d, s => K (acc ++ [d]) s
  | i, ds, o :: r, acc, K, d, s => match o.guard with
    | none => amOpD P G o (amDraw P G (i + 1) ((i, o.dst) :: ds) r (acc ++ [d]) K) (amDraw P G (i + 1) ((i, o.dst) :: ds) (later r) (acc ++ [d]) K) s
    | some (g, want) => match amLook g ds with
      | some (some t) => match s.get t with
        | .cell (.c (.bool b)) => if b = want then amOpD P G o (amDraw P G (i + 1) ((i, o.dst) :: ds) r (acc ++ [d]) K) (amDraw P G (i + 1) ((i, o.dst) :: ds) (later r) (acc ++ [d]) K) s
          else amDraw P G (i + 1) ((i, o.dst) :: ds) r (acc ++ [d]) K ⟨none, none, none, [], none⟩ (s.put o.dst .skp)
        | .skp => amDraw P G (i + 1) ((i, o.dst) :: ds) r (acc ++ [d]) K ⟨none, none, none, [], none⟩ (s.put o.dst .skp)
        | _ => False
      | _ => False
structure DOk (G : Ctx) (ops : Array Oper) (o : Oper) (s : S) (r : Rec) (d : DR) : Prop where
  rs : wantS ops o s = some true → ∀ k, rsOf G o s = some k → d.rs = some k
  ws : r.ws.map (·.1) = d.ws
  key : wantS ops o s = some true → ∀ e, effF G o (evalO G s) (fun k => amLook k s.box) = some e → ∀ k, e.key = some k → d.key = some k ∧ s.fresh k = true
  men : ∀ k, k ∉ d.men → k ∉ r.sites
  obj : wantS ops o s = some true → isObjCall G o s = true → d.key = some 1000000 ∧ s.objOk = true
  base : r.del = d.base
  only : ∀ p, r.del = some p → s.onlyAt p.1 p.2 = true ∧ p.1 ∈ o.looksAt ops
def Trace (P : Program) (G : Ctx) (ops : Array Oper) : Nat → S → List (Rec × DR) → Prop
  | i, _, [] => ops.size ≤ i
  | i, s, p :: l => (∃ o, ops[i]? = some o ∧ StepD P G ops o s p.1 ∧ DOk G ops o s p.1 p.2) ∧ Trace P G ops (i + 1) (p.1.app s) l
section
variable {P : Program} {G : Ctx} {ok : Fr} {w0 : World} {N : Nat} {β : Nat → Option Nat} {Ω : Nat → Nat → Option Value} {s s' : S} {a : Act} {w w' : World} {Q : X → S → Prop} {ops : Array Oper}
theorem put_app (s : S) (d : Option Nat) (v : V) : s.put d v = (⟨d, v, none, none⟩ : Rec).app s := by cases d <;> rfl
theorem FreshP.kill {k t i : Nat} (h : FreshP s k) : FreshP (s.kill t i) k := by
  refine ⟨fun u v hv => ?_, fun u cs hc => ?_⟩
  · unfold S.kill at hv
    rw [look_map (fun x : V => x.kill t i)] at hv
    obtain ⟨x, hx, rfl⟩ := Option.map_eq_some_iff.1 hv
    have := h.1 u x hx
    unfold V.kill
    split
    · rfl
    · exact this
  · rw [kill_box] at hc
    obtain ⟨x, hx, rfl⟩ := Option.map_eq_some_iff.1 hc
    have := h.2 u x hx
    refine ⟨this.1, fun y hy => ?_⟩
    obtain ⟨z, hz, rfl⟩ := List.mem_map.1 hy
    split
    · rfl
    · exact this.2 z hz
theorem onlyP {t k : Nat} (h : s.onlyAt t k = true) : OnlyP s t k := by
  unfold S.onlyAt at h
  simp only [Bool.and_eq_true, List.all_eq_true] at h
  refine ⟨fun u v hv => ?_, fun i cs hc x hx => ?_⟩
  · have := h.1 _ (look_mem hv)
    simp only [Bool.or_eq_true, beq_iff_eq, Bool.not_eq_true'] at this
    exact this
  · have := h.2 _ (look_mem hc) x hx
    simpa using this
/-- An operation is done in a state that agrees with its lexical one on all that it reads. -/
theorem stepD_exec (hT : TyOk P G) (hng : G.nglob ≤ w0.heap.size) (hR : Rel G ok w0 N β Ω s' a w) {o : Oper} (hd : ∀ d, o.dst = some d → d < N) {j : Nat} (hoj : ops[j]? = some o) {r : Rec} (hs : StepD P G ops o s r)
    (hag : Agree G ops o s s') (hfr : wantS ops o s = some true → ∀ e, effF G o (evalO G s) (fun k => amLook k s.box) = some e → ∀ k, e.key = some k → FreshP s' k) (hfo : wantS ops o s = some true → isObjCall G o s = true → ObjOkP s') (hon : ∀ p, r.del = some p → OnlyP s' p.1 p.2) {rd : Option Nat} {next : Act → World → Prop} {Qx : Exit → Act → World → Prop}
    (hn : ∀ a' w' β' Ω', Rel G ok w0 N β' Ω' (r.app s') a' w' → next a' w') : wpOpIn (FR rd) 0 P ops Qx j next a w := by
  unfold wpOpIn
  simp only [hoj]
  rcases hs with ⟨hw, rfl⟩ | ⟨hw, e, he, hob, hf, hr⟩ | ⟨hw, c, f, args, res, ho, hc, ha, hh, hp, rfl⟩ | ⟨hw, hio, res, p', hob, rfl⟩
  · rw [wanted_of hR (hag.want.trans hw)]
    simp only [Bool.false_eq_true, if_false]
    refine ⟨fun _ _ => trivial, hn _ _ β Ω ?_⟩
    rw [← put_app]
    exact hR.put (v := .skp) hd rfl
  · rw [if_pos (wanted_of hR (hag.want.trans hw))]
    have he' : effF G o (evalO G s') (fun k => amLook k s'.box) = some e := by
      rw [← he]
      refine effF_congr (fun x hx => hag.eval hx) fun t x k ho hk => ?_
      refine (hag.box hw k ?_).symm
      rcases ho with ho | ⟨y, ho⟩ <;> simp only [rsOf, ho, hk]
    have hr' := recOf_congr hw hag hr
    have hfo : FreshOk e s' := by
      unfold FreshOk
      cases hk : e.key with
      | none => trivial
      | some k =>
        have := hfr hw e he k hk
        unfold recOf at hr
        cases hact : e.act with
        | app t i v => exact this.kill
        | nil v => rw [hact] at hr; cases hr
        | _ => exact this
    obtain ⟨_, v, w', β', Ω', hrun, hR2⟩ := eff_sound hT hR hd he' hob hfo
    obtain ⟨Ω3, hR3⟩ := recOf_rel hR2 hfo hr' hon
    have hnd : ∀ c, o.op ≠ .defer c := fun c hc => by simp [effF, hc] at he
    rcases hrun with hrun | ⟨hrun, hv⟩
    · exact win_value hnd hrun (hn _ _ _ _ hR3)
    · subst hv; exact win_skip hnd hrun (hn _ _ _ _ hR3)
  · rw [if_pos (wanted_of hR (hag.want.trans hw))]
    have hops : ∀ x ∈ c.operands, evalO G s' x = evalO G s x := fun x hx => hag.eval (by simp only [ho, Op.operands]; exact hx)
    obtain ⟨h1, h2⟩ := argsOf_congr (G := G) (s := s) (s' := s') (l := c.args.toList) fun x hx => hops x (by unfold Call.operands; exact Array.mem_append.2 (.inr (by simpa using hx)))
    have hk : amCall0 P G o (fun s2 => s2 = s'.put o.dst (resV res)) s' := by
      unfold amCall0
      simp only [ho, calleeOf_congr hops, hc, h1, ha, h2]
      exact ⟨res, hh, hp, rfl⟩
    refine amCall0_sound hR hng hd hk fun s2 w' v h3 h4 => ?_
    subst h3
    rw [put_app] at h4
    exact hn _ _ _ _ h4
  · rw [if_pos (wanted_of hR (hag.want.trans hw))]
    refine amObj0_sound hR hng hd (hfo hw hio) (amObj0_congr hw hio hag hob) fun s2 w' v Ω' h3 h4 => ?_
    subst h3
    exact hn _ _ _ _ h4
theorem resV_sites (res : List A) : (resV res).sites = [] := by
  unfold resV
  split
  · rename_i x
    cases x with
    | c x => rfl
    | agg cs => simp only [A.val, V.sites]; induction cs with
      | nil => rfl
      | cons _ _ ih => simp [Cell.sites]
    | ref cs => rfl
  · rfl
/-- A call of an object is no operation of the plain kind. -/
theorem effF_obj {o : Oper} (h : isObjCall G o s = true) : effF G o (evalO G s) (fun k => amLook k s.box) = none := by
  unfold isObjCall at h
  cases ho : o.op with
  | call c =>
    rw [ho] at h
    simp only [objCall] at h
    cases hc : c.callee with
    | value x => unfold effF callE; rw [ho]; simp only [hc]
    | _ => rw [hc] at h; cases h
  | _ => rw [ho] at h; cases h
theorem amObj0_split {o : Oper} {K : S → Prop} (h : amObj0 P G o K s) : ∃ res p', amObj0 P G o (fun s2 => s2 = s.objPut o.dst res p') s ∧ K (s.objPut o.dst res p') := by
  unfold amObj0 at h
  split at h
  rotate_left
  · exact h.elim
  rename_i c hc
  split at h
  rotate_left
  · exact h.elim
  rename_i args ha
  split at h
  rotate_left
  · exact h.elim
  rename_i p hp
  obtain ⟨h1, h2⟩ := h
  unfold objK at h2
  split at h2
  · rename_i hv; obtain ⟨res, p', a1, a2⟩ := h2; refine ⟨res, p', ?_, a2⟩; unfold amObj0; simp only [hc, ha, hp]; exact ⟨h1, by rw [hv]; exact ⟨res, p', a1, rfl⟩⟩
  · rename_i hv; obtain ⟨res, p', a1, a2⟩ := h2; refine ⟨res, p', ?_, a2⟩; unfold amObj0; simp only [hc, ha, hp]; exact ⟨h1, by rw [hv]; exact ⟨res, p', a1, rfl⟩⟩
  · rename_i hv; obtain ⟨res, p', a1, a2⟩ := h2; refine ⟨res, p', ?_, a2⟩; unfold amObj0; simp only [hc, ha, hp]; exact ⟨h1, by rw [hv]; exact ⟨res, p', a1, rfl⟩⟩
  · exact h2.elim
/-- The lexical run itself, as a thing of the proof. -/
theorem opD_virtual (hT : TyOk P G) (hng : G.nglob ≤ w0.heap.size) (hR : Rel G ok w0 N β Ω s a w) {o : Oper} (hd : ∀ d, o.dst = some d → d < N) {K K' : DR → S → Prop} (hw : wantS ops o s = some true) (hk : amOpD P G o K K' s) :
    ∃ r d, StepD P G ops o s r ∧ DOk G ops o s r d ∧ (K d (r.app s) ∨ K' d (r.app s)) ∧ ∃ β' Ω' a' w', Rel G ok w0 N β' Ω' (r.app s) a' w' := by
  unfold amOpD at hk
  split at hk
  · rename_i e he
    split at hk
    · rename_i r hr
      obtain ⟨h1, h2, hoo, h3⟩ := hk
      have hon : ∀ p, r.del = some p → s.onlyAt p.1 p.2 = true := fun p hp => by
        unfold onlyOk at hoo; rw [hp] at hoo; simp only [Bool.and_eq_true] at hoo; exact hoo.1
      obtain ⟨hf, v, w', β', Ω', _, hR2⟩ := eff_sound hT hR hd he h1 (freshOkP h2)
      obtain ⟨Ω3, hR3⟩ := recOf_rel hR2 (freshOkP h2) hr fun p hp => onlyP (hon p hp)
      refine ⟨r, _, .inr (.inl ⟨hw, e, he, h1, hf, hr⟩), ⟨fun _ k hk => hk, rfl, fun _ e' he' k hk => ?_, fun k hk => hk, fun _ hio => absurd he (by rw [effF_obj hio]; simp), rfl, fun p hp => ⟨hon p hp, recOf_del hr hp⟩⟩, .inl (h3 hf), β', Ω3, _, w', hR3⟩
      rw [he] at he'
      injection he' with he'
      subst he'
      refine ⟨hk, ?_⟩
      unfold freshOk at h2
      rw [hk] at h2
      unfold recOf at hr
      cases hact : e.act with
      | app t i v =>
        obtain ⟨p, hp⟩ : ∃ p, r.del = some p := by
          rw [hact] at hr
          simp only at hr
          split at hr
          rotate_left
          · cases hr
          split at hr
          rotate_left
          · cases hr
          split at hr
          rotate_left
          · cases hr
          injection hr with hr; subst hr
          exact ⟨_, rfl⟩
        unfold onlyOk at hoo
        rw [hp, hk] at hoo
        simp only [Bool.and_eq_true] at hoo
        exact hoo.2
      | nil v => rw [hact] at hr; cases hr
      | _ => rw [hact] at h2; exact h2
    · exact hk.elim
  · rename_i he
    split at hk
    · rename_i hio
      have hk2 := hk
      obtain ⟨hok, hk0⟩ := hk
      obtain ⟨res, p', hk1, hK⟩ := amObj0_split hk0
      refine ⟨_, _, .inr (.inr (.inr ⟨hw, hio, res, p', hk1, rfl⟩)), ⟨fun _ k hk => ?_, rfl, fun _ e' he' => (by rw [he] at he'; cases he'), fun k hk => ?_, fun _ _ => ⟨rfl, hok⟩, rfl, fun p hp => by cases hp⟩, .inr hK, ?_⟩
      · unfold isObjCall at hio
        unfold rsOf at hk
        cases ho : o.op with
        | call c => rw [ho] at hio hk; simp only at hio hk; rw [hio] at hk; exact hk
        | _ => rw [ho] at hio; cases hio
      · have : (resO res).sites = [] := by
          cases res with
          | none => rfl
          | some l => exact resV_sites l
        simp only [Rec.sites, this, List.nil_append, List.flatMap_cons, List.flatMap_nil, List.append_nil, Cell.sites]
        simp only [List.mem_cons, List.not_mem_nil, or_false] at hk ⊢
        omega
      · obtain ⟨a', w', β', Ω', h5⟩ := wpIn_exists (amObj0_sound (r := none) (Qx := fun _ _ _ => False) (next := fun a' w' => ∃ β' Ω', Rel G ok w0 N β' Ω' ((⟨o.dst, resO res, some (1000000, [.objst p']), none⟩ : Rec).app s) a' w') hR hng hd (objOkP hok) hk1 (fun s2 w' v Ω' h3 h4 => by subst h3; exact ⟨_, _, h4⟩))
        exact ⟨β', Ω', a', w', h5⟩
    rename_i hio
    unfold amCall0 at hk
    split at hk
    · rename_i c ho
      split at hk
      · rename_i f hf
        split at hk
        · rename_i args hargs
          obtain ⟨res, hh, hp, hK⟩ := hk
          rw [put_app] at hK
          refine ⟨_, _, .inr (.inr (.inl ⟨hw, c, f, args, res, ho, hf, hargs, hh, hp, rfl⟩)), ⟨fun _ k hk => ?_, rfl, fun _ e' he' => (by rw [he] at he'; cases he'), fun k _ hk => ?_, fun _ h => absurd h (by rw [hio]; simp), rfl, fun p hp => by cases hp⟩, .inr hK, ?_⟩
          · unfold isObjCall at hio; rw [ho] at hio; simp only at hio; simp only [rsOf, ho, hio] at hk; cases hk
          · have : (⟨o.dst, resV res, none, none⟩ : Rec).sites = [] := by
              simp only [Rec.sites, List.append_nil]
              exact resV_sites res
            rw [this] at hk
            cases hk
          · have hwp : o.wpIn (FR none) 0 P a w (fun a' w' => ∃ β' Ω', Rel G ok w0 N β' Ω' ((⟨o.dst, resV res, none, none⟩ : Rec).app s) a' w') (fun _ _ _ => False) := by
              refine amCall0_sound (K := fun s2 => s2 = s.put o.dst (resV res)) hR hng hd ?_ fun s2 w' v h3 h4 => ?_
              · unfold amCall0
                simp only [ho, hf, hargs]
                exact ⟨res, hh, hp, rfl⟩
              · subst h3
                rw [put_app] at h4
                exact ⟨_, _, h4⟩
            obtain ⟨a', w', β', Ω', h5⟩ := wpIn_exists hwp
            exact ⟨β', Ω', a', w', h5⟩
        · exact hk.elim
      · exact hk.elim
    · exact hk.elim
theorem draw_virtual (hT : TyOk P G) (hng : G.nglob ≤ w0.heap.size) {K : List DR → S → Prop} : ∀ (l : List Oper) (i : Nat) (ds : List (Nat × Option Nat)) (acc : List DR) (d0 : DR) (s : S) (a : Act) (w : World) (β : Nat → Option Nat) (Ω : Nat → Nat → Option Value), (∀ j, l[j]? = ops[i + j]?) →
    (∀ j d, amLook j ds = some d → (ops[j]?).map (·.dst) = some d) → l.all (dstIn N) = true → Rel G ok w0 N β Ω s a w → amDraw P G i ds l acc K d0 s →
      ∃ tr : List (Rec × DR), Trace P G ops i s tr ∧ tr.length = l.length ∧ K (acc ++ [d0] ++ tr.map (·.2)) (tr.foldl (fun s p => p.1.app s) s) := by
  intro l
  induction l with
  | nil =>
    intro i ds acc d0 s a w β Ω hl _ _ _ hk
    refine ⟨[], ?_, rfl, by simpa [amDraw] using hk⟩
    have := hl 0
    simp only [List.getElem?_nil, Nat.add_zero] at this
    exact Array.getElem?_eq_none_iff.1 this.symm
  | cons o r ih =>
    intro i ds acc d0 s a w β Ω hl hds hall hR hk
    have ho : ops[i]? = some o := by have := hl 0; simpa using this.symm
    have hl' : ∀ j, r[j]? = ops[i + 1 + j]? := fun j => by have := hl (j + 1); simpa [Nat.add_assoc, Nat.add_comm 1 j] using this
    have hds' : ∀ j d, amLook j ((i, o.dst) :: ds) = some d → (ops[j]?).map (·.dst) = some d := by
      intro j d hj
      rw [look_cons] at hj
      split at hj
      · rename_i e; subst e; rw [ho]; simpa using hj
      · exact hds j d hj
    simp only [List.all_cons, Bool.and_eq_true] at hall
    have hd : ∀ d, o.dst = some d → d < N := by
      intro d hd; have := hall.1; rw [dstIn, hd] at this; simpa using this
    have fin : ∀ (r1 : Rec) (d : DR), StepD P G ops o s r1 → DOk G ops o s r1 d → (∃ β' Ω' a' w', Rel G ok w0 N β' Ω' (r1.app s) a' w') → amDraw P G (i + 1) ((i, o.dst) :: ds) r (acc ++ [d0]) K d (r1.app s) →
        ∃ tr : List (Rec × DR), Trace P G ops i s tr ∧ tr.length = r.length + 1 ∧ K (acc ++ [d0] ++ tr.map (·.2)) (tr.foldl (fun s p => p.1.app s) s) := by
      intro r1 d h1 h2 ⟨β', Ω', a', w', h3⟩ h4
      obtain ⟨tr, t1, t2, t3⟩ := ih _ _ _ _ _ a' w' β' Ω' hl' hds' hall.2 h3 h4
      exact ⟨(r1, d) :: tr, ⟨⟨o, ho, h1, h2⟩, t1⟩, by simp [t2], by simpa using t3⟩
    have run : wantS ops o s = some true → amOpD P G o (amDraw P G (i + 1) ((i, o.dst) :: ds) r (acc ++ [d0]) K) (amDraw P G (i + 1) ((i, o.dst) :: ds) (later r) (acc ++ [d0]) K) s →
        ∃ tr : List (Rec × DR), Trace P G ops i s tr ∧ tr.length = r.length + 1 ∧ K (acc ++ [d0] ++ tr.map (·.2)) (tr.foldl (fun s p => p.1.app s) s) := by
      intro hw hop
      obtain ⟨r1, d, h1, h2, h3, h4⟩ := opD_virtual hT hng hR hd hw hop
      exact fin r1 d h1 h2 h4 (by rcases h3 with h3 | h3 <;> exact h3)
    simp only [amDraw] at hk
    split at hk
    · rename_i hg
      exact run (by simp [wantS, hg]) hk
    · rename_i g want hg
      split at hk
      · rename_i t ht
        split at hk
        · rename_i b hb
          have hw : wantS ops o s = some (b == want) := by simp only [wantS, hg, hds g _ ht, hb]
          split at hk
          · rename_i e; exact run (by rw [hw, e]; simp) hk
          · rename_i e
            have hw' : wantS ops o s = some false := by rw [hw]; simp [e]
            rw [put_app] at hk
            refine fin _ _ (.inl ⟨hw', rfl⟩) ⟨fun h => (by rw [hw'] at h; cases h), rfl, fun h => (by rw [hw'] at h; cases h), fun k _ hk => (by cases hk), fun h => (by rw [hw'] at h; cases h), rfl, fun p hp => by cases hp⟩ ⟨β, Ω, a.put o.dst undef, w, ?_⟩ hk
            rw [← put_app]
            exact hR.put (x := undef) (v := .skp) hd rfl
        · rename_i hb
          have hw' : wantS ops o s = some false := by simp only [wantS, hg, hds g _ ht, hb]
          rw [put_app] at hk
          refine fin _ _ (.inl ⟨hw', rfl⟩) ⟨fun h => (by rw [hw'] at h; cases h), rfl, fun h => (by rw [hw'] at h; cases h), fun k _ hk => (by cases hk), fun h => (by rw [hw'] at h; cases h), rfl, fun p hp => by cases hp⟩ ⟨β, Ω, a.put o.dst undef, w, ?_⟩ hk
          rw [← put_app]
          exact hR.put (x := undef) (v := .skp) hd rfl
        · exact hk.elim
      · exact hk.elim
end
end Go.Proofs.Am
namespace Go.Proofs.Am
open Go.RowKit
/-- What lies ahead of an operation, as the bits of a number. -/
def ancStep (tab : List Nat) (m : Nat) (e : Edge) : Nat := if Region.binds .any e then m ||| (1 <<< e.on) ||| tab.getD e.on 0 else m
def ancOf (o : Oper) (tab : List Nat) : Nat := o.after.toList.foldl (ancStep tab) 0
def ancTab : List Oper → List Nat → List Nat
  | [], acc => acc
  | o :: r, acc => ancTab r (acc ++ [ancOf o acc])
def siteApart (di dj : DR) : Bool :=
  (match di.ws with
   | some k => dj.rs != some k && dj.ws != some k && !dj.men.contains k
   | none => true) &&
  (match dj.ws with
   | some k => di.rs != some k
   | none => true) &&
  (match di.key with
   | some k => !dj.men.contains k && dj.ws != some k
   | none => true)
/-- Neither uses up what the other looks at or holds. -/
def baseApart (ops : Array Oper) (oi oj : Oper) (di dj : DR) : Bool :=
  (match di.base with
   | some p => !(oj.looksAt ops).contains p.1 && !dj.men.contains p.2
   | none => true) &&
  (match dj.base with
   | some p => !(oi.looksAt ops).contains p.1 && !di.men.contains p.2
   | none => true)
def baseLate (oi : Oper) (dj di : DR) : Bool := match dj.base with
  | some p => !di.men.contains p.2 || (di.ws.isNone && oi.dst == some p.1)
  | none => true
def keyLate (dj di : DR) : Bool := match dj.key with
  | some k => !di.men.contains k && di.ws != some k
  | none => true
def pairChk (ops : Array Oper) (tab : List Nat) (drs : List DR) (i j : Nat) : Bool :=
  match ops[i]?, ops[j]?, drs[i]?, drs[j]? with
  | some oi, some oj, some di, some dj => ((oi.apart ops oj && siteApart di dj && baseApart ops oi oj di dj) || (tab.getD j 0).testBit i) && keyLate dj di && baseLate oi dj di
  | _, _, _, _ => false
def rowChk (ops : Array Oper) (tab : List Nat) (j : Nat) : Bool := match ops[j]? with
  | some o => tab.getD j 0 == ancOf o tab && o.after.toList.all fun e => !Region.binds .any e || decide (e.on < j)
  | none => true
def drawChk (ops : Array Oper) (drs : List DR) : Bool :=
  (List.range ops.size).all fun j => rowChk ops (ancTab ops.toList []) j && (List.range j).all fun i => pairChk ops (ancTab ops.toList []) drs i j
theorem ancOf_bits {tab : List Nat} {i : Nat} : ∀ (l : List Edge) (m : Nat), (l.foldl (ancStep tab) m).testBit i = true → m.testBit i = true ∨ ∃ e ∈ l, Region.binds .any e = true ∧ (i = e.on ∨ (tab.getD e.on 0).testBit i = true) := by
  intro l
  induction l with
  | nil => intro m h; exact .inl h
  | cons e r ih =>
    intro m h
    rcases ih _ h with h1 | ⟨e', h1, h2⟩
    · unfold ancStep at h1
      split at h1
      · rename_i hb
        simp only [Nat.testBit_or, Bool.or_eq_true] at h1
        rcases h1 with (h1 | h1) | h1
        · exact .inl h1
        · rw [Nat.one_shiftLeft, Nat.testBit_two_pow] at h1
          exact .inr ⟨e, by simp, hb, .inl (by simpa using Eq.symm (of_decide_eq_true h1))⟩
        · exact .inr ⟨e, by simp, hb, .inr h1⟩
      · exact .inl h1
    · exact .inr ⟨e', by simp [h1], h2⟩
/-- The set is closed under what lies ahead. -/
def Cl (ops : Array Oper) (D : Nat → Bool) : Prop := ∀ j o, ops[j]? = some o → D j = true → ∀ e ∈ o.after, Region.binds .any e = true → D e.on = true
def Rdy (ops : Array Oper) (D : Nat → Bool) (j : Nat) : Prop := ∀ o, ops[j]? = some o → ∀ e ∈ o.after, Region.binds .any e = true → D e.on = true
theorem Cl.rdy {ops : Array Oper} {D : Nat → Bool} {j : Nat} (h : Cl ops D) (hj : D j = true) : Rdy ops D j := fun o ho => h j o ho hj
theorem anc_sound {ops : Array Oper} {tab : List Nat} {D : Nat → Bool} (hcl : Cl ops D) (hrow : ∀ j, j < ops.size → rowChk ops tab j = true) : ∀ (j i : Nat), j < ops.size → Rdy ops D j → (tab.getD j 0).testBit i = true → D i = true := by
  intro j
  induction j using Nat.strongRecOn with
  | _ j ih =>
    intro i hj hr hb
    have h1 := hrow j hj
    unfold rowChk at h1
    cases ho : ops[j]? with
    | none => rw [Array.getElem?_eq_none_iff] at ho; omega
    | some o =>
      rw [ho] at h1
      simp only [Bool.and_eq_true, beq_iff_eq, List.all_eq_true, Bool.or_eq_true, Bool.not_eq_true', decide_eq_true_eq] at h1
      obtain ⟨h2, h3⟩ := h1
      rw [h2] at hb
      rcases ancOf_bits _ _ hb with h4 | ⟨e, h4, h5, h6⟩
      · simp at h4
      · have hlt : e.on < j := (h3 e h4).resolve_left (by simp [h5])
        have hD := hr o ho e (by simpa using h4) h5
        rcases h6 with rfl | h6
        · exact hD
        · exact ih e.on hlt i (by omega) (hcl.rdy hD) h6
/-- What a place holds, of the writers in D below n: the last one's. -/
def valW {α : Type} (W : Nat → Option α) (base : Option α) (D : Nat → Bool) : Nat → Option α
  | 0 => base
  | n + 1 => match W n with
    | some x => if D n = true then some x else valW W base D n
    | none => valW W base D n
theorem valW_agree {α : Type} {W : Nat → Option α} {b : Option α} {D D' : Nat → Bool} : ∀ {n : Nat}, (∀ i, i < n → W i ≠ none → D i = D' i) → valW W b D n = valW W b D' n := by
  intro n
  induction n with
  | zero => intro _; rfl
  | succ n ih =>
    intro h
    have := ih fun i hi => h i (by omega)
    simp only [valW]
    cases hw : W n with
    | none => exact this
    | some x => simp only [h n (by omega) (by simp [hw]), this]
theorem valW_lt {α : Type} {W : Nat → Option α} {b : Option α} {j : Nat} : ∀ {n : Nat}, j ≤ n → valW W b (fun i => decide (i < j)) n = valW W b (fun _ => true) j := by
  intro n
  induction n with
  | zero => intro h; obtain rfl : j = 0 := (by omega); rfl
  | succ n ih =>
    intro h
    by_cases hj : j = n + 1
    · subst hj
      exact valW_agree fun i hi _ => by simp [hi]
    · have := ih (by omega)
      simp only [valW]
      cases hw : W n with
      | none => exact this
      | some x => simp only [show ¬ n < j by omega, decide_false, Bool.false_eq_true, if_false, this]
theorem valW_last {α : Type} {W : Nat → Option α} {b : Option α} {D : Nat → Bool} {j : Nat} {x : α} (hx : W j = some x) (hj : D j = true) : ∀ {n : Nat}, j < n → (∀ i, j < i → i < n → W i ≠ none → D i = false) → valW W b D n = some x := by
  intro n
  induction n with
  | zero => intro h; omega
  | succ n ih =>
    intro h1 h2
    simp only [valW]
    by_cases hn : j = n
    · subst hn; simp only [hx, hj, if_true]
    · have := ih (by omega) fun i h3 h4 => h2 i h3 (by omega)
      cases hw : W n with
      | none => exact this
      | some y => simp only [h2 n (by omega) (by omega) (by simp [hw]), Bool.false_eq_true, if_false, this]
def Wt (tr : List (Rec × DR)) (t n : Nat) : Option V := match tr[n]? with
  | some p => if p.1.dst = some t then some p.1.v else if p.1.del.map (·.1) = some t then some .undef else none
  | none => none
def Wb (tr : List (Rec × DR)) (k n : Nat) : Option (List Cell) := match tr[n]? with
  | some p => match p.1.ws with
    | some q => if q.1 = k then some q.2 else none
    | none => none
  | none => none
def stN (s : S) (tr : List (Rec × DR)) (n : Nat) : S := (tr.take n).foldl (fun s p => p.1.app s) s
theorem stN_succ {s : S} {tr : List (Rec × DR)} {n : Nat} {p : Rec × DR} (h : tr[n]? = some p) : stN s tr (n + 1) = p.1.app (stN s tr n) := by
  unfold stN
  rw [List.take_add_one, h]
  simp
theorem app_env (r : Rec) (s : S) (t : Nat) : amLook t (r.app s).env = if r.dst = some t then some r.v else if r.del.map (·.1) = some t then some .undef else amLook t s.env := by
  unfold Rec.app
  cases hp : r.del with
  | none =>
    cases hd : r.dst with
    | none => simp
    | some d =>
      by_cases h : t = d
      · subst h; simp [look_cons]
      · have h' : ¬ d = t := fun e => h e.symm
        simp [look_cons, h, h']
  | some p =>
    cases hd : r.dst with
    | none =>
      by_cases h2 : t = p.1
      · subst h2; simp [look_cons]
      · have h2' : ¬ p.1 = t := fun e => h2 e.symm
        simp [look_cons, h2, h2']
    | some d =>
      by_cases h : t = d
      · subst h; simp [look_cons]
      · have h' : ¬ d = t := fun e => h e.symm
        by_cases h2 : t = p.1
        · subst h2; simp [look_cons, h, h']
        · have h2' : ¬ p.1 = t := fun e => h2 e.symm
          simp [look_cons, h, h', h2, h2']
theorem app_box (r : Rec) (s : S) (k : Nat) : amLook k (r.app s).box = match r.ws with
    | some q => if q.1 = k then some q.2 else amLook k s.box
    | none => amLook k s.box := by
  unfold Rec.app
  cases hd : r.ws with
  | none => rfl
  | some q =>
    obtain ⟨q1, q2⟩ := q
    by_cases h : k = q1
    · subst h; simp [look_cons]
    · have h' : ¬ q1 = k := fun e => h e.symm
      simp [look_cons, h, h']
theorem stN_env {s : S} {tr : List (Rec × DR)} (t : Nat) : ∀ {n : Nat}, n ≤ tr.length → amLook t (stN s tr n).env = valW (Wt tr t) (amLook t s.env) (fun _ => true) n := by
  intro n
  induction n with
  | zero => intro _; simp [stN, valW]
  | succ n ih =>
    intro h
    have hp : tr[n]? = some (tr[n]'(by omega)) := List.getElem?_eq_getElem (by omega)
    rw [stN_succ hp, app_env, ih (by omega)]
    simp only [valW, Wt, hp]
    split
    · simp
    · split
      · simp
      · rfl
theorem stN_box {s : S} {tr : List (Rec × DR)} (k : Nat) : ∀ {n : Nat}, n ≤ tr.length → amLook k (stN s tr n).box = valW (Wb tr k) (amLook k s.box) (fun _ => true) n := by
  intro n
  induction n with
  | zero => intro _; simp [stN, valW]
  | succ n ih =>
    intro h
    have hp : tr[n]? = some (tr[n]'(by omega)) := List.getElem?_eq_getElem (by omega)
    rw [stN_succ hp, app_box, ih (by omega)]
    simp only [valW, Wb, hp]
    cases hw : (tr[n]'(by omega)).1.ws with
    | none => rfl
    | some q =>
      simp only
      split
      · simp
      · rfl
theorem trace_get {P : Program} {G : Ctx} {ops : Array Oper} : ∀ {tr : List (Rec × DR)} {i : Nat} {s : S}, Trace P G ops i s tr → ∀ {j : Nat} {p : Rec × DR}, tr[j]? = some p → ∃ o, ops[i + j]? = some o ∧ StepD P G ops o (stN s tr j) p.1 ∧ DOk G ops o (stN s tr j) p.1 p.2 := by
  intro tr
  induction tr with
  | nil => intro i s _ j p h; simp at h
  | cons q r ih =>
    intro i s h j p hp
    cases j with
    | zero =>
      simp at hp; subst hp
      obtain ⟨o, h1, h2, h3⟩ := h.1
      exact ⟨o, h1, by simpa [stN] using h2, by simpa [stN] using h3⟩
    | succ j =>
      simp at hp
      obtain ⟨o, h1, h2, h3⟩ := ih h.2 hp
      refine ⟨o, by rw [← h1]; congr 1; omega, ?_, ?_⟩ <;> simpa [stN] using by assumption
theorem mem_stN {s : S} {tr : List (Rec × DR)} : ∀ {n : Nat}, (∀ x ∈ s.env, x ∈ (stN s tr n).env) ∧ ∀ x ∈ s.box, x ∈ (stN s tr n).box := by
  intro n
  induction n with
  | zero => simp [stN]
  | succ n ih =>
    cases hp : tr[n]? with
    | none =>
      have : stN s tr (n + 1) = stN s tr n := by unfold stN; rw [List.take_add_one, hp]; simp
      rw [this]; exact ih
    | some p =>
      rw [stN_succ hp]
      refine ⟨fun x hx => ?_, fun x hx => ?_⟩
      · have := ih.1 x hx; unfold Rec.app; cases p.1.dst <;> cases p.1.del <;> simp [this]
      · have := ih.2 x hx; unfold Rec.app; cases p.1.ws <;> simp [this]
theorem fresh_stN {s : S} {tr : List (Rec × DR)} {n k : Nat} (h : (stN s tr n).fresh k = true) : FreshP s k := by
  obtain ⟨h1, h2⟩ := mem_stN (s := s) (tr := tr) (n := n)
  unfold S.fresh at h
  simp only [Bool.and_eq_true, List.all_eq_true] at h
  refine ⟨fun t v hv => ?_, fun t cs hc => ?_⟩
  · simpa using h.1 _ (h1 _ (look_mem hv))
  · have := h.2 _ (h2 _ (look_mem hc)); simpa using this
theorem only_stN {s : S} {tr : List (Rec × DR)} {n t k : Nat} (h : (stN s tr n).onlyAt t k = true) : OnlyP s t k := by
  obtain ⟨h1, h2⟩ := mem_stN (s := s) (tr := tr) (n := n)
  unfold S.onlyAt at h
  simp only [Bool.and_eq_true, List.all_eq_true] at h
  refine ⟨fun u v hv => ?_, fun i cs hc x hx => ?_⟩
  · have := h.1 _ (h1 _ (look_mem hv))
    simp only [Bool.or_eq_true, beq_iff_eq, Bool.not_eq_true'] at this
    exact this
  · have := h.2 _ (h2 _ (look_mem hc)) x hx
    simpa using this
theorem objOk_stN {s : S} {tr : List (Rec × DR)} {n : Nat} (h : (stN s tr n).objOk = true) : ObjOkP s := by
  obtain ⟨h1, h2⟩ := mem_stN (s := s) (tr := tr) (n := n)
  unfold S.objOk at h
  simp only [Bool.and_eq_true, List.all_eq_true] at h
  refine ⟨fun t v hv => ?_, fun t cs hc ht x hx => ?_⟩
  · simpa using h.1 _ (h1 _ (look_mem hv))
  · have := h.2 _ (h2 _ (look_mem hc))
    simp only [Bool.or_eq_true, beq_iff_eq, List.all_eq_true] at this
    rcases this with h3 | h3
    · exact absurd h3 ht
    · simpa using h3 x hx
end Go.Proofs.Am
namespace Go.Proofs.Am
open Go.RowKit
theorem valW_some {α : Type} {W : Nat → Option α} {b : Option α} {D : Nat → Bool} {x : α} : ∀ {n : Nat}, valW W b D n = some x → b = some x ∨ ∃ i, i < n ∧ D i = true ∧ W i = some x := by
  intro n
  induction n with
  | zero => intro h; exact .inl h
  | succ n ih =>
    intro h
    simp only [valW] at h
    have go : valW W b D n = some x → b = some x ∨ ∃ i, i < n + 1 ∧ D i = true ∧ W i = some x := fun h => by
      rcases ih h with h | ⟨i, h1, h2⟩
      · exact .inl h
      · exact .inr ⟨i, by omega, h2⟩
    split at h
    · rename_i y hy
      split at h
      · rename_i hd; exact .inr ⟨n, by omega, hd, hy.trans h⟩
      · exact go h
    · exact go h
def cntN (D : Nat → Bool) : Nat → Nat
  | 0 => 0
  | n + 1 => cntN D n + (if D n = true then 0 else 1)
theorem cntN_zero {D : Nat → Bool} : ∀ {n : Nat}, cntN D n = 0 → ∀ i, i < n → D i = true := by
  intro n
  induction n with
  | zero => intro _ i h; omega
  | succ n ih =>
    intro h i hi
    simp only [cntN] at h
    by_cases hn : D n = true
    · by_cases e : i = n
      · rw [e]; exact hn
      · exact ih (by omega) i (by omega)
    · rw [if_neg hn] at h; omega
theorem cntN_set {D D' : Nat → Bool} {j : Nat} (h1 : D j = false) (h2 : D' j = true) (h3 : ∀ i, i ≠ j → D' i = D i) : ∀ {n : Nat}, cntN D' n + (if j < n then 1 else 0) = cntN D n := by
  intro n
  induction n with
  | zero => simp [cntN]
  | succ n ih =>
    simp only [cntN]
    by_cases e : n = j
    · subst e
      rw [h1, h2, if_neg (Nat.lt_irrefl n)] at *
      simp
      omega
    · rw [h3 n e]
      by_cases hj : j < n
      · simp only [hj, show j < n + 1 by omega, if_true] at *; omega
      · simp only [hj, show ¬ j < n + 1 by omega, if_false] at *; omega
section
variable {P : Program} {G : Ctx} {ok : Fr} {w0 : World} {N : Nat} {ops : Array Oper}
theorem stepD_dst {o : Oper} {s : S} {r : Rec} (h : StepD P G ops o s r) {t : Nat} (ht : r.dst = some t) : o.dst = some t := by
  rcases h with ⟨_, rfl⟩ | ⟨_, e, he, _, _, hr⟩ | ⟨_, c, f, args, res, _, _, _, _, _, rfl⟩ | ⟨_, _, res, p', _, rfl⟩
  · exact ht
  · unfold recOf at hr
    split at hr
    · injection hr with hr; subst hr; exact ht
    · injection hr with hr; subst hr; exact ht
    · split at hr
      · split at hr
        · injection hr with hr; subst hr; cases ht
        · cases hr
      · cases hr
    · split at hr
      rotate_left
      · cases hr
      split at hr
      rotate_left
      · cases hr
      split at hr
      rotate_left
      · cases hr
      injection hr with hr; subst hr; exact ht
    · cases hr
    · cases hr
    · cases hr
  · exact ht
  · exact ht
structure DInv (ops : Array Oper) (s0 : S) (tr : List (Rec × DR)) (D : Nat → Bool) (s' : S) : Prop where
  cl : Cl ops D
  env : ∀ t, amLook t s'.env = valW (Wt tr t) (amLook t s0.env) D tr.length
  box : ∀ k, amLook k s'.box = valW (Wb tr k) (amLook k s0.box) D tr.length
structure Chk (ops : Array Oper) (tab : List Nat) (tr : List (Rec × DR)) : Prop where
  row : ∀ j, j < ops.size → rowChk ops tab j = true
  pair : ∀ i j, i < j → j < ops.size → pairChk ops tab (tr.map (·.2)) i j = true
theorem pair_spec {tab : List Nat} {tr : List (Rec × DR)} {i j : Nat} (h : pairChk ops tab (tr.map (·.2)) i j = true) {oi oj : Oper} {pi pj : Rec × DR} (hi : ops[i]? = some oi) (hj : ops[j]? = some oj) (hpi : tr[i]? = some pi) (hpj : tr[j]? = some pj) :
    ((oi.apart ops oj = true ∧ siteApart pi.2 pj.2 = true ∧ baseApart ops oi oj pi.2 pj.2 = true) ∨ (tab.getD j 0).testBit i = true) ∧ keyLate pj.2 pi.2 = true ∧ baseLate oi pj.2 pi.2 = true := by
  unfold pairChk at h
  simpa [hi, hj, List.getElem?_map, hpi, hpj, Bool.and_eq_true, Bool.or_eq_true, and_assoc] using h
theorem Wt_some {tr : List (Rec × DR)} {t n : Nat} {v : V} (h : Wt tr t n = some v) : ∃ p, tr[n]? = some p ∧ ((p.1.dst = some t ∧ p.1.v = v) ∨ (p.1.dst ≠ some t ∧ p.1.del.map (·.1) = some t ∧ v = .undef)) := by
  unfold Wt at h
  split at h
  · rename_i p hp
    split at h
    · rename_i hd; injection h with h; exact ⟨p, hp, .inl ⟨hd, h⟩⟩
    · rename_i hnd
      split at h
      · rename_i hd; injection h with h; exact ⟨p, hp, .inr ⟨hnd, hd, h.symm⟩⟩
      · cases h
  · cases h
theorem Wb_some {tr : List (Rec × DR)} {k n : Nat} {cs : List Cell} (h : Wb tr k n = some cs) : ∃ p, tr[n]? = some p ∧ p.1.ws = some (k, cs) := by
  unfold Wb at h
  split at h
  · rename_i p hp
    split at h
    · rename_i q hq
      split at h
      · rename_i hk
        injection h with h
        refine ⟨p, hp, ?_⟩
        rw [hq, ← hk, ← h]
      · cases h
    · cases h
  · cases h
theorem del_looks {o : Oper} {s : S} {p : Rec × DR} (h : DOk G ops o s p.1 p.2) {t : Nat} (hd : p.1.del.map (·.1) = some t) : t ∈ o.looksAt ops := by
  obtain ⟨q, hq, rfl⟩ := Option.map_eq_some_iff.1 hd
  exact (h.only q hq).2
theorem base_l {oi oj : Oper} {s : S} {pi : Rec × DR} {dj : DR} (h : baseApart ops oi oj pi.2 dj = true) (hd : DOk G ops oi s pi.1 pi.2) {t : Nat} (ht : pi.1.del.map (·.1) = some t) : t ∉ oj.looksAt ops := by
  obtain ⟨q, hq, rfl⟩ := Option.map_eq_some_iff.1 ht
  have hb : pi.2.base = some q := by rw [← hd.base, hq]
  simp only [baseApart, hb, Bool.and_eq_true, Bool.not_eq_true'] at h
  simpa using h.1.1
theorem base_r {oi oj : Oper} {s : S} {pj : Rec × DR} {di : DR} (h : baseApart ops oi oj di pj.2 = true) (hd : DOk G ops oj s pj.1 pj.2) {t : Nat} (ht : pj.1.del.map (·.1) = some t) : t ∉ oi.looksAt ops := by
  obtain ⟨q, hq, rfl⟩ := Option.map_eq_some_iff.1 ht
  have hb : pj.2.base = some q := by rw [← hd.base, hq]
  simp only [baseApart, hb, Bool.and_eq_true, Bool.not_eq_true'] at h
  simpa using h.2.1
theorem draw_step (hT : TyOk P G) (hng : G.nglob ≤ w0.heap.size) {s0 : S} {tab : List Nat} {tr : List (Rec × DR)} (htr : Trace P G ops 0 s0 tr) (hlen : tr.length = ops.size) (hchk : Chk ops tab tr) (hd : ∀ o ∈ ops.toList, dstIn N o = true)
    {D D' : Nat → Bool} {s' : S} (hI : DInv ops s0 tr D s') {j : Nat} (hj : j < ops.size) (hDj : D j = false) (hr : Rdy ops D j) (hD1 : D' j = true) (hD2 : ∀ i, i ≠ j → D' i = D i)
    {β : Nat → Option Nat} {Ω : Nat → Nat → Option Value} {a : Act} {w : World} (hR : Rel G ok w0 N β Ω s' a w) {rd : Option Nat} {next : Act → World → Prop} {Qx : Exit → Act → World → Prop}
    (hn : ∀ s'' a' w' β' Ω', DInv ops s0 tr D' s'' → Rel G ok w0 N β' Ω' s'' a' w' → next a' w') : wpOpIn (FR rd) 0 P ops Qx j next a w := by
  have hjl : j < tr.length := by omega
  have hpj : tr[j]? = some (tr[j]) := List.getElem?_eq_getElem hjl
  generalize tr[j] = pj at hpj
  obtain ⟨oj, hoj', hst, hdo⟩ := trace_get htr hpj
  rw [Nat.zero_add] at hoj'
  -- whoever lies behind j has not been done
  have behind : ∀ i, i < ops.size → D i = true → (tab.getD i 0).testBit j = true → False := by
    intro i hi hDi hb
    have := anc_sound hI.cl hchk.row i j hi (hI.cl.rdy hDi) hb
    rw [hDj] at this; cases this
  have get : ∀ i, i < ops.size → ∃ oi pi, ops[i]? = some oi ∧ tr[i]? = some pi ∧ StepD P G ops oi (stN s0 tr i) pi.1 ∧ DOk G ops oi (stN s0 tr i) pi.1 pi.2 := by
    intro i hi
    have hpi : tr[i]? = some (tr[i]'(by omega)) := List.getElem?_eq_getElem (by omega)
    obtain ⟨oi, h1, h2, h3⟩ := trace_get htr hpi
    rw [Nat.zero_add] at h1
    exact ⟨oi, _, h1, hpi, h2, h3⟩
  -- the operation sees what it sees in the lexical run
  have henv : ∀ t ∈ oj.looksAt ops, amLook t (stN s0 tr j).env = amLook t s'.env := by
    intro t ht
    rw [stN_env t (by omega), hI.env t, ← valW_lt (n := tr.length) (by omega)]
    refine valW_agree fun i hi hw => ?_
    obtain ⟨v, hv⟩ := Option.ne_none_iff_exists'.1 hw
    obtain ⟨pi, hpi, hdst⟩ := Wt_some hv
    obtain ⟨oi, pi', hoi, hpi', hsti, hdi⟩ := get i (by omega)
    rw [hpi] at hpi'; injection hpi' with hpi'; subst hpi'
    rcases Nat.lt_trichotomy i j with hij | hij | hij
    · rcases (pair_spec (hchk.pair i j hij hj) hoi hoj' hpi hpj).1 with ⟨h1, _, h2⟩ | h1
      · rcases hdst with ⟨hdst, _⟩ | ⟨_, hdel, _⟩
        · exact absurd ht ((Oper.apart_spec h1).1 t (stepD_dst hsti hdst))
        · exact absurd ht (base_l h2 hdi hdel)
      · rw [anc_sound hI.cl hchk.row j i hj hr h1]; simp [hij]
    · subst hij; rw [hDj]; simp
    · cases hDi : D i
      · simp; omega
      · rcases (pair_spec (hchk.pair j i hij (by omega)) hoj' hoi hpj hpi).1 with ⟨h1, _, h2⟩ | h1
        · rcases hdst with ⟨hdst, _⟩ | ⟨_, hdel, _⟩
          · exact absurd ht ((Oper.apart_spec h1).2.2 t (stepD_dst hsti hdst))
          · exact absurd ht (base_r h2 hdi hdel)
        · exact (behind i (by omega) hDi h1).elim
  have hbox : wantS ops oj (stN s0 tr j) = some true → ∀ k, rsOf G oj (stN s0 tr j) = some k → amLook k (stN s0 tr j).box = amLook k s'.box := by
    intro hw k hk
    have hrs := hdo.rs hw k hk
    rw [stN_box k (by omega), hI.box k, ← valW_lt (n := tr.length) (by omega)]
    refine valW_agree fun i hi hw => ?_
    obtain ⟨v, hv⟩ := Option.ne_none_iff_exists'.1 hw
    obtain ⟨pi, hpi, hws⟩ := Wb_some hv
    obtain ⟨oi, pi', hoi, hpi', hsti, hdi⟩ := get i (by omega)
    rw [hpi] at hpi'; injection hpi' with hpi'; subst hpi'
    have hws' : pi.2.ws = some k := by rw [← hdi.ws, hws]; rfl
    rcases Nat.lt_trichotomy i j with hij | hij | hij
    · rcases (pair_spec (hchk.pair i j hij hj) hoi hoj' hpi hpj).1 with ⟨_, h1, _⟩ | h1
      · simp [siteApart, hws', hrs] at h1
      · rw [anc_sound hI.cl hchk.row j i hj hr h1]; simp [hij]
    · subst hij; rw [hDj]; simp
    · cases hDi : D i
      · simp; omega
      · rcases (pair_spec (hchk.pair j i hij (by omega)) hoj' hoi hpj hpi).1 with ⟨_, h1, _⟩ | h1
        · simp [siteApart, hws', hrs] at h1
        · exact (behind i (by omega) hDi h1).elim
  have hfr : wantS ops oj (stN s0 tr j) = some true → ∀ e, effF G oj (evalO G (stN s0 tr j)) (fun k => amLook k (stN s0 tr j).box) = some e → ∀ k, e.key = some k → FreshP s' k := by
    intro hw e he k hk
    obtain ⟨hkey, hfresh⟩ := hdo.key hw e he k hk
    obtain ⟨f1, f2⟩ := fresh_stN hfresh
    have other : ∀ i, i < tr.length → D i = true → ∀ pi, tr[i]? = some pi → k ∉ pi.1.sites ∧ pi.2.ws ≠ some k := by
      intro i hi hDi pi hpi
      obtain ⟨oi, pi', hoi, hpi', hsti, hdi⟩ := get i (by omega)
      rw [hpi] at hpi'; injection hpi' with hpi'; subst hpi'
      rcases Nat.lt_trichotomy i j with hij | hij | hij
      · have h1 := (pair_spec (hchk.pair i j hij hj) hoi hoj' hpi hpj).2.1
        simp [keyLate, hkey] at h1
        exact ⟨hdi.men k h1.1, h1.2⟩
      · subst hij; rw [hDj] at hDi; cases hDi
      · rcases (pair_spec (hchk.pair j i hij (by omega)) hoj' hoi hpj hpi).1 with ⟨_, h1, _⟩ | h1
        · simp [siteApart, hkey] at h1
          exact ⟨hdi.men k h1.2.1, h1.2.2⟩
        · exact (behind i (by omega) hDi h1).elim
    refine ⟨fun t v hv => ?_, fun t cs hc => ?_⟩
    · rw [hI.env t] at hv
      rcases valW_some hv with hv | ⟨i, hi, hDi, hw⟩
      · exact f1 t v hv
      · obtain ⟨pi, hpi, hh⟩ := Wt_some hw
        rcases hh with ⟨_, rfl⟩ | ⟨_, _, rfl⟩
        · refine V.sites_spec fun hm => (other i hi hDi pi hpi).1 ?_
          unfold Rec.sites; exact List.mem_append_left _ hm
        · rfl
    · rw [hI.box t] at hc
      rcases valW_some hc with hc | ⟨i, hi, hDi, hw⟩
      · exact f2 t cs hc
      · obtain ⟨pi, hpi, hws⟩ := Wb_some hw
        have h1 := (other i hi hDi pi hpi).1
        unfold Rec.sites at h1
        rw [hws] at h1
        simp only [List.mem_append, List.mem_cons, not_or] at h1
        exact ⟨fun e => h1.2.1 e.symm, Cells.sites_spec h1.2.2⟩
  have hfo : wantS ops oj (stN s0 tr j) = some true → isObjCall G oj (stN s0 tr j) = true → ObjOkP s' := by
    intro hw hio
    obtain ⟨hkey, hok⟩ := hdo.obj hw hio
    obtain ⟨f1, f2⟩ := objOk_stN hok
    have other : ∀ i, i < tr.length → D i = true → ∀ pi, tr[i]? = some pi → 1000000 ∉ pi.1.sites := by
      intro i hi hDi pi hpi
      obtain ⟨oi, pi', hoi, hpi', hsti, hdi⟩ := get i (by omega)
      rw [hpi] at hpi'; injection hpi' with hpi'; subst hpi'
      rcases Nat.lt_trichotomy i j with hij | hij | hij
      · have h1 := (pair_spec (hchk.pair i j hij hj) hoi hoj' hpi hpj).2.1
        simp [keyLate, hkey] at h1
        exact hdi.men 1000000 h1.1
      · subst hij; rw [hDj] at hDi; cases hDi
      · rcases (pair_spec (hchk.pair j i hij (by omega)) hoj' hoi hpj hpi).1 with ⟨_, h1, _⟩ | h1
        · simp [siteApart, hkey] at h1
          exact hdi.men 1000000 h1.2.1
        · exact (behind i (by omega) hDi h1).elim
    refine ⟨fun t v hv => ?_, fun t cs hc ht => ?_⟩
    · rw [hI.env t] at hv
      rcases valW_some hv with hv | ⟨i, hi, hDi, hw⟩
      · exact f1 t v hv
      · obtain ⟨pi, hpi, hh⟩ := Wt_some hw
        rcases hh with ⟨_, rfl⟩ | ⟨_, _, rfl⟩
        · refine V.sites_spec fun hm => other i hi hDi pi hpi ?_
          unfold Rec.sites; exact List.mem_append_left _ hm
        · rfl
    · rw [hI.box t] at hc
      rcases valW_some hc with hc | ⟨i, hi, hDi, hw⟩
      · exact f2 t cs hc ht
      · obtain ⟨pi, hpi, hws⟩ := Wb_some hw
        have h1 := other i hi hDi pi hpi
        unfold Rec.sites at h1
        rw [hws] at h1
        simp only [List.mem_append, List.mem_cons, not_or] at h1
        exact Cells.sites_spec h1.2.2
  have hon : ∀ p, pj.1.del = some p → OnlyP s' p.1 p.2 := by
    intro p hp
    obtain ⟨hon1, hlook⟩ := hdo.only p hp
    obtain ⟨f1, f2⟩ := only_stN hon1
    have hbj : pj.2.base = some p := by rw [← hdo.base, hp]
    have other : ∀ i, i < tr.length → D i = true → ∀ pi, tr[i]? = some pi → p.2 ∉ pi.1.sites ∨ (pi.1.ws = none ∧ ∀ u, pi.1.dst = some u → u = p.1) := by
      intro i hi hDi pi hpi
      obtain ⟨oi, pi', hoi, hpi', hsti, hdi⟩ := get i (by omega)
      rw [hpi] at hpi'; injection hpi' with hpi'; subst hpi'
      rcases Nat.lt_trichotomy i j with hij | hij | hij
      · have h1 := (pair_spec (hchk.pair i j hij hj) hoi hoj' hpi hpj).2.2
        simp only [baseLate, hbj, Bool.or_eq_true, Bool.not_eq_true', Bool.and_eq_true, Option.isNone_iff_eq_none, beq_iff_eq] at h1
        rcases h1 with h1 | ⟨h1, h2⟩
        · exact .inl (hdi.men _ (by simpa using h1))
        · refine .inr ⟨?_, fun u hu => ?_⟩
          · have := hdi.ws
            rw [h1] at this
            simpa using this
          · have := stepD_dst hsti hu
            rw [h2] at this
            injection this with this
            exact this.symm
      · subst hij; rw [hDj] at hDi; cases hDi
      · rcases (pair_spec (hchk.pair j i hij (by omega)) hoj' hoi hpj hpi).1 with ⟨_, _, h1⟩ | h1
        · simp only [baseApart, hbj, Bool.and_eq_true, Bool.not_eq_true'] at h1
          exact .inl (hdi.men _ (by simpa using h1.1.2))
        · exact (behind i (by omega) hDi h1).elim
    refine ⟨fun u v hv => ?_, fun u cs hc => ?_⟩
    · rw [hI.env u] at hv
      rcases valW_some hv with hv | ⟨i, hi, hDi, hw⟩
      · exact f1 u v hv
      · obtain ⟨pi, hpi, hh⟩ := Wt_some hw
        rcases hh with ⟨hdst, rfl⟩ | ⟨_, _, rfl⟩
        · rcases other i hi hDi pi hpi with h1 | ⟨_, h1⟩
          · refine .inr (V.sites_spec fun hm => h1 ?_)
            unfold Rec.sites; exact List.mem_append_left _ hm
          · exact .inl (h1 u hdst)
        · exact .inr rfl
    · rw [hI.box u] at hc
      rcases valW_some hc with hc | ⟨i, hi, hDi, hw⟩
      · exact f2 u cs hc
      · obtain ⟨pi, hpi, hws⟩ := Wb_some hw
        rcases other i hi hDi pi hpi with h1 | ⟨h1, _⟩
        · unfold Rec.sites at h1
          rw [hws] at h1
          simp only [List.mem_append, List.mem_cons, not_or] at h1
          exact Cells.sites_spec h1.2.2
        · rw [h1] at hws; cases hws
  have hdj : ∀ d, oj.dst = some d → d < N := by
    intro d hd'
    have := hd oj (by have := Array.mem_of_getElem? hoj'; simpa using this)
    rw [dstIn, hd'] at this; simpa using this
  refine stepD_exec hT hng hR hdj hoj' hst ⟨henv, hbox⟩ hfr hfo hon fun a' w' β' Ω' hR' => hn _ a' w' β' Ω' ⟨?_, fun t => ?_, fun k => ?_⟩ hR'
  · intro i o ho hDi e he hb
    by_cases hij : i = j
    · subst hij
      have := hr o ho e he hb
      by_cases h2 : e.on = i
      · rw [h2] at this ⊢; exact hD1
      · rw [hD2 _ h2]; exact this
    · rw [hD2 i hij] at hDi
      have := hI.cl i o ho hDi e he hb
      by_cases h2 : e.on = j
      · rw [h2]; exact hD1
      · rw [hD2 _ h2]; exact this
  · rw [app_env]
    -- whoever writes the slot behind j has not been done
    have late : pj.1.dst = some t ∨ pj.1.del.map (·.1) = some t → ∀ i, j < i → i < tr.length → Wt tr t i ≠ none → D' i = false := by
      intro hjt i hij hi hw
      obtain ⟨v, hv⟩ := Option.ne_none_iff_exists'.1 hw
      obtain ⟨pi, hpi, hdi⟩ := Wt_some hv
      obtain ⟨oi, pi', hoi, hpi', hsti, hdoi⟩ := get i (by omega)
      rw [hpi] at hpi'; injection hpi' with hpi'; subst hpi'
      rw [hD2 i (by omega)]
      cases hDi : D i
      · rfl
      · rcases (pair_spec (hchk.pair j i hij (by omega)) hoj' hoi hpj hpi).1 with ⟨h1, _, h2⟩ | h1
        · exfalso
          rcases hjt with hdst | hdel
          · rcases hdi with ⟨hdi, _⟩ | ⟨_, hdi, _⟩
            · exact absurd (stepD_dst hsti hdi) ((Oper.apart_spec h1).2.1 t (stepD_dst hst hdst))
            · exact (Oper.apart_spec h1).1 t (stepD_dst hst hdst) (del_looks hdoi hdi)
          · rcases hdi with ⟨hdi, _⟩ | ⟨_, hdi, _⟩
            · exact (Oper.apart_spec h1).2.2 t (stepD_dst hsti hdi) (del_looks hdo hdel)
            · exact base_l h2 hdo hdel (del_looks hdoi hdi)
        · exact (behind i (by omega) hDi h1).elim
    split
    · rename_i hdst
      exact (valW_last (j := j) (by simp [Wt, hpj, hdst]) hD1 hjl (late (.inl hdst))).symm
    · rename_i hdst
      split
      · rename_i hdel
        refine (valW_last (j := j) ?_ hD1 hjl (late (.inr hdel))).symm
        simp only [Wt, hpj, if_neg hdst, if_pos hdel]
      · rename_i hdel
        rw [hI.env t]
        refine valW_agree fun i hi hw => ?_
        by_cases hij : i = j
        · subst hij; exact absurd (by simp only [Wt, hpj, if_neg hdst, if_neg hdel]) hw
        · exact (hD2 i hij).symm
  · rw [app_box]
    have hb : (∃ cs, pj.1.ws = some (k, cs)) ∨ (Wb tr k j = none ∧ (match pj.1.ws with | some q => if q.1 = k then some q.2 else amLook k s'.box | none => amLook k s'.box) = amLook k s'.box) := by
      cases hws : pj.1.ws with
      | none => exact .inr ⟨by simp [Wb, hpj, hws], rfl⟩
      | some q =>
        obtain ⟨q1, q2⟩ := q
        by_cases e : q1 = k
        · subst e; exact .inl ⟨q2, rfl⟩
        · exact .inr ⟨by simp [Wb, hpj, hws, e], by simp [e]⟩
    rcases hb with ⟨cs, hws⟩ | ⟨hb1, hb2⟩
    · rw [hws]
      simp only [if_true]
      refine (valW_last (j := j) (by simp [Wb, hpj, hws]) hD1 hjl fun i hij hi hw => ?_).symm
      obtain ⟨v, hv⟩ := Option.ne_none_iff_exists'.1 hw
      obtain ⟨pi, hpi, hwi⟩ := Wb_some hv
      obtain ⟨oi, pi', hoi, hpi', hsti, hdi⟩ := get i (by omega)
      rw [hpi] at hpi'; injection hpi' with hpi'; subst hpi'
      rw [hD2 i (by omega)]
      cases hDi : D i
      · rfl
      · have hwj : pj.2.ws = some k := by rw [← hdo.ws, hws]; rfl
        have hwi' : pi.2.ws = some k := by rw [← hdi.ws, hwi]; rfl
        rcases (pair_spec (hchk.pair j i hij (by omega)) hoj' hoi hpj hpi).1 with ⟨_, h1, _⟩ | h1
        · simp [siteApart, hwj, hwi'] at h1
        · exact (behind i (by omega) hDi h1).elim
    · refine Eq.trans hb2 ?_
      rw [hI.box k]
      refine valW_agree fun i hi hw => ?_
      by_cases hij : i = j
      · subst hij; exact absurd hb1 hw
      · exact (hD2 i hij).symm
theorem draw_sound (hT : TyOk P G) (hng : G.nglob ≤ w0.heap.size) {s0 : S} {tab : List Nat} {tr : List (Rec × DR)} (htr : Trace P G ops 0 s0 tr) (hlen : tr.length = ops.size) (hchk : Chk ops tab tr) (hd : ∀ o ∈ ops.toList, dstIn N o = true)
    {rd : Option Nat} {Qx : Exit → Act → World → Prop} (hQ : ∀ a' w' β' Ω', Rel G ok w0 N β' Ω' (stN s0 tr tr.length) a' w' → Qx .normal a' w') :
    ∀ (fuel : Nat) (listed : Array Bool) (s' : S) (a : Act) (w : World) (β : Nat → Option Nat) (Ω : Nat → Nat → Option Value), listed.size = ops.size → DInv ops s0 tr (fun j => listed.getD j false) s' → cntN (fun j => listed.getD j false) ops.size ≤ fuel →
      Rel G ok w0 N β Ω s' a w → wpAnyIn (FR rd) 0 P .any ops Qx fuel listed a w := by
  have done : ∀ (listed : Array Bool) (s' : S) (a : Act) (w : World) (β : Nat → Option Nat) (Ω : Nat → Nat → Option Value), DInv ops s0 tr (fun j => listed.getD j false) s' → (∀ j, j < ops.size → listed.getD j false = true) → Rel G ok w0 N β Ω s' a w → Qx .normal a w := by
    intro listed s' a w β Ω hI hall hR
    refine hQ a w β Ω (hR.eqv ⟨fun t => ?_, fun k => ?_⟩)
    · rw [hI.env t, stN_env t (Nat.le_refl _)]; exact valW_agree fun i hi _ => hall i (by omega)
    · rw [hI.box k, stN_box k (Nat.le_refl _)]; exact valW_agree fun i hi _ => hall i (by omega)
  have empty : ∀ (listed : Array Bool), listed.size = ops.size → Region.ready .any ops listed = [] → ∀ j, j < ops.size → listed.getD j false = true := by
    intro listed hsz hr j
    induction j using Nat.strongRecOn with
    | _ j ih =>
      intro hj
      cases hl : listed.getD j false
      · exfalso
        have ho : ops[j]? = some ops[j] := Array.getElem?_eq_getElem hj
        have hmem : j ∈ Region.ready .any ops listed := by
          refine mem_ready.2 ⟨?_, ops[j], ho, fun e he hb => ?_⟩
          · have : j < listed.size := by omega
            simp [this] at hl ⊢; exact hl
          · have h1 := hchk.row j hj
            unfold rowChk at h1
            rw [ho] at h1
            simp only [Bool.and_eq_true, List.all_eq_true, Bool.or_eq_true, Bool.not_eq_true', decide_eq_true_eq] at h1
            have hlt := (h1.2 e (by simpa using he)).resolve_left (by simp [hb])
            exact ih e.on hlt (by omega)
        rw [hr] at hmem; cases hmem
      · rfl
  intro fuel
  induction fuel with
  | zero =>
    intro listed s' a w β Ω hsz hI hc hR
    have hall := cntN_zero (D := fun j => listed.getD j false) (n := ops.size) (by omega)
    refine ⟨?_, done listed s' a w β Ω hI hall hR⟩
    cases hr : Region.ready .any ops listed with
    | nil => rfl
    | cons j l =>
      exfalso
      have hm : j ∈ Region.ready .any ops listed := by rw [hr]; simp
      obtain ⟨h1, o, h2, _⟩ := mem_ready.1 hm
      have hj : j < ops.size := (Array.getElem?_eq_some_iff.1 h2).1
      have h3 := hall j hj
      have : j < listed.size := by omega
      simp [this] at h1 h3
      rw [h1] at h3; cases h3
  | succ fuel ih =>
    intro listed s' a w β Ω hsz hI hc hR
    refine ⟨fun hr => done listed s' a w β Ω hI (empty listed hsz hr) hR, fun j hm => ?_⟩
    obtain ⟨h1, o, h2, h3⟩ := mem_ready.1 hm
    have hj : j < ops.size := (Array.getElem?_eq_some_iff.1 h2).1
    have hjl : j < listed.size := by omega
    have hDj : listed.getD j false = false := by simp [hjl] at h1 ⊢; exact h1
    have hD1 : (listed.setIfInBounds j true).getD j false = true := by simp [hjl]
    have hD2 : ∀ i, i ≠ j → (listed.setIfInBounds j true).getD i false = listed.getD i false := fun i hi => getD_set_ne false (fun e => hi e.symm)
    refine draw_step hT hng htr hlen hchk hd hI hj hDj (fun o' ho' e he hb => ?_) hD1 hD2 hR fun s'' a' w' β' Ω' hI' hR' => ?_
    · rw [h2] at ho'; injection ho' with ho'; subst ho'; exact h3 e he hb
    · refine ih _ s'' a' w' β' Ω' (by simp [hsz]) hI' ?_ hR'
      have := cntN_set (D := fun j => listed.getD j false) (D' := fun i => (listed.setIfInBounds j true).getD i false) hDj hD1 hD2 (n := ops.size)
      rw [if_pos hj] at this
      omega
theorem chk_of {tr : List (Rec × DR)} (h : drawChk ops (tr.map (·.2)) = true) : Chk ops (ancTab ops.toList []) tr := by
  unfold drawChk at h
  simp only [List.all_eq_true, List.mem_range, Bool.and_eq_true] at h
  exact ⟨fun j hj => (h j hj).1, fun i j hij hj => (h j hj).2 i hij⟩
theorem aw_draw_region (hT : TyOk P G) (hm : P.follows .mixedOrders = true) {s : S} {Q : X → S → Prop} {id : Nat} (h : amDraw P G 0 [] ops.toList [] (fun drs s' => drawChk ops drs.tail = true ∧ Q .norm s') ⟨none, none, none, [], none⟩ s) : AW P G N (.region id ops true) s Q := by
  intro hd ok w0 β Ω a w hng hR rd _
  have hd' : ∀ o ∈ ops.toList, dstIn N o = true := List.all_eq_true.1 hd
  have hR' : Rel G ok w0 N β Ω s a { w with drawn := w.drawn + 1 } := hR.world (Below.drew (Below.refl _ _))
  obtain ⟨tr, h1, h2, h3, h4⟩ := draw_virtual (ops := ops) hT hng ops.toList 0 [] [] _ s a _ β Ω (by simp) (fun j d hj => by cases hj) hd hR' h
  have hlen : tr.length = ops.size := by simpa using h2
  have hlast : stN s tr tr.length = tr.foldl (fun s p => p.1.app s) s := by unfold stN; rw [List.take_length]
  refine wpIn_region_any hm ?_
  refine draw_sound hT hng h1 hlen (chk_of (by simpa using h3)) hd' (fun a' w' β' Ω' hr => ⟨.norm, _, β', Ω', rfl, (by rw [hlast]; exact h4), hr⟩) _ _ s _ _ β Ω (by simp) ⟨?_, fun t => ?_, fun k => ?_⟩ ?_ hR'
  · intro j o ho hj
    have hj' : (Array.replicate ops.size false).getD j false = true := hj
    by_cases hlt : j < ops.size <;> simp [hlt] at hj'
  · have : ∀ n, valW (Wt tr t) (amLook t s.env) (fun j => (Array.replicate ops.size false).getD j false) n = amLook t s.env := by
      intro n
      induction n with
      | zero => rfl
      | succ n ih =>
        simp only [valW]
        have hf : ¬ (Array.replicate ops.size false).getD n false = true := by by_cases hlt : n < ops.size <;> simp [hlt]
        split
        · rw [if_neg hf]; exact ih
        · exact ih
    exact (this _).symm
  · have : ∀ n, valW (Wb tr k) (amLook k s.box) (fun j => (Array.replicate ops.size false).getD j false) n = amLook k s.box := by
      intro n
      induction n with
      | zero => rfl
      | succ n ih =>
        simp only [valW]
        have hf : ¬ (Array.replicate ops.size false).getD n false = true := by by_cases hlt : n < ops.size <;> simp [hlt]
        split
        · rw [if_neg hf]; exact ih
        · exact ih
    exact (this _).symm
  · have : ∀ (D : Nat → Bool) (n : Nat), cntN D n ≤ n := by
      intro D n
      induction n with
      | zero => simp [cntN]
      | succ n ih => simp only [cntN]; split <;> omega
    exact this _ _
/-- A drawn region, and what comes behind it. -/
theorem aw_draw (hT : TyOk P G) (hm : P.follows .mixedOrders = true) {s : S} {Q : X → S → Prop} {id : Nat} {y : Code} (h : ∀ K : S → Prop, (∀ s', AW P G N y s' Q → K s') → amDraw P G 0 [] ops.toList [] (fun drs s' => drawChk ops drs.tail = true ∧ K s') ⟨none, none, none, [], none⟩ s) : AW P G N (.seq (.region id ops true) y) s Q :=
  aw_seq fun K hK => aw_draw_region hT hm (h K hK)
end
end Go.Proofs.Am
namespace Go.Proofs.Am
open Go.RowKit
section
variable {P : Program} {G : Ctx} {N : Nat} {Q : X → S → Prop}
def isIn (t : Nat) : List Nat → Bool
  | [] => false
  | j :: r => if t = j then true else isIn t r
/-- What is known of the slots not named. -/
def hold {α : Type} (bad : α → Bool) (del : List Nat) : List (Nat × α) → List (Nat × α)
  | [] => []
  | p :: r => if isIn p.1 del then hold bad del r else if bad p.2 then hold bad (p.1 :: del) r else p :: hold bad del r
theorem hold_none {α : Type} {bad : α → Bool} {t : Nat} : ∀ {l : List (Nat × α)} {del : List Nat}, isIn t del = true → amLook t (hold bad del l) = none := by
  intro l
  induction l with
  | nil => intro del _; rfl
  | cons q r ih =>
    intro del h
    obtain ⟨j, x⟩ := q
    simp only [hold]
    split
    · exact ih h
    · rename_i hn
      split
      · exact ih (by simp [isIn, h])
      · rw [look_cons, if_neg]
        · exact ih h
        · intro e; subst e; exact hn h
theorem hold_look {α : Type} {bad : α → Bool} {t : Nat} {v : α} : ∀ {l : List (Nat × α)} {del : List Nat}, amLook t (hold bad del l) = some v → amLook t l = some v := by
  intro l
  induction l with
  | nil => intro del h; exact h
  | cons p r ih =>
    intro del h
    obtain ⟨j, x⟩ := p
    rw [look_cons]
    simp only [hold] at h
    by_cases e : t = j
    · subst e
      rw [if_pos rfl]
      split at h
      · rename_i hc; rw [hold_none hc] at h; cases h
      · split at h
        · rw [hold_none (by simp [isIn])] at h; cases h
        · rw [look_cons, if_pos rfl] at h; exact h
    · rw [if_neg e]
      split at h
      · exact ih h
      · split at h
        · exact ih h
        · rw [look_cons, if_neg e] at h; exact ih h
def badV (tags : List Nat) (v : V) : Bool := tags.any v.site?
def badB (tags : List Nat) (l : List Cell) : Bool := tags.any fun k => l.any (·.site? k)
theorem look_append {α : Type} {t : Nat} {v : α} {b : List (Nat × α)} : ∀ {a : List (Nat × α)}, amLook t (a ++ b) = some v → amLook t a = some v ∨ amLook t b = some v := by
  intro a
  induction a with
  | nil => intro h; exact .inr h
  | cons p r ih =>
    intro h
    obtain ⟨j, x⟩ := p
    rw [List.cons_append, look_cons] at h
    rw [look_cons]
    split at h
    · rename_i e; rw [if_pos e]; exact .inl h
    · rename_i e; rw [if_neg e]; exact ih h
theorem Reach.hold {E : List (Nat × V)} {B : List (Nat × List Cell)} {cE : List (Nat × V)} {cB : List (Nat × List Cell)} (tg dE dB : List Nat) (h1 : envIn E cE) (h2 : envIn B cB) : Reach ⟨E, B⟩ ⟨cE ++ hold (badV tg) dE E, cB ++ hold (badB tg) dB B⟩ := fun h => ⟨_, h.sub
  ⟨fun t v hv => by rcases look_append hv with hv | hv; exact envIn_look h1 t v hv; exact hold_look hv, fun t v hv => by rcases look_append hv with hv | hv; exact envIn_look h2 t v hv; exact hold_look hv⟩⟩
/-- A loop: the slots that its rounds turn, as a function of the loop's own state; all others stay. -/
theorem aw_while {c : Code} {E : List (Nat × V)} {B : List (Nat × List Cell)} {τ : Type} (inv : τ → Prop) (μ : τ → Nat) (cE : τ → List (Nat × V)) (cB : τ → List (Nat × List Cell)) (tg dE dB : List Nat) (t0 : τ) (h0 : inv t0) (h1 : envIn E (cE t0)) (h2 : envIn B (cB t0))
    (round : ∀ t, inv t → ∀ R : S → Prop, (∀ s' t', inv t' → μ t' < μ t → Reach s' ⟨cE t' ++ hold (badV tg) dE E, cB t' ++ hold (badB tg) dB B⟩ → R s') → AW P G N c ⟨cE t ++ hold (badV tg) dE E, cB t ++ hold (badB tg) dB B⟩ (thenQ R Q)) : AW P G N (.loop c) ⟨E, B⟩ Q := by
  refine aw_loop' (fun n s => ∃ t, inv t ∧ n = μ t ∧ s = ⟨cE t ++ hold (badV tg) dE E, cB t ++ hold (badB tg) dB B⟩) (μ t0) ⟨_, Reach.hold tg dE dB h1 h2, t0, h0, rfl, rfl⟩ ?_
  rintro n s ⟨t, ht, rfl, rfl⟩
  exact round t ht _ fun s' t' h3 h4 h5 => ⟨μ t', _, h4, h5, t', h3, rfl, rfl⟩
theorem aw_norm {c : Code} {s s' : S} (e : s = s') (h : AW P G N c s' Q) : AW P G N c s Q := e ▸ h
/-- Go's range over a slice. -/
theorem aw_range {c : Code} {E : List (Nat × V)} {B : List (Nat × List Cell)} {α : Type} (L : List α) (I : List α → Prop) (cE : List α → List (Nat × V)) (cB : List α → List (Nat × List Cell)) (tg dE dB : List Nat) (h0 : I []) (h1 : envIn E (cE [])) (h2 : envIn B (cB []))
    (last : I L → ∀ R : S → Prop, AW P G N c ⟨cE L ++ hold (badV tg) dE E, cB L ++ hold (badB tg) dB B⟩ (thenQ R Q))
    (round : ∀ dn y td, L = dn ++ y :: td → I dn → ∀ R : S → Prop, (∀ s', I (dn ++ [y]) → Reach s' ⟨cE (dn ++ [y]) ++ hold (badV tg) dE E, cB (dn ++ [y]) ++ hold (badB tg) dB B⟩ → R s') → AW P G N c ⟨cE dn ++ hold (badV tg) dE E, cB dn ++ hold (badB tg) dB B⟩ (thenQ R Q)) : AW P G N (.loop c) ⟨E, B⟩ Q := by
  refine aw_while (fun t : List α × List α => L = t.1 ++ t.2 ∧ I t.1) (fun t => t.2.length) (fun t => cE t.1) (fun t => cB t.1) tg dE dB ([], L) ⟨rfl, h0⟩ h1 h2 ?_
  rintro ⟨dn, td⟩ ⟨hL, hI⟩ R hR
  cases td with
  | nil =>
    obtain rfl : L = dn := by simpa using hL
    exact last hI R
  | cons y td => exact round dn y td hL hI R fun s' hi hs => hR s' (dn ++ [y], td) ⟨by simp [hL], hi⟩ (by simp) hs
end
end Go.Proofs.Am
namespace Go.Proofs.Am
open Go.RowKit
def retQO (G : Ctx) (l : List ResultVar) (res : List A) (p' : OP) : X → S → Prop
  | .exit _, _ => False
  | _, s => resOf G s l = some res ∧ res.all (·.scalar) = true ∧ amLook 1000000 s.box = some [.objst p']
section
variable {P : Program} {G : Ctx} {N : Nat} {Q : X → S → Prop}
open Classical in
noncomputable def markO (fp : Nat → Prop) : Nat → Nat → Option Value := fun i j => if i = 1000000 then (if fp j then some (mark j) else none) else none
theorem markO_spec {fp : Nat → Prop} {i j b : Nat} {v : Value} (h1 : markO fp i j = some v) (h2 : oblk v = some b) : i = 1000000 ∧ j = b ∧ fp b := by
  unfold markO at h1
  split at h1
  · split at h1
    · rename_i hj; injection h1 with h1; subst h1; injection h2 with h2; subst h2; exact ⟨by assumption, rfl, hj⟩
    · cases h1
  · cases h1
/-- The frame at the entry of a call that is handed an object. -/
theorem relO_init {ok : Nat → Prop} {w : World} {vs : List Value} {fp : Nat → Prop} {n : Nat} {args : List A} {p : OP} (hlen : args.length ≤ n) (hst : Stab p) (hglob : GlobOk G w) (hA : RepAs w ok args vs) (hp : p ok w fp) (hfp : ∀ b, fp b → b < w.heap.size ∧ G.nglob ≤ b ∧ ¬ ok b) :
    Rel G ⟨ok, fp⟩ w n (fun _ => none) (markO fp) ⟨argEnv 0 args, [(1000000, [.objst p])]⟩ { tmps := vs.toArray ++ Array.replicate (n - vs.toArray.size) undef, defers := [] } w := by
  have hl := hA.length
  have hF : ∀ b, b < w.heap.size → ok b → okF G ⟨ok, fp⟩ w.heap.size (fun _ => none) (markO fp) b := fun b hl hb => .inl ⟨hl, .inl hb⟩
  refine ⟨.of (Below.refl _ _), fun b hb => ⟨(hfp b hb).2.1, (hfp b hb).2.2⟩, hglob, DefersOk.none, by simp; omega, fun t v hv => ?_, fun k cs hc => ?_, ?_, ?_, ?_, ?_, ?_⟩
  · obtain ⟨j, x, h1, h2, rfl⟩ := look_argEnv args 0 t v hv
    obtain ⟨u, h3, h4⟩ := hA.get h2
    have ht : (vs.toArray ++ Array.replicate (n - vs.toArray.size) undef).getD t undef = u := by
      have hjl : j < vs.length := (List.getElem?_eq_some_iff.1 h3).1
      rw [Array.getD_eq_getD_getElem?, Array.getElem?_append_left (by simp; omega), h1, Nat.zero_add]
      simp [h3]
    show RepV _ _ _ _ _ _ ((vs.toArray ++ Array.replicate (n - vs.toArray.size) undef).getD t undef)
    rw [ht]
    have hk : Keeps w w ok (okF G ⟨ok, fp⟩ w.heap.size (fun _ => none) (markO fp)) := ⟨fun _ _ _ => rfl, fun b hb hl => hF b hl hb⟩
    exact val_sound (h4.keeps hk.W)
  · have hc' : (if k = 1000000 then some [Cell.objst p] else none) = some cs := hc
    split at hc'
    · rename_i e
      injection hc' with hc'
      subst hc' e
      refine .inr ⟨rfl, rfl, hst, fp, hst _ _ w w fp hp (Keeps.W ⟨fun _ _ _ => rfl, fun b hb hl => hF b hl hb⟩) (fun _ _ => rfl), fun b hb => ⟨(hfp b hb).1, ?_⟩⟩
      simp [markO, hb]
    · cases hc'
  · intro _ _ _ h; cases h
  · intro i j i' j' v v' b h1 h2 h3 h4
    obtain ⟨a1, a2, _⟩ := markO_spec h1 h2
    obtain ⟨b1, b2, _⟩ := markO_spec h3 h4
    exact ⟨a1.trans b1.symm, a2.trans b2.symm⟩
  · intro _ _ _ _ _ h; cases h
  · intro _ _ h; cases h
  · intro i j v b h1 h2
    obtain ⟨_, _, a3⟩ := markO_spec h1 h2
    exact ⟨.inr a3, (hfp b a3).1⟩
/-- A function's body, handed an object. -/
theorem holdsO_of_body (hT : TyOk P G) {f : FuncId} {fn : Func} {c : Code} (hf : P.funcs[f]? = some fn) (hb : fn.body = some c) (hn : (fn.name == "runtime.NumGoroutine") = false) (hd : dsts fn.ntmps c = true) {args res : List A} {p p' : OP} (hlen : args.length ≤ fn.ntmps) (hst : Stab p) (hst' : Stab p')
    (h : AW P G fn.ntmps c ⟨argEnv 0 args, [(1000000, [.objst p])]⟩ (retQO G fn.results.toList res p')) (hmk : G.marks = false := by rfl) : HoldsO P G f args p (some res) p' := by
  refine ⟨⟨fn, hf, by rw [hb]; rfl, hn⟩, hst', fun ok w vs fp hng hglob hA hp hfp => ?_⟩
  rw [List.append_nil]
  refine calls_of_wp hf hb (wp_mono (wpIn_wide.1 (h hd ⟨ok, fp⟩ w _ _ _ w hng (relO_init hlen hst hglob hA hp hfp) none (fun _ => rfl))) ?_)
  rintro e a' w' ⟨x, s', β', Ω', rfl, hq, hR'⟩
  have fin : (resOf G s' fn.results.toList = some res ∧ res.all (·.scalar) = true ∧ amLook 1000000 s'.box = some [.objst p']) → a'.defers = [] ∧ ∃ v, (results fn a'.tmps).run P w' = .ok v w' ∧ ObjPost G ok w fp (some res) p' (Ending.returned v) w' := by
    rintro ⟨hres, hsc, hobj⟩
    unfold resOf at hres
    cases hvs : resVs G s' fn.results.toList with
    | none => rw [hvs] at hres; cases hres
    | some vs' =>
      rw [hvs] at hres
      have hres' : argsV vs' = some res := hres
      obtain ⟨us, h1, h2, h3⟩ := resVs_sound hT hR' _ _ hvs
      obtain ⟨hβ, _, fp', hp', hm⟩ := hR'.obj hobj
      have ho : ∀ b, fp' b → w.heap.size ≤ b ∨ fp b := fun b hb => (hR'.oB 1000000 b _ b (hm b hb).2 rfl).1
      have hdf : a'.defers = [] := by have := hR'.defers; unfold DefersOk at this; rw [hmk] at this; exact this
      refine ⟨hdf, _, results_run fn a'.tmps us h1, resVal us, fp', rfl, ⟨hsc, us, rfl, ?_⟩, ?_, fun b hb => ⟨(hm b hb).1, (ho b hb).symm⟩, hR'.below⟩
      · have := argsV_sound hR' (F' := fun _ => True) (fun _ _ => trivial) (fun _ _ _ _ _ _ => trivial) vs' res us hres' h2 h3
        exact this.scalar hsc
      · refine hst' _ _ w' w' fp' hp' (Keeps.growW w' fun b hb => ?_) (fun _ _ => rfl)
        rcases hb with hb | ⟨h4, h5⟩
        · exact .inl hb
        · exact .inr ⟨h4, fun h6 => h5 (.inr ⟨1000000, b, _, (hm b h6).2, rfl⟩)⟩
  cases x with
  | norm => exact fin hq
  | ret => exact fin hq
  | exit id => exact hq.elim
end
end Go.Proofs.Am
namespace Go.Proofs.Am
open Go.RowKit
section
variable {P : Program} {G : Ctx} {N : Nat} {Q : X → S → Prop} {s : S} {ops : Array Oper}
def cutQ (F : Fence) (P : Program) (ops : Array Oper) (Q : Exit → Act → World → Prop) (l : List Nat) : Exit → Act → World → Prop
  | .normal, a, w => wpOpsIn F 0 P ops Q l a w
  | e, a, w => Q e a w
theorem wpOps_append {F : Fence} {Qx : Exit → Act → World → Prop} {l2 : List Nat} : ∀ (l1 : List Nat) (a : Act) (w : World), wpOpsIn F 0 P ops (cutQ F P ops Qx l2) l1 a w → wpOpsIn F 0 P ops Qx (l1 ++ l2) a w := by
  intro l1
  induction l1 with
  | nil => intro a w h; exact h
  | cons i r ih =>
    intro a w h
    rw [List.cons_append, wpOpsIn_cons]
    rw [wpOpsIn_cons] at h
    unfold wpOpIn at h ⊢
    split
    · rename_i hi; rw [hi] at h; exact ih a w h
    · rename_i o hi
      rw [hi] at h
      simp only at h
      split
      · rename_i hw
        rw [if_pos hw] at h
        unfold Oper.wpIn at h ⊢
        refine ⟨h.1, ?_⟩
        have h := h.2
        generalize (o.semAt F.round a.eval).run P w = res at h
        cases res with
        | ok n w' =>
          cases n <;> simp only [Oper.uponIn] at h ⊢ <;> first
            | exact ih _ _ h
            | exact ⟨h.1, CallsIn.mono h.2 (fun e w'' he => by
                cases e with
                | returned v => exact ih _ _ he
                | panicked c => exact he
                | outgrown => obtain ⟨a', w3, h3⟩ := he; exact ⟨a', w3, h3⟩)⟩
            | exact ⟨h.1, RowsIn.mono h.2 (fun _ _ he => ih _ _ he)⟩
            | exact ⟨h.1, RoundIn.mono h.2 (fun e w'' he => by
                cases e with
                | returned v => exact ih _ _ he
                | panicked c => exact he
                | outgrown => obtain ⟨a', w3, h3⟩ := he; exact ⟨a', w3, h3⟩)⟩
            | exact h
        | halt x w' => cases x <;> simp only [Oper.uponIn] at h ⊢ <;> exact h
      · rename_i hw
        rw [if_neg hw] at h
        exact ⟨h.1, ih _ _ h.2⟩
/-- A region in two parts: between them the slices made at site k are frozen. -/
theorem aw_cut (hT : TyOk P G) (n k : Nat) {id : Nat} {K1 : S → Prop} (h1 : amOps P G 0 [] (ops.toList.take n) K1 s) (h2 : ∀ s', K1 s' → amOps P G n [] (ops.toList.drop n) (Q .norm) (s'.freeze k)) (hn : n ≤ ops.size) : AW P G N (.region id ops false) s Q := by
  intro hd ok w0 β Ω a w hng hR rd _
  have hd' : ∀ o ∈ ops.toList, dstIn N o = true := List.all_eq_true.1 hd
  refine wpIn_region ?_
  have hr : List.range ops.size = List.range' 0 (ops.toList.take n).length ++ List.range' n (ops.toList.drop n).length := by
    rw [List.range_eq_range', List.length_take, List.length_drop, Array.length_toList, Nat.min_eq_left hn]
    have := List.range'_append_1 (s := 0) (m := n) (n := ops.size - n)
    rw [Nat.zero_add] at this
    rw [this]
    congr 1
    omega
  rw [hr]
  refine wpOps_append _ a w ?_
  refine amOps_sound (K := K1) hT hng (fun s' a' w' β' Ω' hk hR' => ?_) _ 0 [] s a w β Ω (fun j hj => ?_) (fun j d hj => by cases hj) (List.all_eq_true.2 fun o ho => hd' o (List.mem_of_mem_take ho)) hR h1
  · show wpOpsIn _ _ _ _ _ _ _ _
    refine amOps_sound (K := Q .norm) hT hng (fun s2 a2 w2 β2 Ω2 hk2 hR2 => ⟨.norm, s2, β2, Ω2, rfl, hk2, hR2⟩) _ n [] _ a' w' β' _ (fun j hj => by simp) (fun j d hj => by cases hj) (List.all_eq_true.2 fun o ho => hd' o (List.mem_of_mem_drop ho)) (hR'.freeze k) (h2 s' hk)
  · rw [List.getElem?_take]
    have : j < n := by simp at hj; omega
    simp [this]
end
end Go.Proofs.Am
set_option maxRecDepth 100000
namespace Go.Proofs.Am
theorem amset : type_of% (
  And.intro @emptyLit.eq_1 <|
  And.intro @V.frzO.eq_1 <|
  And.intro @onlyOk.eq_1 <|
  And.intro @S.onlyAt.eq_1 <|
  And.intro @aggE.eq_1 <|
  And.intro @aggE.eq_2 <|
  And.intro @aggE.eq_3 <|
  And.intro @amOps.eq_1 <|
  And.intro @amOps.eq_2 <|
  And.intro @amOp.eq_1 <|
  And.intro @amCall.eq_1 <|
  And.intro @amCall0.eq_1 <|
  And.intro @amClo.eq_1 <|
  And.intro @delL.eq_1 <|
  And.intro @delL.eq_2 <|
  And.intro @S.del.eq_1 <|
  And.intro @argSites.eq_1 <|
  And.intro @argSites.eq_2 <|
  And.intro @frzUnless.eq_1 <|
  And.intro @frzUnless.eq_2 <|
  And.intro @cellSites.eq_1 <|
  And.intro @cellSites.eq_2 <|
  And.intro @cellSites.eq_3 <|
  And.intro @cellSites.eq_4 <|
  And.intro @cellSites.eq_5 <|
  And.intro @partSites.eq_1 <|
  And.intro @partSites.eq_2 <|
  And.intro @partSites.eq_3 <|
  And.intro @S.frz.eq_1 <|
  And.intro @S.frz.eq_2 <|
  And.intro @frzA.eq_1 <|
  And.intro @frzA.eq_2 <|
  And.intro @cloOf.eq_1 <|
  And.intro @capArgs.eq_1 <|
  And.intro @capArgs.eq_2 <|
  And.intro @mapKd.eq_1 <|
  And.intro @mapKd.eq_2 <|
  And.intro @makeMapE.eq_1 <|
  And.intro @makeMapE.eq_2 <|
  And.intro @lookE.eq_1 <|
  And.intro @lookE.eq_2 <|
  And.intro @lookupE.eq_1 <|
  And.intro @mapPutE.eq_1 <|
  And.intro @mapPutE.eq_2 <|
  And.intro @foundV.eq_1 <|
  And.intro @foundV.eq_2 <|
  And.intro @entsOf.eq_1 <|
  And.intro @entsOf.eq_2 <|
  And.intro @entsOf.eq_3 <|
  And.intro @capsOf.eq_1 <|
  And.intro @capsOf.eq_2 <|
  And.intro @capsOf.eq_3 <|
  And.intro @makeFuncE.eq_1 <|
  And.intro @makeFuncE.eq_2 <|
  And.intro @makeFuncE.eq_3 <|
  And.intro @S.mput.eq_1 <|
  And.intro @V.mput.eq_1 <|
  And.intro @V.mput.eq_2 <|
  And.intro @V.mput.eq_3 <|
  And.intro @Cell.mput.eq_1 <|
  And.intro @Cell.mput.eq_2 <|
  And.intro @effF.eq_1 <|
  And.intro @callE.eq_1 <|
  And.intro @biE.eq_1 <|
  And.intro @biE.eq_2 <|
  And.intro @biE.eq_3 <|
  And.intro @biE.eq_4 <|
  And.intro @biE.eq_5 <|
  And.intro @calleeOf.eq_1 <|
  And.intro @evalO.eq_1 <|
  And.intro @evalO.eq_2 <|
  And.intro @evalO.eq_3 <|
  And.intro @evalO.eq_4 <|
  And.intro @constV.eq_1 <|
  And.intro @constV.eq_2 <|
  And.intro @constV.eq_3 <|
  And.intro @constV.eq_4 <|
  And.intro @constV.eq_5 <|
  And.intro @constV.eq_6 <|
  And.intro @constV.eq_7 <|
  And.intro @constV.eq_8 <|
  And.intro @S.get.eq_1 <|
  And.intro @S.set.eq_1 <|
  And.intro @S.put.eq_1 <|
  And.intro @S.put.eq_2 <|
  And.intro @amLook.eq_1 <|
  And.intro @amLook.eq_2 <|
  And.intro @Act'.run.eq_1 <|
  And.intro @Act'.run.eq_2 <|
  And.intro @Act'.run.eq_3 <|
  And.intro @Act'.run.eq_4 <|
  And.intro @Act'.run.eq_5 <|
  And.intro @Act'.run.eq_6 <|
  And.intro @Act'.run.eq_7 <|
  And.intro @Eff.ok.eq_1 <|
  And.intro @Eff.c.eq_1 <|
  And.intro @V.cells.eq_1 <|
  And.intro @V.cells.eq_2 <|
  And.intro @V.cells.eq_3 <|
  And.intro @freshOk.eq_1 <|
  And.intro @S.fresh.eq_1 <|
  And.intro @Cell.site?.eq_1 <|
  And.intro @Cell.site?.eq_2 <|
  And.intro @Cell.site?.eq_3 <|
  And.intro @Cell.site?.eq_4 <|
  And.intro @V.site?.eq_1 <|
  And.intro @V.site?.eq_2 <|
  And.intro @V.site?.eq_3 <|
  And.intro @V.site?.eq_4 <|
  And.intro @V.site?.eq_5 <|
  And.intro @V.site?.eq_6 <|
  And.intro @Cell.tag?.eq_1 <|
  And.intro @Cell.tag?.eq_2 <|
  And.intro @Cell.tag?.eq_3 <|
  And.intro @Cell.tag?.eq_4 <|
  And.intro @V.tag?.eq_1 <|
  And.intro @V.tag?.eq_2 <|
  And.intro @V.tag?.eq_3 <|
  And.intro @litRows.eq_1 <|
  And.intro @litRows.eq_2 <|
  And.intro @litRows.eq_3 <|
  And.intro @fillCells.eq_1 <|
  And.intro @fillCells.eq_2 <|
  And.intro @fillCells.eq_3 <|
  And.intro @Cell.pure?.eq_1 <|
  And.intro @Cell.pure?.eq_2 <|
  And.intro @Cell.pure?.eq_3 <|
  And.intro @Cell.pure?.eq_4 <|
  And.intro @Cell.data.eq_1 <|
  And.intro @Cell.data.eq_2 <|
  And.intro @Cell.data.eq_3 <|
  And.intro @Cell.data.eq_4 <|
  And.intro @rowsOf.eq_1 <|
  And.intro @rowsOf.eq_2 <|
  And.intro @rowsOf.eq_3 <|
  And.intro @argsOf.eq_1 <|
  And.intro @argsOf.eq_2 <|
  And.intro @pures.eq_1 <|
  And.intro @pures.eq_2 <|
  And.intro @V.arg.eq_1 <|
  And.intro @V.arg.eq_2 <|
  And.intro @V.arg.eq_3 <|
  And.intro @V.arg.eq_4 <|
  And.intro @V.pure?.eq_1 <|
  And.intro @V.pure?.eq_2 <|
  And.intro @V.pure?.eq_3 <|
  And.intro @resV.eq_1 <|
  And.intro @resV.eq_2 <|
  And.intro @A.val.eq_1 <|
  And.intro @A.val.eq_2 <|
  And.intro @A.val.eq_3 <|
  And.intro @zeros.eq_1 <|
  And.intro @zeros.eq_2 <|
  And.intro @Z.cell.eq_1 <|
  And.intro @Z.cell.eq_2 <|
  And.intro @Z.cell.eq_3 <|
  And.intro @Z.cell.eq_4 <|
  And.intro @Z.cell.eq_5 <|
  And.intro @Z.cell.eq_6 <|
  And.intro @Z.cell.eq_7 <|
  And.intro @moveE.eq_1 <|
  And.intro @moveE.eq_2 <|
  And.intro @moveE.eq_3 <|
  And.intro @pickE.eq_1 <|
  And.intro @pickE.eq_2 <|
  And.intro @pickV.eq_1 <|
  And.intro @pickV.eq_2 <|
  And.intro @pickV.eq_3 <|
  And.intro @allocE.eq_1 <|
  And.intro @allocE.eq_2 <|
  And.intro @boxE.eq_1 <|
  And.intro @buildE.eq_1 <|
  And.intro @buildE.eq_2 <|
  And.intro @nilE.eq_1 <|
  And.intro @nilE.eq_2 <|
  And.intro @buildSliceE.eq_1 <|
  And.intro @buildSliceE.eq_2 <|
  And.intro @loadE.eq_1 <|
  And.intro @loadE.eq_2 <|
  And.intro @loadE.eq_3 <|
  And.intro @loadE.eq_4 <|
  And.intro @loadE.eq_5 <|
  And.intro @loadE.eq_6 <|
  And.intro @storeE.eq_1 <|
  And.intro @storeE.eq_2 <|
  And.intro @nilCheckE.eq_1 <|
  And.intro @nilCheckE.eq_2 <|
  And.intro @nilCheckE.eq_3 <|
  And.intro @binE.eq_1 <|
  And.intro @binE.eq_2 <|
  And.intro @binE.eq_3 <|
  And.intro @binE.eq_4 <|
  And.intro @binE.eq_5 <|
  And.intro @binE.eq_6 <|
  And.intro @unE.eq_1 <|
  And.intro @unE.eq_2 <|
  And.intro @unE.eq_3 <|
  And.intro @convE.eq_1 <|
  And.intro @convE.eq_2 <|
  And.intro @fieldE.eq_1 <|
  And.intro @fieldE.eq_2 <|
  And.intro @fieldE.eq_3 <|
  And.intro @indexE.eq_1 <|
  And.intro @indexE.eq_2 <|
  And.intro @indexE.eq_3 <|
  And.intro @extractE.eq_1 <|
  And.intro @extractE.eq_2 <|
  And.intro @sindexE.eq_1 <|
  And.intro @sindexE.eq_2 <|
  And.intro @ssliceE.eq_1 <|
  And.intro @ssliceE.eq_2 <|
  And.intro @lenE.eq_1 <|
  And.intro @lenE.eq_2 <|
  And.intro @lenE.eq_3 <|
  And.intro @maxE.eq_1 <|
  And.intro @maxE.eq_2 <|
  And.intro @maxE.eq_3 <|
  And.intro @minE.eq_1 <|
  And.intro @minE.eq_2 <|
  And.intro @appendE.eq_1 <|
  And.intro @appendE.eq_2 <|
  And.intro @appendE.eq_3 <|
  And.intro @sliceElem.eq_1 <|
  And.intro @intArith.eq_1 <|
  And.intro @intArith.eq_2 <|
  And.intro @intBin.eq_1 <|
  And.intro @intBin.eq_2 <|
  And.intro @intBin.eq_3 <|
  And.intro @intBin.eq_4 <|
  And.intro @intBin.eq_5 <|
  And.intro @intBin.eq_6 <|
  And.intro @intBin.eq_7 <|
  And.intro @intBin.eq_8 <|
  And.intro @intBin.eq_9 <|
  And.intro @intBin.eq_10 <|
  And.intro @intBin.eq_11 <|
  And.intro @intBin.eq_12 <|
  And.intro @strBin.eq_1 <|
  And.intro @strBin.eq_2 <|
  And.intro @strBin.eq_3 <|
  And.intro @strBin.eq_4 <|
  And.intro @boolBin.eq_1 <|
  And.intro @boolBin.eq_2 <|
  And.intro @boolBin.eq_3 <|
  And.intro @S.kill.eq_1 <|
  And.intro @V.kill.eq_1 <|
  And.intro @splice.eq_1 <|
  And.intro @thenQ.eq_1 <|
  And.intro @thenQ.eq_2 <|
  And.intro @blkQ.eq_1 <|
  And.intro @blkQ.eq_2 <|
  And.intro @retQ.eq_1 <|
  And.intro @retQ.eq_2 <|
  And.intro @isIn.eq_1 <|
  And.intro @isIn.eq_2 <|
  And.intro @hold.eq_1 <|
  And.intro @hold.eq_2 <|
  And.intro @badV.eq_1 <|
  And.intro @badB.eq_1 <|
  And.intro @amDraw.eq_1 <|
  And.intro @amDraw.eq_2 <|
  And.intro @amOpD.eq_1 <|
  And.intro @recOf.eq_1 <|
  And.intro @V.frzK.eq_1 <|
  And.intro @V.frzK.eq_2 <|
  And.intro @rsOf.eq_1 <|
  And.intro @V.psite.eq_1 <|
  And.intro @V.psite.eq_2 <|
  And.intro @Cell.sites.eq_1 <|
  And.intro @Cell.sites.eq_2 <|
  And.intro @Cell.sites.eq_3 <|
  And.intro @Cell.sites.eq_4 <|
  And.intro @V.sites.eq_1 <|
  And.intro @V.sites.eq_2 <|
  And.intro @V.sites.eq_3 <|
  And.intro @V.sites.eq_4 <|
  And.intro @V.sites.eq_5 <|
  And.intro @V.sites.eq_6 <|
  And.intro @Rec.sites.eq_1 <|
  And.intro @Rec.app.eq_1 <|
  And.intro @resOf.eq_1 <|
  And.intro @resVs.eq_1 <|
  And.intro @resVs.eq_2 <|
  And.intro @resVs.eq_3 <|
  And.intro @argsV.eq_1 <|
  And.intro @argsV.eq_2 <|
  And.intro @cellRes.eq_1 <|
  And.intro @cellRes.eq_2 <|
  And.intro @cellRes.eq_3 <|
  And.intro @cellRes.eq_4 <|
  And.intro @envIn.eq_1 <|
  And.intro @envIn.eq_2 <|
  And.intro @S.retag.eq_1 <|
  And.intro @V.retag.eq_1 <|
  And.intro @V.retag.eq_2 <|
  And.intro @V.retag.eq_3 <|
  And.intro @Cell.retag.eq_1 <|
  And.intro @Cell.retag.eq_2 <|
  And.intro @Cell.retag.eq_3 <|
  And.intro @Cell.retag.eq_4 <|
  And.intro @S.freeze.eq_1 <|
  And.intro @V.freeze.eq_1 <|
  And.intro @V.freeze.eq_2 <|
  And.intro @V.freeze.eq_3 <|
  And.intro @Cell.freeze.eq_1 <|
  And.intro @Cell.freeze.eq_2 <|
  And.intro @Cell.freeze.eq_3 <|
  And.intro @Cell.freeze.eq_4 <|
  And.intro @argEnv.eq_1 <|
  And.intro @argEnv.eq_2 <|
  And.intro @X.out.eq_1 <|
  And.intro @X.out.eq_2 <|
  And.intro @X.out.eq_3 <|
  And.intro @C.scalar.eq_1 <|
  And.intro @C.scalar.eq_2 <|
  And.intro @C.scalar.eq_3 <|
  And.intro @C.scalar.eq_4 <|
  And.intro @C.scalar.eq_5 <|
  And.intro @C.scalar.eq_6 <|
  And.intro @C.scalar.eq_7 <|
  And.intro @C.scalar.eq_8 <|
  And.intro @A.scalar.eq_1 <|
  And.intro @A.scalar.eq_2 <|
  And.intro @amCallN.eq_1 <|
  And.intro @isObjCall.eq_1 <|
  And.intro @objCall.eq_1 <|
  And.intro @objArgs.eq_1 <|
  And.intro @objArgs.eq_2 <|
  And.intro @V.isObj.eq_1 <|
  And.intro @V.isObj.eq_2 <|
  And.intro @A.isObj.eq_1 <|
  And.intro @A.isObj.eq_2 <|
  And.intro @calleeV.eq_1 <|
  And.intro @amObj.eq_1 <|
  And.intro @amObj0.eq_1 <|
  And.intro @objK.eq_1 <|
  And.intro @objK.eq_2 <|
  And.intro @objK.eq_3 <|
  And.intro @objK.eq_4 <|
  And.intro @S.objOk.eq_1 <|
  And.intro @S.objPut.eq_1 <|
  And.intro @putEnv.eq_1 <|
  And.intro @putEnv.eq_2 <|
  And.intro @resO.eq_1 <|
  And.intro @resO.eq_2 <|
  And.intro @capRefs.eq_1 <|
  And.intro @retQO.eq_1 <|
  @retQO.eq_2
  ) :=
  And.intro @emptyLit.eq_1 <|
  And.intro @V.frzO.eq_1 <|
  And.intro @onlyOk.eq_1 <|
  And.intro @S.onlyAt.eq_1 <|
  And.intro @aggE.eq_1 <|
  And.intro @aggE.eq_2 <|
  And.intro @aggE.eq_3 <|
  And.intro @amOps.eq_1 <|
  And.intro @amOps.eq_2 <|
  And.intro @amOp.eq_1 <|
  And.intro @amCall.eq_1 <|
  And.intro @amCall0.eq_1 <|
  And.intro @amClo.eq_1 <|
  And.intro @delL.eq_1 <|
  And.intro @delL.eq_2 <|
  And.intro @S.del.eq_1 <|
  And.intro @argSites.eq_1 <|
  And.intro @argSites.eq_2 <|
  And.intro @frzUnless.eq_1 <|
  And.intro @frzUnless.eq_2 <|
  And.intro @cellSites.eq_1 <|
  And.intro @cellSites.eq_2 <|
  And.intro @cellSites.eq_3 <|
  And.intro @cellSites.eq_4 <|
  And.intro @cellSites.eq_5 <|
  And.intro @partSites.eq_1 <|
  And.intro @partSites.eq_2 <|
  And.intro @partSites.eq_3 <|
  And.intro @S.frz.eq_1 <|
  And.intro @S.frz.eq_2 <|
  And.intro @frzA.eq_1 <|
  And.intro @frzA.eq_2 <|
  And.intro @cloOf.eq_1 <|
  And.intro @capArgs.eq_1 <|
  And.intro @capArgs.eq_2 <|
  And.intro @mapKd.eq_1 <|
  And.intro @mapKd.eq_2 <|
  And.intro @makeMapE.eq_1 <|
  And.intro @makeMapE.eq_2 <|
  And.intro @lookE.eq_1 <|
  And.intro @lookE.eq_2 <|
  And.intro @lookupE.eq_1 <|
  And.intro @mapPutE.eq_1 <|
  And.intro @mapPutE.eq_2 <|
  And.intro @foundV.eq_1 <|
  And.intro @foundV.eq_2 <|
  And.intro @entsOf.eq_1 <|
  And.intro @entsOf.eq_2 <|
  And.intro @entsOf.eq_3 <|
  And.intro @capsOf.eq_1 <|
  And.intro @capsOf.eq_2 <|
  And.intro @capsOf.eq_3 <|
  And.intro @makeFuncE.eq_1 <|
  And.intro @makeFuncE.eq_2 <|
  And.intro @makeFuncE.eq_3 <|
  And.intro @S.mput.eq_1 <|
  And.intro @V.mput.eq_1 <|
  And.intro @V.mput.eq_2 <|
  And.intro @V.mput.eq_3 <|
  And.intro @Cell.mput.eq_1 <|
  And.intro @Cell.mput.eq_2 <|
  And.intro @effF.eq_1 <|
  And.intro @callE.eq_1 <|
  And.intro @biE.eq_1 <|
  And.intro @biE.eq_2 <|
  And.intro @biE.eq_3 <|
  And.intro @biE.eq_4 <|
  And.intro @biE.eq_5 <|
  And.intro @calleeOf.eq_1 <|
  And.intro @evalO.eq_1 <|
  And.intro @evalO.eq_2 <|
  And.intro @evalO.eq_3 <|
  And.intro @evalO.eq_4 <|
  And.intro @constV.eq_1 <|
  And.intro @constV.eq_2 <|
  And.intro @constV.eq_3 <|
  And.intro @constV.eq_4 <|
  And.intro @constV.eq_5 <|
  And.intro @constV.eq_6 <|
  And.intro @constV.eq_7 <|
  And.intro @constV.eq_8 <|
  And.intro @S.get.eq_1 <|
  And.intro @S.set.eq_1 <|
  And.intro @S.put.eq_1 <|
  And.intro @S.put.eq_2 <|
  And.intro @amLook.eq_1 <|
  And.intro @amLook.eq_2 <|
  And.intro @Act'.run.eq_1 <|
  And.intro @Act'.run.eq_2 <|
  And.intro @Act'.run.eq_3 <|
  And.intro @Act'.run.eq_4 <|
  And.intro @Act'.run.eq_5 <|
  And.intro @Act'.run.eq_6 <|
  And.intro @Act'.run.eq_7 <|
  And.intro @Eff.ok.eq_1 <|
  And.intro @Eff.c.eq_1 <|
  And.intro @V.cells.eq_1 <|
  And.intro @V.cells.eq_2 <|
  And.intro @V.cells.eq_3 <|
  And.intro @freshOk.eq_1 <|
  And.intro @S.fresh.eq_1 <|
  And.intro @Cell.site?.eq_1 <|
  And.intro @Cell.site?.eq_2 <|
  And.intro @Cell.site?.eq_3 <|
  And.intro @Cell.site?.eq_4 <|
  And.intro @V.site?.eq_1 <|
  And.intro @V.site?.eq_2 <|
  And.intro @V.site?.eq_3 <|
  And.intro @V.site?.eq_4 <|
  And.intro @V.site?.eq_5 <|
  And.intro @V.site?.eq_6 <|
  And.intro @Cell.tag?.eq_1 <|
  And.intro @Cell.tag?.eq_2 <|
  And.intro @Cell.tag?.eq_3 <|
  And.intro @Cell.tag?.eq_4 <|
  And.intro @V.tag?.eq_1 <|
  And.intro @V.tag?.eq_2 <|
  And.intro @V.tag?.eq_3 <|
  And.intro @litRows.eq_1 <|
  And.intro @litRows.eq_2 <|
  And.intro @litRows.eq_3 <|
  And.intro @fillCells.eq_1 <|
  And.intro @fillCells.eq_2 <|
  And.intro @fillCells.eq_3 <|
  And.intro @Cell.pure?.eq_1 <|
  And.intro @Cell.pure?.eq_2 <|
  And.intro @Cell.pure?.eq_3 <|
  And.intro @Cell.pure?.eq_4 <|
  And.intro @Cell.data.eq_1 <|
  And.intro @Cell.data.eq_2 <|
  And.intro @Cell.data.eq_3 <|
  And.intro @Cell.data.eq_4 <|
  And.intro @rowsOf.eq_1 <|
  And.intro @rowsOf.eq_2 <|
  And.intro @rowsOf.eq_3 <|
  And.intro @argsOf.eq_1 <|
  And.intro @argsOf.eq_2 <|
  And.intro @pures.eq_1 <|
  And.intro @pures.eq_2 <|
  And.intro @V.arg.eq_1 <|
  And.intro @V.arg.eq_2 <|
  And.intro @V.arg.eq_3 <|
  And.intro @V.arg.eq_4 <|
  And.intro @V.pure?.eq_1 <|
  And.intro @V.pure?.eq_2 <|
  And.intro @V.pure?.eq_3 <|
  And.intro @resV.eq_1 <|
  And.intro @resV.eq_2 <|
  And.intro @A.val.eq_1 <|
  And.intro @A.val.eq_2 <|
  And.intro @A.val.eq_3 <|
  And.intro @zeros.eq_1 <|
  And.intro @zeros.eq_2 <|
  And.intro @Z.cell.eq_1 <|
  And.intro @Z.cell.eq_2 <|
  And.intro @Z.cell.eq_3 <|
  And.intro @Z.cell.eq_4 <|
  And.intro @Z.cell.eq_5 <|
  And.intro @Z.cell.eq_6 <|
  And.intro @Z.cell.eq_7 <|
  And.intro @moveE.eq_1 <|
  And.intro @moveE.eq_2 <|
  And.intro @moveE.eq_3 <|
  And.intro @pickE.eq_1 <|
  And.intro @pickE.eq_2 <|
  And.intro @pickV.eq_1 <|
  And.intro @pickV.eq_2 <|
  And.intro @pickV.eq_3 <|
  And.intro @allocE.eq_1 <|
  And.intro @allocE.eq_2 <|
  And.intro @boxE.eq_1 <|
  And.intro @buildE.eq_1 <|
  And.intro @buildE.eq_2 <|
  And.intro @nilE.eq_1 <|
  And.intro @nilE.eq_2 <|
  And.intro @buildSliceE.eq_1 <|
  And.intro @buildSliceE.eq_2 <|
  And.intro @loadE.eq_1 <|
  And.intro @loadE.eq_2 <|
  And.intro @loadE.eq_3 <|
  And.intro @loadE.eq_4 <|
  And.intro @loadE.eq_5 <|
  And.intro @loadE.eq_6 <|
  And.intro @storeE.eq_1 <|
  And.intro @storeE.eq_2 <|
  And.intro @nilCheckE.eq_1 <|
  And.intro @nilCheckE.eq_2 <|
  And.intro @nilCheckE.eq_3 <|
  And.intro @binE.eq_1 <|
  And.intro @binE.eq_2 <|
  And.intro @binE.eq_3 <|
  And.intro @binE.eq_4 <|
  And.intro @binE.eq_5 <|
  And.intro @binE.eq_6 <|
  And.intro @unE.eq_1 <|
  And.intro @unE.eq_2 <|
  And.intro @unE.eq_3 <|
  And.intro @convE.eq_1 <|
  And.intro @convE.eq_2 <|
  And.intro @fieldE.eq_1 <|
  And.intro @fieldE.eq_2 <|
  And.intro @fieldE.eq_3 <|
  And.intro @indexE.eq_1 <|
  And.intro @indexE.eq_2 <|
  And.intro @indexE.eq_3 <|
  And.intro @extractE.eq_1 <|
  And.intro @extractE.eq_2 <|
  And.intro @sindexE.eq_1 <|
  And.intro @sindexE.eq_2 <|
  And.intro @ssliceE.eq_1 <|
  And.intro @ssliceE.eq_2 <|
  And.intro @lenE.eq_1 <|
  And.intro @lenE.eq_2 <|
  And.intro @lenE.eq_3 <|
  And.intro @maxE.eq_1 <|
  And.intro @maxE.eq_2 <|
  And.intro @maxE.eq_3 <|
  And.intro @minE.eq_1 <|
  And.intro @minE.eq_2 <|
  And.intro @appendE.eq_1 <|
  And.intro @appendE.eq_2 <|
  And.intro @appendE.eq_3 <|
  And.intro @sliceElem.eq_1 <|
  And.intro @intArith.eq_1 <|
  And.intro @intArith.eq_2 <|
  And.intro @intBin.eq_1 <|
  And.intro @intBin.eq_2 <|
  And.intro @intBin.eq_3 <|
  And.intro @intBin.eq_4 <|
  And.intro @intBin.eq_5 <|
  And.intro @intBin.eq_6 <|
  And.intro @intBin.eq_7 <|
  And.intro @intBin.eq_8 <|
  And.intro @intBin.eq_9 <|
  And.intro @intBin.eq_10 <|
  And.intro @intBin.eq_11 <|
  And.intro @intBin.eq_12 <|
  And.intro @strBin.eq_1 <|
  And.intro @strBin.eq_2 <|
  And.intro @strBin.eq_3 <|
  And.intro @strBin.eq_4 <|
  And.intro @boolBin.eq_1 <|
  And.intro @boolBin.eq_2 <|
  And.intro @boolBin.eq_3 <|
  And.intro @S.kill.eq_1 <|
  And.intro @V.kill.eq_1 <|
  And.intro @splice.eq_1 <|
  And.intro @thenQ.eq_1 <|
  And.intro @thenQ.eq_2 <|
  And.intro @blkQ.eq_1 <|
  And.intro @blkQ.eq_2 <|
  And.intro @retQ.eq_1 <|
  And.intro @retQ.eq_2 <|
  And.intro @isIn.eq_1 <|
  And.intro @isIn.eq_2 <|
  And.intro @hold.eq_1 <|
  And.intro @hold.eq_2 <|
  And.intro @badV.eq_1 <|
  And.intro @badB.eq_1 <|
  And.intro @amDraw.eq_1 <|
  And.intro @amDraw.eq_2 <|
  And.intro @amOpD.eq_1 <|
  And.intro @recOf.eq_1 <|
  And.intro @V.frzK.eq_1 <|
  And.intro @V.frzK.eq_2 <|
  And.intro @rsOf.eq_1 <|
  And.intro @V.psite.eq_1 <|
  And.intro @V.psite.eq_2 <|
  And.intro @Cell.sites.eq_1 <|
  And.intro @Cell.sites.eq_2 <|
  And.intro @Cell.sites.eq_3 <|
  And.intro @Cell.sites.eq_4 <|
  And.intro @V.sites.eq_1 <|
  And.intro @V.sites.eq_2 <|
  And.intro @V.sites.eq_3 <|
  And.intro @V.sites.eq_4 <|
  And.intro @V.sites.eq_5 <|
  And.intro @V.sites.eq_6 <|
  And.intro @Rec.sites.eq_1 <|
  And.intro @Rec.app.eq_1 <|
  And.intro @resOf.eq_1 <|
  And.intro @resVs.eq_1 <|
  And.intro @resVs.eq_2 <|
  And.intro @resVs.eq_3 <|
  And.intro @argsV.eq_1 <|
  And.intro @argsV.eq_2 <|
  And.intro @cellRes.eq_1 <|
  And.intro @cellRes.eq_2 <|
  And.intro @cellRes.eq_3 <|
  And.intro @cellRes.eq_4 <|
  And.intro @envIn.eq_1 <|
  And.intro @envIn.eq_2 <|
  And.intro @S.retag.eq_1 <|
  And.intro @V.retag.eq_1 <|
  And.intro @V.retag.eq_2 <|
  And.intro @V.retag.eq_3 <|
  And.intro @Cell.retag.eq_1 <|
  And.intro @Cell.retag.eq_2 <|
  And.intro @Cell.retag.eq_3 <|
  And.intro @Cell.retag.eq_4 <|
  And.intro @S.freeze.eq_1 <|
  And.intro @V.freeze.eq_1 <|
  And.intro @V.freeze.eq_2 <|
  And.intro @V.freeze.eq_3 <|
  And.intro @Cell.freeze.eq_1 <|
  And.intro @Cell.freeze.eq_2 <|
  And.intro @Cell.freeze.eq_3 <|
  And.intro @Cell.freeze.eq_4 <|
  And.intro @argEnv.eq_1 <|
  And.intro @argEnv.eq_2 <|
  And.intro @X.out.eq_1 <|
  And.intro @X.out.eq_2 <|
  And.intro @X.out.eq_3 <|
  And.intro @C.scalar.eq_1 <|
  And.intro @C.scalar.eq_2 <|
  And.intro @C.scalar.eq_3 <|
  And.intro @C.scalar.eq_4 <|
  And.intro @C.scalar.eq_5 <|
  And.intro @C.scalar.eq_6 <|
  And.intro @C.scalar.eq_7 <|
  And.intro @C.scalar.eq_8 <|
  And.intro @A.scalar.eq_1 <|
  And.intro @A.scalar.eq_2 <|
  And.intro @amCallN.eq_1 <|
  And.intro @isObjCall.eq_1 <|
  And.intro @objCall.eq_1 <|
  And.intro @objArgs.eq_1 <|
  And.intro @objArgs.eq_2 <|
  And.intro @V.isObj.eq_1 <|
  And.intro @V.isObj.eq_2 <|
  And.intro @A.isObj.eq_1 <|
  And.intro @A.isObj.eq_2 <|
  And.intro @calleeV.eq_1 <|
  And.intro @amObj.eq_1 <|
  And.intro @amObj0.eq_1 <|
  And.intro @objK.eq_1 <|
  And.intro @objK.eq_2 <|
  And.intro @objK.eq_3 <|
  And.intro @objK.eq_4 <|
  And.intro @S.objOk.eq_1 <|
  And.intro @S.objPut.eq_1 <|
  And.intro @putEnv.eq_1 <|
  And.intro @putEnv.eq_2 <|
  And.intro @resO.eq_1 <|
  And.intro @resO.eq_2 <|
  And.intro @capRefs.eq_1 <|
  And.intro @retQO.eq_1 <|
  @retQO.eq_2
theorem amlib : type_of% (
  And.intro @if_true.{1} <|
  And.intro @if_true.{1} <|
  And.intro @if_false.{1} <|
  And.intro @if_false.{1} <|
  And.intro @Option.getD_some.{0} <|
  And.intro @Option.getD_none.{0} <|
  And.intro @Option.map_some.{0,0} <|
  And.intro @Option.map_none.{0,0} <|
  And.intro @Option.bind_some.{0,0} <|
  And.intro @Option.bind_none.{0,0} <|
  And.intro @Option.some.injEq.{0} <|
  And.intro @List.map_cons.{0,0} <|
  And.intro @List.map_nil.{0,0} <|
  And.intro @List.all_cons.{0} <|
  And.intro @List.all_nil.{0} <|
  And.intro @List.any_cons.{0} <|
  And.intro @List.any_nil.{0} <|
  And.intro @Bool.and_true <|
  And.intro @Bool.true_and <|
  And.intro @Bool.or_false <|
  And.intro @Bool.false_or <|
  And.intro @Bool.not_true <|
  And.intro @Bool.not_false <|
  And.intro @Bool.and_false <|
  And.intro @Bool.false_and <|
  And.intro @Bool.true_or <|
  And.intro @Bool.or_true <|
  And.intro @List.drop_succ_cons.{0} <|
  And.intro @List.drop_zero.{0} <|
  And.intro @List.take_succ_cons.{0} <|
  And.intro @List.take_zero.{0} <|
  And.intro @List.cons_append.{0} <|
  And.intro @List.nil_append.{0} <|
  And.intro @List.append_nil.{0} <|
  And.intro @List.length_cons.{0} <|
  And.intro @List.length_nil.{0} <|
  And.intro @List.length_append.{0} <|
  And.intro @List.getElem?_cons_succ.{0} <|
  And.intro @List.getElem?_cons_zero.{0} <|
  And.intro @Nat.add_zero <|
  And.intro @Nat.zero_add <|
  And.intro @forall_const.{0} <|
  And.intro @true_implies <|
  And.intro @true_and <|
  And.intro @and_true <|
  And.intro @false_and <|
  And.intro @and_false <|
  And.intro @and_self <|
  And.intro @ne_eq.{1} <|
  And.intro @not_true_eq_false <|
  And.intro @not_false_eq_true <|
  And.intro @beq_self_eq_true.{0} <|
  And.intro @bne_self_eq_false.{0} <|
  And.intro @Bool.false_eq_true <|
  And.intro @implies_true.{0} <|
  And.intro @Nat.le_refl <|
  And.intro @List.drop_nil.{0} <|
  And.intro @List.take_nil.{0} <|
  And.intro @Nat.succ_ne_self <|
  And.intro @Nat.one_ne_zero <|
  And.intro @Nat.zero_ne_one <|
  And.intro @decide_true <|
  And.intro @decide_false <|
  And.intro @List.getD_cons_zero.{0} <|
  And.intro @List.getD_cons_succ.{0} <|
  And.intro @cond_true.{1} <|
  And.intro @cond_false.{1} <|
  And.intro @Nat.zero_le <|
  And.intro @List.append_eq.{0} <|
  And.intro @Array.toList_append.{0} <|
  And.intro @Array.append_eq_append.{0} <|
  And.intro @List.toList_toArray.{0} <|
  And.intro @List.size_toArray.{0} <|
  And.intro @List.tail_cons.{0} <|
  And.intro @List.flatMap_cons.{0,0} <|
  And.intro @List.flatMap_nil.{0,0} <|
  And.intro @true_or <|
  And.intro @or_true <|
  And.intro @or_false <|
  @false_or
  ) :=
  And.intro @if_true.{1} <|
  And.intro @if_true.{1} <|
  And.intro @if_false.{1} <|
  And.intro @if_false.{1} <|
  And.intro @Option.getD_some.{0} <|
  And.intro @Option.getD_none.{0} <|
  And.intro @Option.map_some.{0,0} <|
  And.intro @Option.map_none.{0,0} <|
  And.intro @Option.bind_some.{0,0} <|
  And.intro @Option.bind_none.{0,0} <|
  And.intro @Option.some.injEq.{0} <|
  And.intro @List.map_cons.{0,0} <|
  And.intro @List.map_nil.{0,0} <|
  And.intro @List.all_cons.{0} <|
  And.intro @List.all_nil.{0} <|
  And.intro @List.any_cons.{0} <|
  And.intro @List.any_nil.{0} <|
  And.intro @Bool.and_true <|
  And.intro @Bool.true_and <|
  And.intro @Bool.or_false <|
  And.intro @Bool.false_or <|
  And.intro @Bool.not_true <|
  And.intro @Bool.not_false <|
  And.intro @Bool.and_false <|
  And.intro @Bool.false_and <|
  And.intro @Bool.true_or <|
  And.intro @Bool.or_true <|
  And.intro @List.drop_succ_cons.{0} <|
  And.intro @List.drop_zero.{0} <|
  And.intro @List.take_succ_cons.{0} <|
  And.intro @List.take_zero.{0} <|
  And.intro @List.cons_append.{0} <|
  And.intro @List.nil_append.{0} <|
  And.intro @List.append_nil.{0} <|
  And.intro @List.length_cons.{0} <|
  And.intro @List.length_nil.{0} <|
  And.intro @List.length_append.{0} <|
  And.intro @List.getElem?_cons_succ.{0} <|
  And.intro @List.getElem?_cons_zero.{0} <|
  And.intro @Nat.add_zero <|
  And.intro @Nat.zero_add <|
  And.intro @forall_const.{0} <|
  And.intro @true_implies <|
  And.intro @true_and <|
  And.intro @and_true <|
  And.intro @false_and <|
  And.intro @and_false <|
  And.intro @and_self <|
  And.intro @ne_eq.{1} <|
  And.intro @not_true_eq_false <|
  And.intro @not_false_eq_true <|
  And.intro @beq_self_eq_true.{0} <|
  And.intro @bne_self_eq_false.{0} <|
  And.intro @Bool.false_eq_true <|
  And.intro @implies_true.{0} <|
  And.intro @Nat.le_refl <|
  And.intro @List.drop_nil.{0} <|
  And.intro @List.take_nil.{0} <|
  And.intro @Nat.succ_ne_self <|
  And.intro @Nat.one_ne_zero <|
  And.intro @Nat.zero_ne_one <|
  And.intro @decide_true <|
  And.intro @decide_false <|
  And.intro @List.getD_cons_zero.{0} <|
  And.intro @List.getD_cons_succ.{0} <|
  And.intro @cond_true.{1} <|
  And.intro @cond_false.{1} <|
  And.intro @Nat.zero_le <|
  And.intro @List.append_eq.{0} <|
  And.intro @Array.toList_append.{0} <|
  And.intro @Array.append_eq_append.{0} <|
  And.intro @List.toList_toArray.{0} <|
  And.intro @List.size_toArray.{0} <|
  And.intro @List.tail_cons.{0} <|
  And.intro @List.flatMap_cons.{0,0} <|
  And.intro @List.flatMap_nil.{0,0} <|
  And.intro @true_or <|
  And.intro @or_true <|
  And.intro @or_false <|
  @false_or
end Go.Proofs.Am
