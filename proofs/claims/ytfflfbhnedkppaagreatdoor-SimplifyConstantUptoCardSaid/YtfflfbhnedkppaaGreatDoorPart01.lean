/- Part 1 of a proof that the law holds of every input of the given bulk. -/
import Derived.Test.YtfflfbhnedkppaaGreatDoorPart00
set_option autoImplicit false
set_option linter.unusedSimpArgs false
set_option linter.unusedVariables false
set_option linter.unusedSectionVars false
namespace Go.Proofs.Am
open Go.RowKit
theorem valW_some {α : Type} {W : Nat → Option α} {b : Option α} {D : Nat → Bool} {x : α} : ∀ {n : Nat}, valW W b D n = some x → b = some x ∨ ∃ i, i < n ∧ D i = true ∧ W i = some x := by
  intro n
  induction n with
  | zero => intro h; exact .inl h
  | succ n ih =>
    intro h
    simp only [valW] at h
    have go : valW W b D n = some x → b = some x ∨ ∃ i, i < n + 1 ∧ D i = true ∧ W i = some x := fun h => by
      rcases ih h with h | ⟨i, h1, h2⟩
      · exact .inl h
      · exact .inr ⟨i, by omega, h2⟩
    split at h
    · rename_i y hy
      split at h
      · rename_i hd; exact .inr ⟨n, by omega, hd, hy.trans h⟩
      · exact go h
    · exact go h
def cntN (D : Nat → Bool) : Nat → Nat
  | 0 => 0
  | n + 1 => cntN D n + (if D n = true then 0 else 1)
theorem cntN_zero {D : Nat → Bool} : ∀ {n : Nat}, cntN D n = 0 → ∀ i, i < n → D i = true := by
  intro n
  induction n with
  | zero => intro _ i h; omega
  | succ n ih =>
    intro h i hi
    simp only [cntN] at h
    by_cases hn : D n = true
    · by_cases e : i = n
      · rw [e]; exact hn
      · exact ih (by omega) i (by omega)
    · rw [if_neg hn] at h; omega
theorem cntN_set {D D' : Nat → Bool} {j : Nat} (h1 : D j = false) (h2 : D' j = true) (h3 : ∀ i, i ≠ j → D' i = D i) : ∀ {n : Nat}, cntN D' n + (if j < n then 1 else 0) = cntN D n := by
  intro n
  induction n with
  | zero => simp [cntN]
  | succ n ih =>
    simp only [cntN]
    by_cases e : n = j
    · subst e
      rw [h1, h2, if_neg (Nat.lt_irrefl n)] at *
      simp
      omega
    · rw [h3 n e]
      by_cases hj : j < n
      · simp only [hj, show j < n + 1 by omega, if_true] at *; omega
      · simp only [hj, show ¬ j < n + 1 by omega, if_false] at *; omega
section
variable {P : Program} {G : Ctx} {ok : Nat → Prop} {w0 : World} {N : Nat} {ops : Array Oper}
theorem stepD_dst {o : Oper} {s : S} {r : Rec} (h : StepD P G ops o s r) {t : Nat} (ht : r.dst = some t) : o.dst = some t := by
  rcases h with ⟨_, rfl⟩ | ⟨_, e, he, _, _, hr⟩ | ⟨_, c, f, args, res, _, _, _, _, _, rfl⟩
  · exact ht
  · unfold recOf at hr
    split at hr
    · injection hr with hr; subst hr; exact ht
    · injection hr with hr; subst hr; exact ht
    · split at hr
      · split at hr
        · injection hr with hr; subst hr; cases ht
        · cases hr
      · cases hr
    · cases hr
    · cases hr
    · cases hr
    · cases hr
  · exact ht
structure DInv (ops : Array Oper) (s0 : S) (tr : List (Rec × DR)) (D : Nat → Bool) (s' : S) : Prop where
  cl : Cl ops D
  env : ∀ t, amLook t s'.env = valW (Wt tr t) (amLook t s0.env) D tr.length
  box : ∀ k, amLook k s'.box = valW (Wb tr k) (amLook k s0.box) D tr.length
structure Chk (ops : Array Oper) (tab : List Nat) (tr : List (Rec × DR)) : Prop where
  row : ∀ j, j < ops.size → rowChk ops tab j = true
  pair : ∀ i j, i < j → j < ops.size → pairChk ops tab (tr.map (·.2)) i j = true
theorem pair_spec {tab : List Nat} {tr : List (Rec × DR)} {i j : Nat} (h : pairChk ops tab (tr.map (·.2)) i j = true) {oi oj : Oper} {pi pj : Rec × DR} (hi : ops[i]? = some oi) (hj : ops[j]? = some oj) (hpi : tr[i]? = some pi) (hpj : tr[j]? = some pj) :
    ((oi.apart ops oj = true ∧ siteApart pi.2 pj.2 = true) ∨ (tab.getD j 0).testBit i = true) ∧ keyLate pj.2 pi.2 = true := by
  unfold pairChk at h
  simpa [hi, hj, List.getElem?_map, hpi, hpj, Bool.and_eq_true, Bool.or_eq_true] using h
theorem Wt_some {tr : List (Rec × DR)} {t n : Nat} {v : V} (h : Wt tr t n = some v) : ∃ p, tr[n]? = some p ∧ p.1.dst = some t ∧ p.1.v = v := by
  unfold Wt at h
  split at h
  · rename_i p hp
    split at h
    · rename_i hd; injection h with h; exact ⟨p, hp, hd, h⟩
    · cases h
  · cases h
theorem Wb_some {tr : List (Rec × DR)} {k n : Nat} {cs : List Cell} (h : Wb tr k n = some cs) : ∃ p, tr[n]? = some p ∧ p.1.ws = some (k, cs) := by
  unfold Wb at h
  split at h
  · rename_i p hp
    split at h
    · rename_i q hq
      split at h
      · rename_i hk
        injection h with h
        refine ⟨p, hp, ?_⟩
        rw [hq, ← hk, ← h]
      · cases h
    · cases h
  · cases h
theorem draw_step (hT : TyOk P G) (hng : G.nglob ≤ w0.heap.size) {s0 : S} {tab : List Nat} {tr : List (Rec × DR)} (htr : Trace P G ops 0 s0 tr) (hlen : tr.length = ops.size) (hchk : Chk ops tab tr) (hd : ∀ o ∈ ops.toList, dstIn N o = true)
    {D D' : Nat → Bool} {s' : S} (hI : DInv ops s0 tr D s') {j : Nat} (hj : j < ops.size) (hDj : D j = false) (hr : Rdy ops D j) (hD1 : D' j = true) (hD2 : ∀ i, i ≠ j → D' i = D i)
    {β : Nat → Option Nat} {Ω : Nat → Nat → Option Value} {a : Act} {w : World} (hR : Rel G ok w0 N β Ω s' a w) {next : Act → World → Prop} {Qx : Exit → Act → World → Prop}
    (hn : ∀ s'' a' w' β' Ω', DInv ops s0 tr D' s'' → Rel G ok w0 N β' Ω' s'' a' w' → next a' w') : wpOp P ops Qx j next a w := by
  have hjl : j < tr.length := by omega
  have hpj : tr[j]? = some (tr[j]) := List.getElem?_eq_getElem hjl
  generalize tr[j] = pj at hpj
  obtain ⟨oj, hoj', hst, hdo⟩ := trace_get htr hpj
  rw [Nat.zero_add] at hoj'
  -- whoever lies behind j has not been done
  have behind : ∀ i, i < ops.size → D i = true → (tab.getD i 0).testBit j = true → False := by
    intro i hi hDi hb
    have := anc_sound hI.cl hchk.row i j hi (hI.cl.rdy hDi) hb
    rw [hDj] at this; cases this
  have get : ∀ i, i < ops.size → ∃ oi pi, ops[i]? = some oi ∧ tr[i]? = some pi ∧ StepD P G ops oi (stN s0 tr i) pi.1 ∧ DOk G ops oi (stN s0 tr i) pi.1 pi.2 := by
    intro i hi
    have hpi : tr[i]? = some (tr[i]'(by omega)) := List.getElem?_eq_getElem (by omega)
    obtain ⟨oi, h1, h2, h3⟩ := trace_get htr hpi
    rw [Nat.zero_add] at h1
    exact ⟨oi, _, h1, hpi, h2, h3⟩
  -- the operation sees what it sees in the lexical run
  have henv : ∀ t ∈ oj.looksAt ops, amLook t (stN s0 tr j).env = amLook t s'.env := by
    intro t ht
    rw [stN_env t (by omega), hI.env t, ← valW_lt (n := tr.length) (by omega)]
    refine valW_agree fun i hi hw => ?_
    obtain ⟨v, hv⟩ := Option.ne_none_iff_exists'.1 hw
    obtain ⟨pi, hpi, hdst, _⟩ := Wt_some hv
    obtain ⟨oi, pi', hoi, hpi', hsti, _⟩ := get i (by omega)
    rw [hpi] at hpi'; injection hpi' with hpi'; subst hpi'
    have hod := stepD_dst hsti hdst
    rcases Nat.lt_trichotomy i j with hij | hij | hij
    · rcases (pair_spec (hchk.pair i j hij hj) hoi hoj' hpi hpj).1 with ⟨h1, _⟩ | h1
      · exact absurd ht ((Oper.apart_spec h1).1 t hod)
      · rw [anc_sound hI.cl hchk.row j i hj hr h1]; simp [hij]
    · subst hij; rw [hDj]; simp
    · cases hDi : D i
      · simp; omega
      · rcases (pair_spec (hchk.pair j i hij (by omega)) hoj' hoi hpj hpi).1 with ⟨h1, _⟩ | h1
        · exact absurd ht ((Oper.apart_spec h1).2.2 t hod)
        · exact (behind i (by omega) hDi h1).elim
  have hbox : wantS ops oj (stN s0 tr j) = some true → ∀ k, rsOf G oj (stN s0 tr j) = some k → amLook k (stN s0 tr j).box = amLook k s'.box := by
    intro hw k hk
    have hrs := hdo.rs hw k hk
    rw [stN_box k (by omega), hI.box k, ← valW_lt (n := tr.length) (by omega)]
    refine valW_agree fun i hi hw => ?_
    obtain ⟨v, hv⟩ := Option.ne_none_iff_exists'.1 hw
    obtain ⟨pi, hpi, hws⟩ := Wb_some hv
    obtain ⟨oi, pi', hoi, hpi', hsti, hdi⟩ := get i (by omega)
    rw [hpi] at hpi'; injection hpi' with hpi'; subst hpi'
    have hws' : pi.2.ws = some k := by rw [← hdi.ws, hws]; rfl
    rcases Nat.lt_trichotomy i j with hij | hij | hij
    · rcases (pair_spec (hchk.pair i j hij hj) hoi hoj' hpi hpj).1 with ⟨_, h1⟩ | h1
      · simp [siteApart, hws', hrs] at h1
      · rw [anc_sound hI.cl hchk.row j i hj hr h1]; simp [hij]
    · subst hij; rw [hDj]; simp
    · cases hDi : D i
      · simp; omega
      · rcases (pair_spec (hchk.pair j i hij (by omega)) hoj' hoi hpj hpi).1 with ⟨_, h1⟩ | h1
        · simp [siteApart, hws', hrs] at h1
        · exact (behind i (by omega) hDi h1).elim
  have hfr : wantS ops oj (stN s0 tr j) = some true → ∀ e, effF G oj (evalO G (stN s0 tr j)) (fun k => amLook k (stN s0 tr j).box) = some e → ∀ k, e.key = some k → FreshP s' k := by
    intro hw e he k hk
    obtain ⟨hkey, hfresh⟩ := hdo.key hw e he k hk
    obtain ⟨f1, f2⟩ := fresh_stN hfresh
    have other : ∀ i, i < tr.length → D i = true → ∀ pi, tr[i]? = some pi → k ∉ pi.1.sites ∧ pi.2.ws ≠ some k := by
      intro i hi hDi pi hpi
      obtain ⟨oi, pi', hoi, hpi', hsti, hdi⟩ := get i (by omega)
      rw [hpi] at hpi'; injection hpi' with hpi'; subst hpi'
      rcases Nat.lt_trichotomy i j with hij | hij | hij
      · have h1 := (pair_spec (hchk.pair i j hij hj) hoi hoj' hpi hpj).2
        simp [keyLate, hkey] at h1
        exact ⟨hdi.men k h1.1, h1.2⟩
      · subst hij; rw [hDj] at hDi; cases hDi
      · rcases (pair_spec (hchk.pair j i hij (by omega)) hoj' hoi hpj hpi).1 with ⟨_, h1⟩ | h1
        · simp [siteApart, hkey] at h1
          exact ⟨hdi.men k h1.2.1, h1.2.2⟩
        · exact (behind i (by omega) hDi h1).elim
    refine ⟨fun t v hv => ?_, fun t cs hc => ?_⟩
    · rw [hI.env t] at hv
      rcases valW_some hv with hv | ⟨i, hi, hDi, hw⟩
      · exact f1 t v hv
      · obtain ⟨pi, hpi, _, rfl⟩ := Wt_some hw
        refine V.sites_spec fun hm => (other i hi hDi pi hpi).1 ?_
        unfold Rec.sites; exact List.mem_append_left _ hm
    · rw [hI.box t] at hc
      rcases valW_some hc with hc | ⟨i, hi, hDi, hw⟩
      · exact f2 t cs hc
      · obtain ⟨pi, hpi, hws⟩ := Wb_some hw
        have h1 := (other i hi hDi pi hpi).1
        unfold Rec.sites at h1
        rw [hws] at h1
        simp only [List.mem_append, List.mem_cons, not_or] at h1
        exact ⟨fun e => h1.2.1 e.symm, Cells.sites_spec h1.2.2⟩
  have hdj : ∀ d, oj.dst = some d → d < N := by
    intro d hd'
    have := hd oj (by have := Array.mem_of_getElem? hoj'; simpa using this)
    rw [dstIn, hd'] at this; simpa using this
  refine stepD_exec hT hng hR hdj hoj' hst ⟨henv, hbox⟩ hfr fun a' w' β' Ω' hR' => hn _ a' w' β' Ω' ⟨?_, fun t => ?_, fun k => ?_⟩ hR'
  · intro i o ho hDi e he hb
    by_cases hij : i = j
    · subst hij
      have := hr o ho e he hb
      by_cases h2 : e.on = i
      · rw [h2] at this ⊢; exact hD1
      · rw [hD2 _ h2]; exact this
    · rw [hD2 i hij] at hDi
      have := hI.cl i o ho hDi e he hb
      by_cases h2 : e.on = j
      · rw [h2]; exact hD1
      · rw [hD2 _ h2]; exact this
  · rw [app_env]
    split
    · rename_i hdst
      refine (valW_last (j := j) (by simp [Wt, hpj, hdst]) hD1 hjl fun i hij hi hw => ?_).symm
      obtain ⟨v, hv⟩ := Option.ne_none_iff_exists'.1 hw
      obtain ⟨pi, hpi, hdi, _⟩ := Wt_some hv
      obtain ⟨oi, pi', hoi, hpi', hsti, _⟩ := get i (by omega)
      rw [hpi] at hpi'; injection hpi' with hpi'; subst hpi'
      rw [hD2 i (by omega)]
      cases hDi : D i
      · rfl
      · rcases (pair_spec (hchk.pair j i hij (by omega)) hoj' hoi hpj hpi).1 with ⟨h1, _⟩ | h1
        · exact absurd (stepD_dst hsti hdi) ((Oper.apart_spec h1).2.1 t (stepD_dst hst hdst))
        · exact (behind i (by omega) hDi h1).elim
    · rename_i hdst
      rw [hI.env t]
      refine valW_agree fun i hi hw => ?_
      by_cases hij : i = j
      · subst hij; exact absurd (by simp [Wt, hpj, hdst]) hw
      · exact (hD2 i hij).symm
  · rw [app_box]
    have hb : (∃ cs, pj.1.ws = some (k, cs)) ∨ (Wb tr k j = none ∧ (match pj.1.ws with | some q => if q.1 = k then some q.2 else amLook k s'.box | none => amLook k s'.box) = amLook k s'.box) := by
      cases hws : pj.1.ws with
      | none => exact .inr ⟨by simp [Wb, hpj, hws], rfl⟩
      | some q =>
        obtain ⟨q1, q2⟩ := q
        by_cases e : q1 = k
        · subst e; exact .inl ⟨q2, rfl⟩
        · exact .inr ⟨by simp [Wb, hpj, hws, e], by simp [e]⟩
    rcases hb with ⟨cs, hws⟩ | ⟨hb1, hb2⟩
    · rw [hws]
      simp only [if_true]
      refine (valW_last (j := j) (by simp [Wb, hpj, hws]) hD1 hjl fun i hij hi hw => ?_).symm
      obtain ⟨v, hv⟩ := Option.ne_none_iff_exists'.1 hw
      obtain ⟨pi, hpi, hwi⟩ := Wb_some hv
      obtain ⟨oi, pi', hoi, hpi', hsti, hdi⟩ := get i (by omega)
      rw [hpi] at hpi'; injection hpi' with hpi'; subst hpi'
      rw [hD2 i (by omega)]
      cases hDi : D i
      · rfl
      · have hwj : pj.2.ws = some k := by rw [← hdo.ws, hws]; rfl
        have hwi' : pi.2.ws = some k := by rw [← hdi.ws, hwi]; rfl
        rcases (pair_spec (hchk.pair j i hij (by omega)) hoj' hoi hpj hpi).1 with ⟨_, h1⟩ | h1
        · simp [siteApart, hwj, hwi'] at h1
        · exact (behind i (by omega) hDi h1).elim
    · refine Eq.trans hb2 ?_
      rw [hI.box k]
      refine valW_agree fun i hi hw => ?_
      by_cases hij : i = j
      · subst hij; exact absurd hb1 hw
      · exact (hD2 i hij).symm
theorem draw_sound (hT : TyOk P G) (hng : G.nglob ≤ w0.heap.size) {s0 : S} {tab : List Nat} {tr : List (Rec × DR)} (htr : Trace P G ops 0 s0 tr) (hlen : tr.length = ops.size) (hchk : Chk ops tab tr) (hd : ∀ o ∈ ops.toList, dstIn N o = true)
    {Qx : Exit → Act → World → Prop} (hQ : ∀ a' w' β' Ω', Rel G ok w0 N β' Ω' (stN s0 tr tr.length) a' w' → Qx .normal a' w') :
    ∀ (fuel : Nat) (listed : Array Bool) (s' : S) (a : Act) (w : World) (β : Nat → Option Nat) (Ω : Nat → Nat → Option Value), listed.size = ops.size → DInv ops s0 tr (fun j => listed.getD j false) s' → cntN (fun j => listed.getD j false) ops.size ≤ fuel →
      Rel G ok w0 N β Ω s' a w → wpAny P .any ops Qx fuel listed a w := by
  have done : ∀ (listed : Array Bool) (s' : S) (a : Act) (w : World) (β : Nat → Option Nat) (Ω : Nat → Nat → Option Value), DInv ops s0 tr (fun j => listed.getD j false) s' → (∀ j, j < ops.size → listed.getD j false = true) → Rel G ok w0 N β Ω s' a w → Qx .normal a w := by
    intro listed s' a w β Ω hI hall hR
    refine hQ a w β Ω (hR.eqv ⟨fun t => ?_, fun k => ?_⟩)
    · rw [hI.env t, stN_env t (Nat.le_refl _)]; exact valW_agree fun i hi _ => hall i (by omega)
    · rw [hI.box k, stN_box k (Nat.le_refl _)]; exact valW_agree fun i hi _ => hall i (by omega)
  have empty : ∀ (listed : Array Bool), listed.size = ops.size → Region.ready .any ops listed = [] → ∀ j, j < ops.size → listed.getD j false = true := by
    intro listed hsz hr j
    induction j using Nat.strongRecOn with
    | _ j ih =>
      intro hj
      cases hl : listed.getD j false
      · exfalso
        have ho : ops[j]? = some ops[j] := Array.getElem?_eq_getElem hj
        have hmem : j ∈ Region.ready .any ops listed := by
          refine mem_ready.2 ⟨?_, ops[j], ho, fun e he hb => ?_⟩
          · have : j < listed.size := by omega
            simp [this] at hl ⊢; exact hl
          · have h1 := hchk.row j hj
            unfold rowChk at h1
            rw [ho] at h1
            simp only [Bool.and_eq_true, List.all_eq_true, Bool.or_eq_true, Bool.not_eq_true', decide_eq_true_eq] at h1
            have hlt := (h1.2 e (by simpa using he)).resolve_left (by simp [hb])
            exact ih e.on hlt (by omega)
        rw [hr] at hmem; cases hmem
      · rfl
  intro fuel
  induction fuel with
  | zero =>
    intro listed s' a w β Ω hsz hI hc hR
    have hall := cntN_zero (D := fun j => listed.getD j false) (n := ops.size) (by omega)
    refine ⟨?_, done listed s' a w β Ω hI hall hR⟩
    cases hr : Region.ready .any ops listed with
    | nil => rfl
    | cons j l =>
      exfalso
      have hm : j ∈ Region.ready .any ops listed := by rw [hr]; simp
      obtain ⟨h1, o, h2, _⟩ := mem_ready.1 hm
      have hj : j < ops.size := (Array.getElem?_eq_some_iff.1 h2).1
      have h3 := hall j hj
      have : j < listed.size := by omega
      simp [this] at h1 h3
      rw [h1] at h3; cases h3
  | succ fuel ih =>
    intro listed s' a w β Ω hsz hI hc hR
    refine ⟨fun hr => done listed s' a w β Ω hI (empty listed hsz hr) hR, fun j hm => ?_⟩
    obtain ⟨h1, o, h2, h3⟩ := mem_ready.1 hm
    have hj : j < ops.size := (Array.getElem?_eq_some_iff.1 h2).1
    have hjl : j < listed.size := by omega
    have hDj : listed.getD j false = false := by simp [hjl] at h1 ⊢; exact h1
    have hD1 : (listed.setIfInBounds j true).getD j false = true := by simp [hjl]
    have hD2 : ∀ i, i ≠ j → (listed.setIfInBounds j true).getD i false = listed.getD i false := fun i hi => getD_set_ne false (fun e => hi e.symm)
    refine draw_step hT hng htr hlen hchk hd hI hj hDj (fun o' ho' e he hb => ?_) hD1 hD2 hR fun s'' a' w' β' Ω' hI' hR' => ?_
    · rw [h2] at ho'; injection ho' with ho'; subst ho'; exact h3 e he hb
    · refine ih _ s'' a' w' β' Ω' (by simp [hsz]) hI' ?_ hR'
      have := cntN_set (D := fun j => listed.getD j false) (D' := fun i => (listed.setIfInBounds j true).getD i false) hDj hD1 hD2 (n := ops.size)
      rw [if_pos hj] at this
      omega
theorem chk_of {tr : List (Rec × DR)} (h : drawChk ops (tr.map (·.2)) = true) : Chk ops (ancTab ops.toList []) tr := by
  unfold drawChk at h
  simp only [List.all_eq_true, List.mem_range, Bool.and_eq_true] at h
  exact ⟨fun j hj => (h j hj).1, fun i j hij hj => (h j hj).2 i hij⟩
theorem aw_draw_region (hT : TyOk P G) (hm : P.follows .mixedOrders = true) {s : S} {Q : X → S → Prop} {id : Nat} (h : amDraw P G 0 [] ops.toList [] (fun drs s' => drawChk ops drs.tail = true ∧ Q .norm s') ⟨none, none, none, []⟩ s) : AW P G N (.region id ops true) s Q := by
  intro hd ok w0 β Ω a w hng hR
  have hd' : ∀ o ∈ ops.toList, dstIn N o = true := List.all_eq_true.1 hd
  have hR' : Rel G ok w0 N β Ω s a { w with drawn := w.drawn + 1 } := hR.world (Below.drew (Below.refl _ _))
  obtain ⟨tr, h1, h2, h3, h4⟩ := draw_virtual (ops := ops) hT hng ops.toList 0 [] [] _ s a _ β Ω (by simp) (fun j d hj => by cases hj) hd hR' h
  have hlen : tr.length = ops.size := by simpa using h2
  have hlast : stN s tr tr.length = tr.foldl (fun s p => p.1.app s) s := by unfold stN; rw [List.take_length]
  refine wp_region_any hm ?_
  refine draw_sound hT hng h1 hlen (chk_of (by simpa using h3)) hd' (fun a' w' β' Ω' hr => ⟨.norm, _, β', Ω', rfl, (by rw [hlast]; exact h4), hr⟩) _ _ s _ _ β Ω (by simp) ⟨?_, fun t => ?_, fun k => ?_⟩ ?_ hR'
  · intro j o ho hj
    have hj' : (Array.replicate ops.size false).getD j false = true := hj
    by_cases hlt : j < ops.size <;> simp [hlt] at hj'
  · have : ∀ n, valW (Wt tr t) (amLook t s.env) (fun j => (Array.replicate ops.size false).getD j false) n = amLook t s.env := by
      intro n
      induction n with
      | zero => rfl
      | succ n ih =>
        simp only [valW]
        have hf : ¬ (Array.replicate ops.size false).getD n false = true := by by_cases hlt : n < ops.size <;> simp [hlt]
        split
        · rw [if_neg hf]; exact ih
        · exact ih
    exact (this _).symm
  · have : ∀ n, valW (Wb tr k) (amLook k s.box) (fun j => (Array.replicate ops.size false).getD j false) n = amLook k s.box := by
      intro n
      induction n with
      | zero => rfl
      | succ n ih =>
        simp only [valW]
        have hf : ¬ (Array.replicate ops.size false).getD n false = true := by by_cases hlt : n < ops.size <;> simp [hlt]
        split
        · rw [if_neg hf]; exact ih
        · exact ih
    exact (this _).symm
  · have : ∀ (D : Nat → Bool) (n : Nat), cntN D n ≤ n := by
      intro D n
      induction n with
      | zero => simp [cntN]
      | succ n ih => simp only [cntN]; split <;> omega
    exact this _ _
/-- A drawn region, and what comes behind it. -/
theorem aw_draw (hT : TyOk P G) (hm : P.follows .mixedOrders = true) {s : S} {Q : X → S → Prop} {id : Nat} {y : Code} (h : ∀ K : S → Prop, (∀ s', AW P G N y s' Q → K s') → amDraw P G 0 [] ops.toList [] (fun drs s' => drawChk ops drs.tail = true ∧ K s') ⟨none, none, none, []⟩ s) : AW P G N (.seq (.region id ops true) y) s Q :=
  aw_seq fun K hK => aw_draw_region hT hm (h K hK)
end
end Go.Proofs.Am
namespace Go.Proofs.Am
open Go.RowKit
section
variable {P : Program} {G : Ctx} {N : Nat} {Q : X → S → Prop}
def isIn (t : Nat) : List Nat → Bool
  | [] => false
  | j :: r => if t = j then true else isIn t r
/-- What is known of the slots not named. -/
def hold {α : Type} (bad : α → Bool) (del : List Nat) : List (Nat × α) → List (Nat × α)
  | [] => []
  | p :: r => if isIn p.1 del then hold bad del r else if bad p.2 then hold bad (p.1 :: del) r else p :: hold bad del r
theorem hold_none {α : Type} {bad : α → Bool} {t : Nat} : ∀ {l : List (Nat × α)} {del : List Nat}, isIn t del = true → amLook t (hold bad del l) = none := by
  intro l
  induction l with
  | nil => intro del _; rfl
  | cons q r ih =>
    intro del h
    obtain ⟨j, x⟩ := q
    simp only [hold]
    split
    · exact ih h
    · rename_i hn
      split
      · exact ih (by simp [isIn, h])
      · rw [look_cons, if_neg]
        · exact ih h
        · intro e; subst e; exact hn h
theorem hold_look {α : Type} {bad : α → Bool} {t : Nat} {v : α} : ∀ {l : List (Nat × α)} {del : List Nat}, amLook t (hold bad del l) = some v → amLook t l = some v := by
  intro l
  induction l with
  | nil => intro del h; exact h
  | cons p r ih =>
    intro del h
    obtain ⟨j, x⟩ := p
    rw [look_cons]
    simp only [hold] at h
    by_cases e : t = j
    · subst e
      rw [if_pos rfl]
      split at h
      · rename_i hc; rw [hold_none hc] at h; cases h
      · split at h
        · rw [hold_none (by simp [isIn])] at h; cases h
        · rw [look_cons, if_pos rfl] at h; exact h
    · rw [if_neg e]
      split at h
      · exact ih h
      · split at h
        · exact ih h
        · rw [look_cons, if_neg e] at h; exact ih h
def badV (tags : List Nat) (v : V) : Bool := tags.any v.site?
def badB (tags : List Nat) (l : List Cell) : Bool := tags.any fun k => l.any (·.site? k)
theorem look_append {α : Type} {t : Nat} {v : α} {b : List (Nat × α)} : ∀ {a : List (Nat × α)}, amLook t (a ++ b) = some v → amLook t a = some v ∨ amLook t b = some v := by
  intro a
  induction a with
  | nil => intro h; exact .inr h
  | cons p r ih =>
    intro h
    obtain ⟨j, x⟩ := p
    rw [List.cons_append, look_cons] at h
    rw [look_cons]
    split at h
    · rename_i e; rw [if_pos e]; exact .inl h
    · rename_i e; rw [if_neg e]; exact ih h
theorem Reach.hold {E : List (Nat × V)} {B : List (Nat × List Cell)} {cE : List (Nat × V)} {cB : List (Nat × List Cell)} (tg dE dB : List Nat) (h1 : envIn E cE) (h2 : envIn B cB) : Reach ⟨E, B⟩ ⟨cE ++ hold (badV tg) dE E, cB ++ hold (badB tg) dB B⟩ := fun h => ⟨_, h.sub
  ⟨fun t v hv => by rcases look_append hv with hv | hv; exact envIn_look h1 t v hv; exact hold_look hv, fun t v hv => by rcases look_append hv with hv | hv; exact envIn_look h2 t v hv; exact hold_look hv⟩⟩
/-- A loop: the slots that its rounds turn, as a function of the loop's own state; all others stay. -/
theorem aw_while {c : Code} {E : List (Nat × V)} {B : List (Nat × List Cell)} {τ : Type} (inv : τ → Prop) (μ : τ → Nat) (cE : τ → List (Nat × V)) (cB : τ → List (Nat × List Cell)) (tg dE dB : List Nat) (t0 : τ) (h0 : inv t0) (h1 : envIn E (cE t0)) (h2 : envIn B (cB t0))
    (round : ∀ t, inv t → ∀ R : S → Prop, (∀ s' t', inv t' → μ t' < μ t → Reach s' ⟨cE t' ++ hold (badV tg) dE E, cB t' ++ hold (badB tg) dB B⟩ → R s') → AW P G N c ⟨cE t ++ hold (badV tg) dE E, cB t ++ hold (badB tg) dB B⟩ (thenQ R Q)) : AW P G N (.loop c) ⟨E, B⟩ Q := by
  refine aw_loop' (fun n s => ∃ t, inv t ∧ n = μ t ∧ s = ⟨cE t ++ hold (badV tg) dE E, cB t ++ hold (badB tg) dB B⟩) (μ t0) ⟨_, Reach.hold tg dE dB h1 h2, t0, h0, rfl, rfl⟩ ?_
  rintro n s ⟨t, ht, rfl, rfl⟩
  exact round t ht _ fun s' t' h3 h4 h5 => ⟨μ t', _, h4, h5, t', h3, rfl, rfl⟩
theorem aw_norm {c : Code} {s s' : S} (e : s = s') (h : AW P G N c s' Q) : AW P G N c s Q := e ▸ h
/-- Go's range over a slice. -/
theorem aw_range {c : Code} {E : List (Nat × V)} {B : List (Nat × List Cell)} {α : Type} (L : List α) (I : List α → Prop) (cE : List α → List (Nat × V)) (cB : List α → List (Nat × List Cell)) (tg dE dB : List Nat) (h0 : I []) (h1 : envIn E (cE [])) (h2 : envIn B (cB []))
    (last : I L → ∀ R : S → Prop, AW P G N c ⟨cE L ++ hold (badV tg) dE E, cB L ++ hold (badB tg) dB B⟩ (thenQ R Q))
    (round : ∀ dn y td, L = dn ++ y :: td → I dn → ∀ R : S → Prop, (∀ s', I (dn ++ [y]) → Reach s' ⟨cE (dn ++ [y]) ++ hold (badV tg) dE E, cB (dn ++ [y]) ++ hold (badB tg) dB B⟩ → R s') → AW P G N c ⟨cE dn ++ hold (badV tg) dE E, cB dn ++ hold (badB tg) dB B⟩ (thenQ R Q)) : AW P G N (.loop c) ⟨E, B⟩ Q := by
  refine aw_while (fun t : List α × List α => L = t.1 ++ t.2 ∧ I t.1) (fun t => t.2.length) (fun t => cE t.1) (fun t => cB t.1) tg dE dB ([], L) ⟨rfl, h0⟩ h1 h2 ?_
  rintro ⟨dn, td⟩ ⟨hL, hI⟩ R hR
  cases td with
  | nil =>
    obtain rfl : L = dn := by simpa using hL
    exact last hI R
  | cons y td => exact round dn y td hL hI R fun s' hi hs => hR s' (dn ++ [y], td) ⟨by simp [hL], hi⟩ (by simp) hs
end
end Go.Proofs.Am
namespace Go.Proofs.Am
open Go.RowKit
section
variable {P : Program} {G : Ctx} {N : Nat} {Q : X → S → Prop} {s : S} {ops : Array Oper}
def cutQ (P : Program) (ops : Array Oper) (Q : Exit → Act → World → Prop) (l : List Nat) : Exit → Act → World → Prop
  | .normal, a, w => wpOps P ops Q l a w
  | e, a, w => Q e a w
theorem wpOps_append {Qx : Exit → Act → World → Prop} {l2 : List Nat} : ∀ (l1 : List Nat) (a : Act) (w : World), wpOps P ops (cutQ P ops Qx l2) l1 a w → (∀ a w, cutQ P ops Qx l2 .outgrown a w → Qx .outgrown a w) → wpOps P ops Qx (l1 ++ l2) a w := by
  intro l1
  induction l1 with
  | nil => intro a w h _; exact h
  | cons i r ih =>
    intro a w h ho
    rw [List.cons_append, wpOps_cons]
    rw [wpOps_cons] at h
    unfold wpOp at h ⊢
    split
    · rename_i hi; rw [hi] at h; exact ih a w h ho
    · rename_i o hi
      rw [hi] at h
      simp only at h
      split
      · rename_i hw
        rw [if_pos hw] at h
        rcases h with h | ⟨h1, h2⟩
        · refine .inl ?_
          unfold Oper.wp at h ⊢
          generalize (execOp a.eval o).run P w = res at h
          cases res with
          | ok n w' =>
            cases n <;> simp only [Oper.upon] at h ⊢ <;> first
              | exact ih _ _ h ho
              | exact Calls.mono h (fun e w'' he => by
                  cases e with
                  | returned v => exact ih _ _ he ho
                  | panicked c => exact he
                  | outgrown => obtain ⟨a', w3, h3⟩ := he; exact ⟨a', w3, h3⟩)
              | exact Rows.mono h (fun _ _ he => ih _ _ he ho)
              | exact h
          | halt x w' => cases x <;> simp only [Oper.upon] at h ⊢ <;> exact h
        · obtain ⟨a', w3, h3⟩ := h2
          exact .inr ⟨h1, a', w3, h3⟩
      · rename_i hw
        rw [if_neg hw] at h
        exact ih _ _ h ho
/-- A region in two parts: between them the slices made at site k are frozen. -/
theorem aw_cut (hT : TyOk P G) (n k : Nat) {id : Nat} {K1 : S → Prop} (h1 : amOps P G 0 [] (ops.toList.take n) K1 s) (h2 : ∀ s', K1 s' → amOps P G n [] (ops.toList.drop n) (Q .norm) (s'.freeze k)) (hn : n ≤ ops.size) : AW P G N (.region id ops false) s Q := by
  intro hd ok w0 β Ω a w hng hR
  have hd' : ∀ o ∈ ops.toList, dstIn N o = true := List.all_eq_true.1 hd
  refine wp_region ?_
  have hr : List.range ops.size = List.range' 0 (ops.toList.take n).length ++ List.range' n (ops.toList.drop n).length := by
    rw [List.range_eq_range', List.length_take, List.length_drop, Array.length_toList, Nat.min_eq_left hn]
    have := List.range'_append_1 (s := 0) (m := n) (n := ops.size - n)
    rw [Nat.zero_add] at this
    rw [this]
    congr 1
    omega
  rw [hr]
  refine wpOps_append _ a w ?_ (fun _ _ h => h)
  refine amOps_sound (K := K1) hT hng (fun s' a' w' β' Ω' hk hR' => ?_) _ 0 [] s a w β Ω (fun j hj => ?_) (fun j d hj => by cases hj) (List.all_eq_true.2 fun o ho => hd' o (List.mem_of_mem_take ho)) hR h1
  · show wpOps _ _ _ _ _ _
    refine amOps_sound (K := Q .norm) hT hng (fun s2 a2 w2 β2 Ω2 hk2 hR2 => ⟨.norm, s2, β2, Ω2, rfl, hk2, hR2⟩) _ n [] _ a' w' β' _ (fun j hj => by simp) (fun j d hj => by cases hj) (List.all_eq_true.2 fun o ho => hd' o (List.mem_of_mem_drop ho)) (hR'.freeze k) (h2 s' hk)
  · rw [List.getElem?_take]
    have : j < n := by simp at hj; omega
    simp [this]
end
end Go.Proofs.Am
set_option maxRecDepth 100000
namespace Go.Proofs.Am
theorem amset : type_of% (
  And.intro @amOps.eq_1 <|
  And.intro @amOps.eq_2 <|
  And.intro @amOp.eq_1 <|
  And.intro @amCall.eq_1 <|
  And.intro @amCall0.eq_1 <|
  And.intro @amClo.eq_1 <|
  And.intro @delL.eq_1 <|
  And.intro @delL.eq_2 <|
  And.intro @S.del.eq_1 <|
  And.intro @argSites.eq_1 <|
  And.intro @argSites.eq_2 <|
  And.intro @frzUnless.eq_1 <|
  And.intro @frzUnless.eq_2 <|
  And.intro @cellSites.eq_1 <|
  And.intro @cellSites.eq_2 <|
  And.intro @cellSites.eq_3 <|
  And.intro @cellSites.eq_4 <|
  And.intro @partSites.eq_1 <|
  And.intro @partSites.eq_2 <|
  And.intro @partSites.eq_3 <|
  And.intro @S.frz.eq_1 <|
  And.intro @S.frz.eq_2 <|
  And.intro @frzA.eq_1 <|
  And.intro @frzA.eq_2 <|
  And.intro @cloOf.eq_1 <|
  And.intro @capArgs.eq_1 <|
  And.intro @capArgs.eq_2 <|
  And.intro @mapKd.eq_1 <|
  And.intro @mapKd.eq_2 <|
  And.intro @makeMapE.eq_1 <|
  And.intro @makeMapE.eq_2 <|
  And.intro @lookE.eq_1 <|
  And.intro @lookE.eq_2 <|
  And.intro @lookupE.eq_1 <|
  And.intro @mapPutE.eq_1 <|
  And.intro @mapPutE.eq_2 <|
  And.intro @foundV.eq_1 <|
  And.intro @foundV.eq_2 <|
  And.intro @entsOf.eq_1 <|
  And.intro @entsOf.eq_2 <|
  And.intro @entsOf.eq_3 <|
  And.intro @capsOf.eq_1 <|
  And.intro @capsOf.eq_2 <|
  And.intro @capsOf.eq_3 <|
  And.intro @makeFuncE.eq_1 <|
  And.intro @makeFuncE.eq_2 <|
  And.intro @makeFuncE.eq_3 <|
  And.intro @S.mput.eq_1 <|
  And.intro @V.mput.eq_1 <|
  And.intro @V.mput.eq_2 <|
  And.intro @V.mput.eq_3 <|
  And.intro @Cell.mput.eq_1 <|
  And.intro @Cell.mput.eq_2 <|
  And.intro @effF.eq_1 <|
  And.intro @callE.eq_1 <|
  And.intro @biE.eq_1 <|
  And.intro @biE.eq_2 <|
  And.intro @biE.eq_3 <|
  And.intro @biE.eq_4 <|
  And.intro @biE.eq_5 <|
  And.intro @calleeOf.eq_1 <|
  And.intro @evalO.eq_1 <|
  And.intro @evalO.eq_2 <|
  And.intro @evalO.eq_3 <|
  And.intro @evalO.eq_4 <|
  And.intro @constV.eq_1 <|
  And.intro @constV.eq_2 <|
  And.intro @constV.eq_3 <|
  And.intro @constV.eq_4 <|
  And.intro @constV.eq_5 <|
  And.intro @constV.eq_6 <|
  And.intro @constV.eq_7 <|
  And.intro @S.get.eq_1 <|
  And.intro @S.set.eq_1 <|
  And.intro @S.put.eq_1 <|
  And.intro @S.put.eq_2 <|
  And.intro @amLook.eq_1 <|
  And.intro @amLook.eq_2 <|
  And.intro @Act'.run.eq_1 <|
  And.intro @Act'.run.eq_2 <|
  And.intro @Act'.run.eq_3 <|
  And.intro @Act'.run.eq_4 <|
  And.intro @Act'.run.eq_5 <|
  And.intro @Act'.run.eq_6 <|
  And.intro @Act'.run.eq_7 <|
  And.intro @Eff.ok.eq_1 <|
  And.intro @Eff.c.eq_1 <|
  And.intro @V.cells.eq_1 <|
  And.intro @V.cells.eq_2 <|
  And.intro @V.cells.eq_3 <|
  And.intro @freshOk.eq_1 <|
  And.intro @S.fresh.eq_1 <|
  And.intro @Cell.site?.eq_1 <|
  And.intro @Cell.site?.eq_2 <|
  And.intro @Cell.site?.eq_3 <|
  And.intro @V.site?.eq_1 <|
  And.intro @V.site?.eq_2 <|
  And.intro @V.site?.eq_3 <|
  And.intro @V.site?.eq_4 <|
  And.intro @V.site?.eq_5 <|
  And.intro @Cell.tag?.eq_1 <|
  And.intro @Cell.tag?.eq_2 <|
  And.intro @Cell.tag?.eq_3 <|
  And.intro @V.tag?.eq_1 <|
  And.intro @V.tag?.eq_2 <|
  And.intro @V.tag?.eq_3 <|
  And.intro @litRows.eq_1 <|
  And.intro @litRows.eq_2 <|
  And.intro @litRows.eq_3 <|
  And.intro @fillCells.eq_1 <|
  And.intro @fillCells.eq_2 <|
  And.intro @fillCells.eq_3 <|
  And.intro @Cell.pure?.eq_1 <|
  And.intro @Cell.pure?.eq_2 <|
  And.intro @Cell.pure?.eq_3 <|
  And.intro @Cell.data.eq_1 <|
  And.intro @Cell.data.eq_2 <|
  And.intro @Cell.data.eq_3 <|
  And.intro @rowsOf.eq_1 <|
  And.intro @rowsOf.eq_2 <|
  And.intro @rowsOf.eq_3 <|
  And.intro @argsOf.eq_1 <|
  And.intro @argsOf.eq_2 <|
  And.intro @pures.eq_1 <|
  And.intro @pures.eq_2 <|
  And.intro @V.arg.eq_1 <|
  And.intro @V.arg.eq_2 <|
  And.intro @V.arg.eq_3 <|
  And.intro @V.arg.eq_4 <|
  And.intro @V.pure?.eq_1 <|
  And.intro @V.pure?.eq_2 <|
  And.intro @V.pure?.eq_3 <|
  And.intro @resV.eq_1 <|
  And.intro @resV.eq_2 <|
  And.intro @A.val.eq_1 <|
  And.intro @A.val.eq_2 <|
  And.intro @A.val.eq_3 <|
  And.intro @zeros.eq_1 <|
  And.intro @zeros.eq_2 <|
  And.intro @Z.cell.eq_1 <|
  And.intro @Z.cell.eq_2 <|
  And.intro @Z.cell.eq_3 <|
  And.intro @Z.cell.eq_4 <|
  And.intro @Z.cell.eq_5 <|
  And.intro @Z.cell.eq_6 <|
  And.intro @moveE.eq_1 <|
  And.intro @moveE.eq_2 <|
  And.intro @pickE.eq_1 <|
  And.intro @pickE.eq_2 <|
  And.intro @pickV.eq_1 <|
  And.intro @pickV.eq_2 <|
  And.intro @pickV.eq_3 <|
  And.intro @allocE.eq_1 <|
  And.intro @allocE.eq_2 <|
  And.intro @boxE.eq_1 <|
  And.intro @buildE.eq_1 <|
  And.intro @buildE.eq_2 <|
  And.intro @nilE.eq_1 <|
  And.intro @nilE.eq_2 <|
  And.intro @buildSliceE.eq_1 <|
  And.intro @buildSliceE.eq_2 <|
  And.intro @loadE.eq_1 <|
  And.intro @loadE.eq_2 <|
  And.intro @loadE.eq_3 <|
  And.intro @loadE.eq_4 <|
  And.intro @loadE.eq_5 <|
  And.intro @loadE.eq_6 <|
  And.intro @storeE.eq_1 <|
  And.intro @storeE.eq_2 <|
  And.intro @nilCheckE.eq_1 <|
  And.intro @nilCheckE.eq_2 <|
  And.intro @nilCheckE.eq_3 <|
  And.intro @binE.eq_1 <|
  And.intro @binE.eq_2 <|
  And.intro @binE.eq_3 <|
  And.intro @binE.eq_4 <|
  And.intro @binE.eq_5 <|
  And.intro @unE.eq_1 <|
  And.intro @unE.eq_2 <|
  And.intro @unE.eq_3 <|
  And.intro @convE.eq_1 <|
  And.intro @convE.eq_2 <|
  And.intro @fieldE.eq_1 <|
  And.intro @fieldE.eq_2 <|
  And.intro @fieldE.eq_3 <|
  And.intro @indexE.eq_1 <|
  And.intro @indexE.eq_2 <|
  And.intro @indexE.eq_3 <|
  And.intro @extractE.eq_1 <|
  And.intro @extractE.eq_2 <|
  And.intro @sindexE.eq_1 <|
  And.intro @sindexE.eq_2 <|
  And.intro @ssliceE.eq_1 <|
  And.intro @ssliceE.eq_2 <|
  And.intro @lenE.eq_1 <|
  And.intro @lenE.eq_2 <|
  And.intro @lenE.eq_3 <|
  And.intro @maxE.eq_1 <|
  And.intro @maxE.eq_2 <|
  And.intro @minE.eq_1 <|
  And.intro @minE.eq_2 <|
  And.intro @appendE.eq_1 <|
  And.intro @appendE.eq_2 <|
  And.intro @appendE.eq_3 <|
  And.intro @sliceElem.eq_1 <|
  And.intro @intArith.eq_1 <|
  And.intro @intArith.eq_2 <|
  And.intro @intBin.eq_1 <|
  And.intro @intBin.eq_2 <|
  And.intro @intBin.eq_3 <|
  And.intro @intBin.eq_4 <|
  And.intro @intBin.eq_5 <|
  And.intro @intBin.eq_6 <|
  And.intro @intBin.eq_7 <|
  And.intro @intBin.eq_8 <|
  And.intro @intBin.eq_9 <|
  And.intro @intBin.eq_10 <|
  And.intro @intBin.eq_11 <|
  And.intro @intBin.eq_12 <|
  And.intro @strBin.eq_1 <|
  And.intro @strBin.eq_2 <|
  And.intro @strBin.eq_3 <|
  And.intro @strBin.eq_4 <|
  And.intro @boolBin.eq_1 <|
  And.intro @boolBin.eq_2 <|
  And.intro @boolBin.eq_3 <|
  And.intro @S.kill.eq_1 <|
  And.intro @V.kill.eq_1 <|
  And.intro @splice.eq_1 <|
  And.intro @thenQ.eq_1 <|
  And.intro @thenQ.eq_2 <|
  And.intro @blkQ.eq_1 <|
  And.intro @blkQ.eq_2 <|
  And.intro @retQ.eq_1 <|
  And.intro @retQ.eq_2 <|
  And.intro @isIn.eq_1 <|
  And.intro @isIn.eq_2 <|
  And.intro @hold.eq_1 <|
  And.intro @hold.eq_2 <|
  And.intro @badV.eq_1 <|
  And.intro @badB.eq_1 <|
  And.intro @amDraw.eq_1 <|
  And.intro @amDraw.eq_2 <|
  And.intro @amOpD.eq_1 <|
  And.intro @recOf.eq_1 <|
  And.intro @V.frzK.eq_1 <|
  And.intro @V.frzK.eq_2 <|
  And.intro @rsOf.eq_1 <|
  And.intro @V.psite.eq_1 <|
  And.intro @V.psite.eq_2 <|
  And.intro @Cell.sites.eq_1 <|
  And.intro @Cell.sites.eq_2 <|
  And.intro @Cell.sites.eq_3 <|
  And.intro @V.sites.eq_1 <|
  And.intro @V.sites.eq_2 <|
  And.intro @V.sites.eq_3 <|
  And.intro @V.sites.eq_4 <|
  And.intro @V.sites.eq_5 <|
  And.intro @Rec.sites.eq_1 <|
  And.intro @Rec.app.eq_1 <|
  And.intro @resOf.eq_1 <|
  And.intro @resVs.eq_1 <|
  And.intro @resVs.eq_2 <|
  And.intro @resVs.eq_3 <|
  And.intro @argsV.eq_1 <|
  And.intro @argsV.eq_2 <|
  And.intro @cellRes.eq_1 <|
  And.intro @cellRes.eq_2 <|
  And.intro @cellRes.eq_3 <|
  And.intro @cellRes.eq_4 <|
  And.intro @envIn.eq_1 <|
  And.intro @envIn.eq_2 <|
  And.intro @S.retag.eq_1 <|
  And.intro @V.retag.eq_1 <|
  And.intro @V.retag.eq_2 <|
  And.intro @V.retag.eq_3 <|
  And.intro @Cell.retag.eq_1 <|
  And.intro @Cell.retag.eq_2 <|
  And.intro @Cell.retag.eq_3 <|
  And.intro @S.freeze.eq_1 <|
  And.intro @V.freeze.eq_1 <|
  And.intro @V.freeze.eq_2 <|
  And.intro @V.freeze.eq_3 <|
  And.intro @Cell.freeze.eq_1 <|
  And.intro @Cell.freeze.eq_2 <|
  And.intro @Cell.freeze.eq_3 <|
  And.intro @argEnv.eq_1 <|
  And.intro @argEnv.eq_2 <|
  And.intro @X.out.eq_1 <|
  And.intro @X.out.eq_2 <|
  And.intro @X.out.eq_3 <|
  And.intro @C.scalar.eq_1 <|
  And.intro @C.scalar.eq_2 <|
  And.intro @C.scalar.eq_3 <|
  And.intro @C.scalar.eq_4 <|
  And.intro @C.scalar.eq_5 <|
  And.intro @C.scalar.eq_6 <|
  And.intro @C.scalar.eq_7 <|
  And.intro @A.scalar.eq_1 <|
  @A.scalar.eq_2
  ) :=
  And.intro @amOps.eq_1 <|
  And.intro @amOps.eq_2 <|
  And.intro @amOp.eq_1 <|
  And.intro @amCall.eq_1 <|
  And.intro @amCall0.eq_1 <|
  And.intro @amClo.eq_1 <|
  And.intro @delL.eq_1 <|
  And.intro @delL.eq_2 <|
  And.intro @S.del.eq_1 <|
  And.intro @argSites.eq_1 <|
  And.intro @argSites.eq_2 <|
  And.intro @frzUnless.eq_1 <|
  And.intro @frzUnless.eq_2 <|
  And.intro @cellSites.eq_1 <|
  And.intro @cellSites.eq_2 <|
  And.intro @cellSites.eq_3 <|
  And.intro @cellSites.eq_4 <|
  And.intro @partSites.eq_1 <|
  And.intro @partSites.eq_2 <|
  And.intro @partSites.eq_3 <|
  And.intro @S.frz.eq_1 <|
  And.intro @S.frz.eq_2 <|
  And.intro @frzA.eq_1 <|
  And.intro @frzA.eq_2 <|
  And.intro @cloOf.eq_1 <|
  And.intro @capArgs.eq_1 <|
  And.intro @capArgs.eq_2 <|
  And.intro @mapKd.eq_1 <|
  And.intro @mapKd.eq_2 <|
  And.intro @makeMapE.eq_1 <|
  And.intro @makeMapE.eq_2 <|
  And.intro @lookE.eq_1 <|
  And.intro @lookE.eq_2 <|
  And.intro @lookupE.eq_1 <|
  And.intro @mapPutE.eq_1 <|
  And.intro @mapPutE.eq_2 <|
  And.intro @foundV.eq_1 <|
  And.intro @foundV.eq_2 <|
  And.intro @entsOf.eq_1 <|
  And.intro @entsOf.eq_2 <|
  And.intro @entsOf.eq_3 <|
  And.intro @capsOf.eq_1 <|
  And.intro @capsOf.eq_2 <|
  And.intro @capsOf.eq_3 <|
  And.intro @makeFuncE.eq_1 <|
  And.intro @makeFuncE.eq_2 <|
  And.intro @makeFuncE.eq_3 <|
  And.intro @S.mput.eq_1 <|
  And.intro @V.mput.eq_1 <|
  And.intro @V.mput.eq_2 <|
  And.intro @V.mput.eq_3 <|
  And.intro @Cell.mput.eq_1 <|
  And.intro @Cell.mput.eq_2 <|
  And.intro @effF.eq_1 <|
  And.intro @callE.eq_1 <|
  And.intro @biE.eq_1 <|
  And.intro @biE.eq_2 <|
  And.intro @biE.eq_3 <|
  And.intro @biE.eq_4 <|
  And.intro @biE.eq_5 <|
  And.intro @calleeOf.eq_1 <|
  And.intro @evalO.eq_1 <|
  And.intro @evalO.eq_2 <|
  And.intro @evalO.eq_3 <|
  And.intro @evalO.eq_4 <|
  And.intro @constV.eq_1 <|
  And.intro @constV.eq_2 <|
  And.intro @constV.eq_3 <|
  And.intro @constV.eq_4 <|
  And.intro @constV.eq_5 <|
  And.intro @constV.eq_6 <|
  And.intro @constV.eq_7 <|
  And.intro @S.get.eq_1 <|
  And.intro @S.set.eq_1 <|
  And.intro @S.put.eq_1 <|
  And.intro @S.put.eq_2 <|
  And.intro @amLook.eq_1 <|
  And.intro @amLook.eq_2 <|
  And.intro @Act'.run.eq_1 <|
  And.intro @Act'.run.eq_2 <|
  And.intro @Act'.run.eq_3 <|
  And.intro @Act'.run.eq_4 <|
  And.intro @Act'.run.eq_5 <|
  And.intro @Act'.run.eq_6 <|
  And.intro @Act'.run.eq_7 <|
  And.intro @Eff.ok.eq_1 <|
  And.intro @Eff.c.eq_1 <|
  And.intro @V.cells.eq_1 <|
  And.intro @V.cells.eq_2 <|
  And.intro @V.cells.eq_3 <|
  And.intro @freshOk.eq_1 <|
  And.intro @S.fresh.eq_1 <|
  And.intro @Cell.site?.eq_1 <|
  And.intro @Cell.site?.eq_2 <|
  And.intro @Cell.site?.eq_3 <|
  And.intro @V.site?.eq_1 <|
  And.intro @V.site?.eq_2 <|
  And.intro @V.site?.eq_3 <|
  And.intro @V.site?.eq_4 <|
  And.intro @V.site?.eq_5 <|
  And.intro @Cell.tag?.eq_1 <|
  And.intro @Cell.tag?.eq_2 <|
  And.intro @Cell.tag?.eq_3 <|
  And.intro @V.tag?.eq_1 <|
  And.intro @V.tag?.eq_2 <|
  And.intro @V.tag?.eq_3 <|
  And.intro @litRows.eq_1 <|
  And.intro @litRows.eq_2 <|
  And.intro @litRows.eq_3 <|
  And.intro @fillCells.eq_1 <|
  And.intro @fillCells.eq_2 <|
  And.intro @fillCells.eq_3 <|
  And.intro @Cell.pure?.eq_1 <|
  And.intro @Cell.pure?.eq_2 <|
  And.intro @Cell.pure?.eq_3 <|
  And.intro @Cell.data.eq_1 <|
  And.intro @Cell.data.eq_2 <|
  And.intro @Cell.data.eq_3 <|
  And.intro @rowsOf.eq_1 <|
  And.intro @rowsOf.eq_2 <|
  And.intro @rowsOf.eq_3 <|
  And.intro @argsOf.eq_1 <|
  And.intro @argsOf.eq_2 <|
  And.intro @pures.eq_1 <|
  And.intro @pures.eq_2 <|
  And.intro @V.arg.eq_1 <|
  And.intro @V.arg.eq_2 <|
  And.intro @V.arg.eq_3 <|
  And.intro @V.arg.eq_4 <|
  And.intro @V.pure?.eq_1 <|
  And.intro @V.pure?.eq_2 <|
  And.intro @V.pure?.eq_3 <|
  And.intro @resV.eq_1 <|
  And.intro @resV.eq_2 <|
  And.intro @A.val.eq_1 <|
  And.intro @A.val.eq_2 <|
  And.intro @A.val.eq_3 <|
  And.intro @zeros.eq_1 <|
  And.intro @zeros.eq_2 <|
  And.intro @Z.cell.eq_1 <|
  And.intro @Z.cell.eq_2 <|
  And.intro @Z.cell.eq_3 <|
  And.intro @Z.cell.eq_4 <|
  And.intro @Z.cell.eq_5 <|
  And.intro @Z.cell.eq_6 <|
  And.intro @moveE.eq_1 <|
  And.intro @moveE.eq_2 <|
  And.intro @pickE.eq_1 <|
  And.intro @pickE.eq_2 <|
  And.intro @pickV.eq_1 <|
  And.intro @pickV.eq_2 <|
  And.intro @pickV.eq_3 <|
  And.intro @allocE.eq_1 <|
  And.intro @allocE.eq_2 <|
  And.intro @boxE.eq_1 <|
  And.intro @buildE.eq_1 <|
  And.intro @buildE.eq_2 <|
  And.intro @nilE.eq_1 <|
  And.intro @nilE.eq_2 <|
  And.intro @buildSliceE.eq_1 <|
  And.intro @buildSliceE.eq_2 <|
  And.intro @loadE.eq_1 <|
  And.intro @loadE.eq_2 <|
  And.intro @loadE.eq_3 <|
  And.intro @loadE.eq_4 <|
  And.intro @loadE.eq_5 <|
  And.intro @loadE.eq_6 <|
  And.intro @storeE.eq_1 <|
  And.intro @storeE.eq_2 <|
  And.intro @nilCheckE.eq_1 <|
  And.intro @nilCheckE.eq_2 <|
  And.intro @nilCheckE.eq_3 <|
  And.intro @binE.eq_1 <|
  And.intro @binE.eq_2 <|
  And.intro @binE.eq_3 <|
  And.intro @binE.eq_4 <|
  And.intro @binE.eq_5 <|
  And.intro @unE.eq_1 <|
  And.intro @unE.eq_2 <|
  And.intro @unE.eq_3 <|
  And.intro @convE.eq_1 <|
  And.intro @convE.eq_2 <|
  And.intro @fieldE.eq_1 <|
  And.intro @fieldE.eq_2 <|
  And.intro @fieldE.eq_3 <|
  And.intro @indexE.eq_1 <|
  And.intro @indexE.eq_2 <|
  And.intro @indexE.eq_3 <|
  And.intro @extractE.eq_1 <|
  And.intro @extractE.eq_2 <|
  And.intro @sindexE.eq_1 <|
  And.intro @sindexE.eq_2 <|
  And.intro @ssliceE.eq_1 <|
  And.intro @ssliceE.eq_2 <|
  And.intro @lenE.eq_1 <|
  And.intro @lenE.eq_2 <|
  And.intro @lenE.eq_3 <|
  And.intro @maxE.eq_1 <|
  And.intro @maxE.eq_2 <|
  And.intro @minE.eq_1 <|
  And.intro @minE.eq_2 <|
  And.intro @appendE.eq_1 <|
  And.intro @appendE.eq_2 <|
  And.intro @appendE.eq_3 <|
  And.intro @sliceElem.eq_1 <|
  And.intro @intArith.eq_1 <|
  And.intro @intArith.eq_2 <|
  And.intro @intBin.eq_1 <|
  And.intro @intBin.eq_2 <|
  And.intro @intBin.eq_3 <|
  And.intro @intBin.eq_4 <|
  And.intro @intBin.eq_5 <|
  And.intro @intBin.eq_6 <|
  And.intro @intBin.eq_7 <|
  And.intro @intBin.eq_8 <|
  And.intro @intBin.eq_9 <|
  And.intro @intBin.eq_10 <|
  And.intro @intBin.eq_11 <|
  And.intro @intBin.eq_12 <|
  And.intro @strBin.eq_1 <|
  And.intro @strBin.eq_2 <|
  And.intro @strBin.eq_3 <|
  And.intro @strBin.eq_4 <|
  And.intro @boolBin.eq_1 <|
  And.intro @boolBin.eq_2 <|
  And.intro @boolBin.eq_3 <|
  And.intro @S.kill.eq_1 <|
  And.intro @V.kill.eq_1 <|
  And.intro @splice.eq_1 <|
  And.intro @thenQ.eq_1 <|
  And.intro @thenQ.eq_2 <|
  And.intro @blkQ.eq_1 <|
  And.intro @blkQ.eq_2 <|
  And.intro @retQ.eq_1 <|
  And.intro @retQ.eq_2 <|
  And.intro @isIn.eq_1 <|
  And.intro @isIn.eq_2 <|
  And.intro @hold.eq_1 <|
  And.intro @hold.eq_2 <|
  And.intro @badV.eq_1 <|
  And.intro @badB.eq_1 <|
  And.intro @amDraw.eq_1 <|
  And.intro @amDraw.eq_2 <|
  And.intro @amOpD.eq_1 <|
  And.intro @recOf.eq_1 <|
  And.intro @V.frzK.eq_1 <|
  And.intro @V.frzK.eq_2 <|
  And.intro @rsOf.eq_1 <|
  And.intro @V.psite.eq_1 <|
  And.intro @V.psite.eq_2 <|
  And.intro @Cell.sites.eq_1 <|
  And.intro @Cell.sites.eq_2 <|
  And.intro @Cell.sites.eq_3 <|
  And.intro @V.sites.eq_1 <|
  And.intro @V.sites.eq_2 <|
  And.intro @V.sites.eq_3 <|
  And.intro @V.sites.eq_4 <|
  And.intro @V.sites.eq_5 <|
  And.intro @Rec.sites.eq_1 <|
  And.intro @Rec.app.eq_1 <|
  And.intro @resOf.eq_1 <|
  And.intro @resVs.eq_1 <|
  And.intro @resVs.eq_2 <|
  And.intro @resVs.eq_3 <|
  And.intro @argsV.eq_1 <|
  And.intro @argsV.eq_2 <|
  And.intro @cellRes.eq_1 <|
  And.intro @cellRes.eq_2 <|
  And.intro @cellRes.eq_3 <|
  And.intro @cellRes.eq_4 <|
  And.intro @envIn.eq_1 <|
  And.intro @envIn.eq_2 <|
  And.intro @S.retag.eq_1 <|
  And.intro @V.retag.eq_1 <|
  And.intro @V.retag.eq_2 <|
  And.intro @V.retag.eq_3 <|
  And.intro @Cell.retag.eq_1 <|
  And.intro @Cell.retag.eq_2 <|
  And.intro @Cell.retag.eq_3 <|
  And.intro @S.freeze.eq_1 <|
  And.intro @V.freeze.eq_1 <|
  And.intro @V.freeze.eq_2 <|
  And.intro @V.freeze.eq_3 <|
  And.intro @Cell.freeze.eq_1 <|
  And.intro @Cell.freeze.eq_2 <|
  And.intro @Cell.freeze.eq_3 <|
  And.intro @argEnv.eq_1 <|
  And.intro @argEnv.eq_2 <|
  And.intro @X.out.eq_1 <|
  And.intro @X.out.eq_2 <|
  And.intro @X.out.eq_3 <|
  And.intro @C.scalar.eq_1 <|
  And.intro @C.scalar.eq_2 <|
  And.intro @C.scalar.eq_3 <|
  And.intro @C.scalar.eq_4 <|
  And.intro @C.scalar.eq_5 <|
  And.intro @C.scalar.eq_6 <|
  And.intro @C.scalar.eq_7 <|
  And.intro @A.scalar.eq_1 <|
  @A.scalar.eq_2
theorem amlib : type_of% (
  And.intro @if_true.{1} <|
  And.intro @if_true.{1} <|
  And.intro @if_false.{1} <|
  And.intro @if_false.{1} <|
  And.intro @Option.getD_some.{0} <|
  And.intro @Option.getD_none.{0} <|
  And.intro @Option.map_some.{0,0} <|
  And.intro @Option.map_none.{0,0} <|
  And.intro @Option.bind_some.{0,0} <|
  And.intro @Option.bind_none.{0,0} <|
  And.intro @Option.some.injEq.{0} <|
  And.intro @List.map_cons.{0,0} <|
  And.intro @List.map_nil.{0,0} <|
  And.intro @List.all_cons.{0} <|
  And.intro @List.all_nil.{0} <|
  And.intro @List.any_cons.{0} <|
  And.intro @List.any_nil.{0} <|
  And.intro @Bool.and_true <|
  And.intro @Bool.true_and <|
  And.intro @Bool.or_false <|
  And.intro @Bool.false_or <|
  And.intro @Bool.not_true <|
  And.intro @Bool.not_false <|
  And.intro @Bool.and_false <|
  And.intro @Bool.false_and <|
  And.intro @Bool.true_or <|
  And.intro @Bool.or_true <|
  And.intro @List.drop_succ_cons.{0} <|
  And.intro @List.drop_zero.{0} <|
  And.intro @List.take_succ_cons.{0} <|
  And.intro @List.take_zero.{0} <|
  And.intro @List.cons_append.{0} <|
  And.intro @List.nil_append.{0} <|
  And.intro @List.append_nil.{0} <|
  And.intro @List.length_cons.{0} <|
  And.intro @List.length_nil.{0} <|
  And.intro @List.length_append.{0} <|
  And.intro @List.getElem?_cons_succ.{0} <|
  And.intro @List.getElem?_cons_zero.{0} <|
  And.intro @Nat.add_zero <|
  And.intro @Nat.zero_add <|
  And.intro @forall_const.{0} <|
  And.intro @true_implies <|
  And.intro @true_and <|
  And.intro @and_true <|
  And.intro @false_and <|
  And.intro @and_false <|
  And.intro @and_self <|
  And.intro @ne_eq.{1} <|
  And.intro @not_true_eq_false <|
  And.intro @not_false_eq_true <|
  And.intro @beq_self_eq_true.{0} <|
  And.intro @bne_self_eq_false.{0} <|
  And.intro @Bool.false_eq_true <|
  And.intro @implies_true.{0} <|
  And.intro @Nat.le_refl <|
  And.intro @List.drop_nil.{0} <|
  And.intro @List.take_nil.{0} <|
  And.intro @Nat.succ_ne_self <|
  And.intro @Nat.one_ne_zero <|
  And.intro @Nat.zero_ne_one <|
  And.intro @decide_true <|
  And.intro @decide_false <|
  And.intro @List.getD_cons_zero.{0} <|
  And.intro @List.getD_cons_succ.{0} <|
  And.intro @cond_true.{1} <|
  And.intro @cond_false.{1} <|
  And.intro @Nat.zero_le <|
  And.intro @List.append_eq.{0} <|
  And.intro @Array.toList_append.{0} <|
  And.intro @Array.append_eq_append.{0} <|
  And.intro @List.toList_toArray.{0} <|
  And.intro @List.size_toArray.{0} <|
  And.intro @List.tail_cons.{0} <|
  And.intro @List.flatMap_cons.{0,0} <|
  And.intro @List.flatMap_nil.{0,0} <|
  And.intro @true_or <|
  And.intro @or_true <|
  And.intro @or_false <|
  @false_or
  ) :=
  And.intro @if_true.{1} <|
  And.intro @if_true.{1} <|
  And.intro @if_false.{1} <|
  And.intro @if_false.{1} <|
  And.intro @Option.getD_some.{0} <|
  And.intro @Option.getD_none.{0} <|
  And.intro @Option.map_some.{0,0} <|
  And.intro @Option.map_none.{0,0} <|
  And.intro @Option.bind_some.{0,0} <|
  And.intro @Option.bind_none.{0,0} <|
  And.intro @Option.some.injEq.{0} <|
  And.intro @List.map_cons.{0,0} <|
  And.intro @List.map_nil.{0,0} <|
  And.intro @List.all_cons.{0} <|
  And.intro @List.all_nil.{0} <|
  And.intro @List.any_cons.{0} <|
  And.intro @List.any_nil.{0} <|
  And.intro @Bool.and_true <|
  And.intro @Bool.true_and <|
  And.intro @Bool.or_false <|
  And.intro @Bool.false_or <|
  And.intro @Bool.not_true <|
  And.intro @Bool.not_false <|
  And.intro @Bool.and_false <|
  And.intro @Bool.false_and <|
  And.intro @Bool.true_or <|
  And.intro @Bool.or_true <|
  And.intro @List.drop_succ_cons.{0} <|
  And.intro @List.drop_zero.{0} <|
  And.intro @List.take_succ_cons.{0} <|
  And.intro @List.take_zero.{0} <|
  And.intro @List.cons_append.{0} <|
  And.intro @List.nil_append.{0} <|
  And.intro @List.append_nil.{0} <|
  And.intro @List.length_cons.{0} <|
  And.intro @List.length_nil.{0} <|
  And.intro @List.length_append.{0} <|
  And.intro @List.getElem?_cons_succ.{0} <|
  And.intro @List.getElem?_cons_zero.{0} <|
  And.intro @Nat.add_zero <|
  And.intro @Nat.zero_add <|
  And.intro @forall_const.{0} <|
  And.intro @true_implies <|
  And.intro @true_and <|
  And.intro @and_true <|
  And.intro @false_and <|
  And.intro @and_false <|
  And.intro @and_self <|
  And.intro @ne_eq.{1} <|
  And.intro @not_true_eq_false <|
  And.intro @not_false_eq_true <|
  And.intro @beq_self_eq_true.{0} <|
  And.intro @bne_self_eq_false.{0} <|
  And.intro @Bool.false_eq_true <|
  And.intro @implies_true.{0} <|
  And.intro @Nat.le_refl <|
  And.intro @List.drop_nil.{0} <|
  And.intro @List.take_nil.{0} <|
  And.intro @Nat.succ_ne_self <|
  And.intro @Nat.one_ne_zero <|
  And.intro @Nat.zero_ne_one <|
  And.intro @decide_true <|
  And.intro @decide_false <|
  And.intro @List.getD_cons_zero.{0} <|
  And.intro @List.getD_cons_succ.{0} <|
  And.intro @cond_true.{1} <|
  And.intro @cond_false.{1} <|
  And.intro @Nat.zero_le <|
  And.intro @List.append_eq.{0} <|
  And.intro @Array.toList_append.{0} <|
  And.intro @Array.append_eq_append.{0} <|
  And.intro @List.toList_toArray.{0} <|
  And.intro @List.size_toArray.{0} <|
  And.intro @List.tail_cons.{0} <|
  And.intro @List.flatMap_cons.{0,0} <|
  And.intro @List.flatMap_nil.{0,0} <|
  And.intro @true_or <|
  And.intro @or_true <|
  And.intro @or_false <|
  @false_or
end Go.Proofs.Am
