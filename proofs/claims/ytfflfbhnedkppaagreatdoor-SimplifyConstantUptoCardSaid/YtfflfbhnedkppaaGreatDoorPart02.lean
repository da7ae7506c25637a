/- Part 2 of a proof that the law holds of every input of the given bulk. -/
import Derived.Test.YtfflfbhnedkppaaGreatDoorPart00
import Derived.KernelRfl
set_option autoImplicit false
set_option linter.unusedSimpArgs false
set_option linter.unusedVariables false
set_option linter.unusedSectionVars false
namespace Go.Proofs.Am
open Go.RowKit
def zChk : List Z → List Value → Bool
  | [], [] => true
  | .int k :: zs, .int k' n :: vs => k == k' && n == 0 && zChk zs vs
  | .bool :: zs, .bool b :: vs => !b && zChk zs vs
  | .str :: zs, .string s :: vs => s.data.toList.isEmpty && zChk zs vs
  | .sl _ _ :: zs, .slice none 0 0 :: vs => zChk zs vs
  | .nilp :: zs, .pointer none :: vs => zChk zs vs
  | .nilm :: zs, .map none :: vs => zChk zs vs
  | _, _ => false
theorem zChk_ok (G : Ctx) (zs : List Z) (vs : List Value) : zChk zs vs = true → ZOk G zs vs := by
  fun_induction zChk zs vs with
  | case1 => exact fun _ => .nil
  | case2 k zs k' n vs ih =>
    intro h
    simp only [Bool.and_eq_true, beq_iff_eq] at h
    obtain ⟨⟨h1, h2⟩, h3⟩ := h
    subst h1 h2
    exact .int _ (ih h3)
  | case3 zs b vs ih =>
    intro h
    simp only [Bool.and_eq_true, Bool.not_eq_true'] at h
    obtain ⟨h1, h3⟩ := h
    subst h1
    exact .bool (ih h3)
  | case4 zs s vs ih =>
    intro h
    simp only [Bool.and_eq_true, List.isEmpty_iff] at h
    obtain ⟨h1, h3⟩ := h
    have hs : s = ⟨#[]⟩ := by
      obtain ⟨⟨l⟩⟩ := s
      simp only at h1
      subst h1
      rfl
    rw [hs]
    exact .str (ih h3)
  | case5 e z zs vs ih => exact fun h => .sl _ _ (ih h)
  | case6 zs vs ih => exact fun h => .nilp (ih h)
  | case7 zs vs ih => exact fun h => .nilm (ih h)
  | case8 => exact fun h => nomatch h
def undChk (P : Program) (t : TypeId) (d : Ty) : Bool := match d.k, P.underlying t with
  | .int k, some (.int k') => k == k' && d.size == 1
  | .bool, some .bool => d.size == 1
  | .str, some .string => d.size == 1
  | .slice e, some (.slice e') => e == e' && d.size == 1
  | .ptr e, some (.pointer e') => e == e' && d.size == 1
  | .struct offs, some (.struct fs) => (fs.toList.mapM (fun f => (P.info? f.type).map fun i => (f.offset, i.size))) == some offs && offs.all (fun p => p.2 != 0)
  | .array n e, some (.array n' e') => n == n' && e == e'
  | .map k e, some (.map k' e') => k == k' && e == e' && d.size == 1
  | .other, some (.map _ _) => d.size == 1
  | _, _ => false
def zintChk : TK → Value → Bool
  | .int k, .int k' n => k == k' && n == 0
  | .int _, _ => false
  | _, _ => true
def tyChk (P : Program) (p : Nat × Ty) : Bool := (match P.info? p.1 with
  | some i => i.size == p.2.size && i.bytes == p.2.bytes && (match i.zero with
    | some z => zChk p.2.zero z.cells.toList && z.cells.size == p.2.size && zintChk p.2.k z
    | none => false) && decide (0 < p.2.size) && decide (0 < p.2.bytes)
  | none => false) && undChk P p.1 p.2
theorem undChk_ok {P : Program} {t : TypeId} {d : Ty} (h : undChk P t d = true) : UndOk P t d := by
  unfold undChk at h
  unfold UndOk
  split at h <;> rename_i h1 h2 <;> try rw [h1]
  all_goals try (simp only [Bool.and_eq_true, beq_iff_eq] at h)
  · obtain ⟨rfl, h⟩ := h; exact ⟨h2, h⟩
  · exact ⟨h2, h⟩
  · exact ⟨h2, h⟩
  · obtain ⟨rfl, h⟩ := h; exact ⟨h2, h⟩
  · obtain ⟨rfl, h⟩ := h; exact ⟨h2, h⟩
  · obtain ⟨ha, hb⟩ := h
    refine ⟨_, h2, ha, fun p hp => ?_⟩
    have := List.all_eq_true.1 hb p hp
    simpa using this
  · obtain ⟨rfl, rfl⟩ := h; exact h2
  · obtain ⟨⟨rfl, rfl⟩, h⟩ := h; exact ⟨h2, h⟩
  · exact ⟨⟨_, h2, trivial⟩, h⟩
  · cases h
theorem tyOk_of {P : Program} {G : Ctx} (tab : List (Nat × Ty)) (hG : ∀ t, G.ty t = amLook t tab) (h : tab.all (tyChk P) = true) : TyOk P G := by
  have key : ∀ t d, G.ty t = some d → tyChk P (t, d) = true := fun t d ht => List.all_eq_true.1 h (t, d) (look_mem ((hG t).symm.trans ht))
  refine ⟨fun t d ht => ?_, fun t d ht => ?_, fun t d k ht hk => ?_⟩
  · have h1 := key t d ht
    simp only [tyChk, Bool.and_eq_true] at h1
    obtain ⟨h1, _⟩ := h1
    cases hi : P.info? t with
    | none => rw [hi] at h1; cases h1
    | some i =>
      rw [hi] at h1
      simp only [Bool.and_eq_true, beq_iff_eq, decide_eq_true_eq] at h1
      obtain ⟨⟨⟨⟨h2, h3⟩, h4⟩, h5⟩, h6⟩ := h1
      cases hz : i.zero with
      | none => rw [hz] at h4; cases h4
      | some z =>
        rw [hz] at h4
        simp only [Bool.and_eq_true, beq_iff_eq] at h4
        exact ⟨i, z, rfl, h2, h3, hz, zChk_ok G _ _ h4.1.1, h4.1.2, h5, h6⟩
  · have h1 := key t d ht
    simp only [tyChk, Bool.and_eq_true] at h1
    exact undChk_ok h1.2
  · have h1 := key t d ht
    simp only [tyChk, Bool.and_eq_true] at h1
    obtain ⟨h1, _⟩ := h1
    cases hi : P.info? t with
    | none => rw [hi] at h1; cases h1
    | some i =>
      rw [hi] at h1
      simp only [Bool.and_eq_true, beq_iff_eq, decide_eq_true_eq] at h1
      obtain ⟨⟨⟨⟨h2, h3⟩, h4⟩, h5⟩, h6⟩ := h1
      cases hz : i.zero with
      | none => rw [hz] at h4; cases h4
      | some z =>
        rw [hz] at h4
        simp only [Bool.and_eq_true, beq_iff_eq] at h4
        have h7 := h4.2
        rw [hk] at h7
        refine ⟨i, rfl, ?_⟩
        rw [hz]
        cases z <;> simp [zintChk] at h7
        obtain ⟨rfl, rfl⟩ := h7
        rfl
end Go.Proofs.Am
