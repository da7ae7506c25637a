/- Part 4 of a proof that the law holds of every input of the given bulk. -/
import Derived.Test.YtfflfbhnedkppaaGreatDoorPart01
import Derived.Test.YtfflfbhnedkppaaGreatDoorPart02
import Derived.WalkKit
import Derived.Laws.StructEq
import Derived.Test.YtfflfbhnedkppaaGreatDoorPart03
set_option autoImplicit false
set_option linter.unusedSimpArgs false
set_option linter.unusedVariables false
set_option linter.unusedSectionVars false
namespace Go.Proofs.Am
open Go.Proofs
inductive Ex where
  | mk (kind : Int) (name : List UInt8) (value : Int) (op : Int) (args : List Ex) (pos : Int)
def Ex.kind : Ex → Int | .mk k _ _ _ _ _ => k
def Ex.name : Ex → List UInt8 | .mk _ k _ _ _ _ => k
def Ex.value : Ex → Int | .mk _ _ k _ _ _ => k
def Ex.op : Ex → Int | .mk _ _ _ k _ _ => k
def Ex.args : Ex → List Ex | .mk _ _ _ _ k _ => k
def Ex.pos : Ex → Int | .mk _ _ _ _ _ k => k
inductive St where
  | mk (kind : Int) (name : List UInt8) (n : Int) (args : List Ex) (body els : List St) (pos : Int)
def St.kind : St → Int | .mk k _ _ _ _ _ _ => k
def St.name : St → List UInt8 | .mk _ k _ _ _ _ _ => k
def St.n : St → Int | .mk _ _ k _ _ _ _ => k
def St.args : St → List Ex | .mk _ _ _ k _ _ _ => k
def St.body : St → List St | .mk _ _ _ _ k _ _ => k
def St.els : St → List St | .mk _ _ _ _ _ k _ => k
def St.pos : St → Int | .mk _ _ _ _ _ _ k => k
mutual
def encE : Ex → List C
  | .mk k n v o a p => [.int .i64 k, .str n, .int .i16 v, .int .i64 o, .sl 6 (encEs a), .int .i64 p]
def encEs : List Ex → List (List C)
  | [] => []
  | x :: r => encE x :: encEs r
end
mutual
def encS : St → List C
  | .mk k n v a b e p => [.int .i64 k, .str n, .int .i64 v, .sl 6 (encEs a), .sl 7 (encSs b), .sl 7 (encSs e), .int .i64 p]
def encSs : List St → List (List C)
  | [] => []
  | x :: r => encS x :: encSs r
end
theorem encE_eq (x : Ex) : encE x = [.int .i64 x.kind, .str x.name, .int .i16 x.value, .int .i64 x.op, .sl 6 (encEs x.args), .int .i64 x.pos] := by cases x; rfl
theorem encS_eq (x : St) : encS x = [.int .i64 x.kind, .str x.name, .int .i64 x.n, .sl 6 (encEs x.args), .sl 7 (encSs x.body), .sl 7 (encSs x.els), .int .i64 x.pos] := by cases x; rfl
theorem encEs_map (l : List Ex) : encEs l = l.map encE := by induction l with
  | nil => rfl
  | cons x r ih => simp [encEs, ih]
theorem encSs_map (l : List St) : encSs l = l.map encS := by induction l with
  | nil => rfl
  | cons x r ih => simp [encSs, ih]
theorem encEs_nil : encEs [] = [] := rfl
theorem encSs_nil : encSs [] = [] := rfl
theorem encEs_cons (x : Ex) (r : List Ex) : encEs (x :: r) = encE x :: encEs r := rfl
theorem encSs_cons (x : St) (r : List St) : encSs (x :: r) = encS x :: encSs r := rfl
theorem encEs_append (a b : List Ex) : encEs (a ++ b) = encEs a ++ encEs b := by simp [encEs_map]
theorem encSs_append (a b : List St) : encSs (a ++ b) = encSs a ++ encSs b := by simp [encSs_map]
theorem encEs_length (a : List Ex) : (encEs a).length = a.length := by simp [encEs_map]
theorem encSs_length (a : List St) : (encSs a).length = a.length := by simp [encSs_map]
theorem encEs_mid (a b : List Ex) (y : Ex) : (encEs (a ++ y :: b)).getD a.length [] = encE y := by simp [encEs_map]
theorem encSs_mid (a b : List St) (y : St) : (encSs (a ++ y :: b)).getD a.length [] = encS y := by simp [encSs_map]
theorem encE_len (x : Ex) : (encE x).length = 6 := by rw [encE_eq]; rfl
theorem encS_len (x : St) : (encS x).length = 7 := by rw [encS_eq]; rfl
theorem encEs_rows (a : List Ex) : ∀ r ∈ encEs a, r.length = 6 := by
  intro r hr
  rw [encEs_map, List.mem_map] at hr
  obtain ⟨x, _, rfl⟩ := hr
  exact encE_len x
theorem encSs_rows (a : List St) : ∀ r ∈ encSs a, r.length = 7 := by
  intro r hr
  rw [encSs_map, List.mem_map] at hr
  obtain ⟨x, _, rfl⟩ := hr
  exact encS_len x
structure Cn where
  name : List UInt8
  value : Int
  pos : Int
structure Gl where
  name : List UInt8
  len : Int
  init : Int
  pos : Int
structure Ch where
  name : List UInt8
  cap : Int
  pos : Int
structure Tk where
  name : List UInt8
  period : Int
  deadline : Int
  channel : List UInt8
  param : List UInt8
  within : Int
  body : List St
  pos : Int
structure Pg where
  consts : List Cn
  globals : List Gl
  sensors : List (List UInt8)
  outputs : List (List UInt8)
  channels : List Ch
  tasks : List Tk
def encC (x : Cn) : List C := [.str x.name, .int .i16 x.value, .int .i64 x.pos]
def encG (x : Gl) : List C := [.str x.name, .int .i64 x.len, .int .i16 x.init, .int .i64 x.pos]
def encH (x : Ch) : List C := [.str x.name, .int .i64 x.cap, .int .i64 x.pos]
def encT (x : Tk) : List C := [.str x.name, .int .i64 x.period, .int .i64 x.deadline, .str x.channel, .str x.param, .int .i64 x.within, .sl 7 (encSs x.body), .int .i64 x.pos]
def encStr (x : List UInt8) : List C := [.str x]
def encCs (l : List Cn) : List (List C) := l.map encC
def encGs (l : List Gl) : List (List C) := l.map encG
def encHs (l : List Ch) : List (List C) := l.map encH
def encTs (l : List Tk) : List (List C) := l.map encT
def encStrs (l : List (List UInt8)) : List (List C) := l.map encStr
def encP (x : Pg) : List C := [.sl 3 (encCs x.consts), .sl 4 (encGs x.globals), .sl 1 (encStrs x.sensors), .sl 1 (encStrs x.outputs), .sl 3 (encHs x.channels), .sl 8 (encTs x.tasks)]
theorem encCs_length (a : List Cn) : (encCs a).length = a.length := List.length_map _
theorem encCs_mid (a b : List Cn) (y : Cn) : (encCs (a ++ y :: b)).getD a.length [] = encC y := by simp [encCs]
theorem encC_len (x : Cn) : (encC x).length = 3 := rfl
theorem encGs_length (a : List Gl) : (encGs a).length = a.length := List.length_map _
theorem encGs_mid (a b : List Gl) (y : Gl) : (encGs (a ++ y :: b)).getD a.length [] = encG y := by simp [encGs]
theorem encG_len (x : Gl) : (encG x).length = 4 := rfl
theorem encHs_length (a : List Ch) : (encHs a).length = a.length := List.length_map _
theorem encHs_mid (a b : List Ch) (y : Ch) : (encHs (a ++ y :: b)).getD a.length [] = encH y := by simp [encHs]
theorem encH_len (x : Ch) : (encH x).length = 3 := rfl
theorem encTs_length (a : List Tk) : (encTs a).length = a.length := List.length_map _
theorem encTs_mid (a b : List Tk) (y : Tk) : (encTs (a ++ y :: b)).getD a.length [] = encT y := by simp [encTs]
theorem encT_len (x : Tk) : (encT x).length = 8 := rfl
theorem encStrs_nil : encStrs [] = [] := rfl
theorem encStrs_cons (x : List UInt8) (r : List (List UInt8)) : encStrs (x :: r) = encStr x :: encStrs r := rfl
theorem encStrs_append (a b : List (List UInt8)) : encStrs (a ++ b) = encStrs a ++ encStrs b := List.map_append
theorem encStrs_length (a : List (List UInt8)) : (encStrs a).length = a.length := List.length_map _
theorem encStrs_mid (a b : List (List UInt8)) (y : List UInt8) : (encStrs (a ++ y :: b)).getD a.length [] = encStr y := by simp [encStrs]
theorem encStr_len (x : List UInt8) : (encStr x).length = 1 := rfl
theorem encStrs_rows (a : List (List UInt8)) : ∀ r ∈ encStrs a, r.length = 1 := by
  intro r hr
  obtain ⟨x, _, rfl⟩ := List.mem_map.1 hr
  rfl
def gStatements : List C := [.bool false, .bool false, .bool false, .bool false, .int .i64 0, .bool true, .bool false, .bool false, .bool false, .int .i64 1, .bool true, .bool false, .bool false, .bool false, .int .i64 1, .bool true, .bool false, .bool false, .bool false, .int .i64 2, .bool false, .bool false, .bool true, .bool true, .int .i64 1, .bool false, .bool true, .bool true, .bool false, .int .i64 0, .bool false, .bool false, .bool true, .bool false, .int .i64 1, .bool true, .bool false, .bool false, .bool false, .int .i64 1, .bool false, .bool false, .bool false, .bool false, .int .i64 1, .bool true, .bool false, .bool false, .bool false, .int .i64 1, .bool false, .bool true, .bool true, .bool false, .int .i64 0, .bool false, .bool true, .bool true, .bool false, .int .i64 0, .bool false, .bool false, .bool false, .bool false, .int .i64 0, .bool false, .bool false, .bool false, .bool false, .int .i64 0]
def gSymbols : List C := [.str [], .str [45], .str [33], .str [43], .str [45], .str [42], .str [47], .str [37], .str [61, 61], .str [33, 61], .str [60], .str [60, 61], .str [62], .str [62, 61], .str [38, 38], .str [124, 124]]
def gLevels : List C := [.int .i64 0, .int .i64 0, .int .i64 0, .int .i64 4, .int .i64 4, .int .i64 5, .int .i64 5, .int .i64 5, .int .i64 3, .int .i64 3, .int .i64 3, .int .i64 3, .int .i64 3, .int .i64 3, .int .i64 2, .int .i64 1]
def gSpace : List C := [.int .u8 0, .int .u8 0, .int .u8 0, .int .u8 0, .int .u8 0, .int .u8 0, .int .u8 0, .int .u8 0, .int .u8 0, .int .u8 1, .int .u8 1, .int .u8 1, .int .u8 1, .int .u8 1, .int .u8 0, .int .u8 0, .int .u8 0, .int .u8 0, .int .u8 0, .int .u8 0, .int .u8 0, .int .u8 0, .int .u8 0, .int .u8 0, .int .u8 0, .int .u8 0, .int .u8 0, .int .u8 0, .int .u8 0, .int .u8 0, .int .u8 0, .int .u8 0, .int .u8 1, .int .u8 0, .int .u8 0, .int .u8 0, .int .u8 0, .int .u8 0, .int .u8 0, .int .u8 0, .int .u8 0, .int .u8 0, .int .u8 0, .int .u8 0, .int .u8 0, .int .u8 0, .int .u8 0, .int .u8 0, .int .u8 0, .int .u8 0, .int .u8 0, .int .u8 0, .int .u8 0, .int .u8 0, .int .u8 0, .int .u8 0, .int .u8 0, .int .u8 0, .int .u8 0, .int .u8 0, .int .u8 0, .int .u8 0, .int .u8 0, .int .u8 0, .int .u8 0, .int .u8 0, .int .u8 0, .int .u8 0, .int .u8 0, .int .u8 0, .int .u8 0, .int .u8 0, .int .u8 0, .int .u8 0, .int .u8 0, .int .u8 0, .int .u8 0, .int .u8 0, .int .u8 0, .int .u8 0, .int .u8 0, .int .u8 0, .int .u8 0, .int .u8 0, .int .u8 0, .int .u8 0, .int .u8 0, .int .u8 0, .int .u8 0, .int .u8 0, .int .u8 0, .int .u8 0, .int .u8 0, .int .u8 0, .int .u8 0, .int .u8 0, .int .u8 0, .int .u8 0, .int .u8 0, .int .u8 0, .int .u8 0, .int .u8 0, .int .u8 0, .int .u8 0, .int .u8 0, .int .u8 0, .int .u8 0, .int .u8 0, .int .u8 0, .int .u8 0, .int .u8 0, .int .u8 0, .int .u8 0, .int .u8 0, .int .u8 0, .int .u8 0, .int .u8 0, .int .u8 0, .int .u8 0, .int .u8 0, .int .u8 0, .int .u8 0, .int .u8 0, .int .u8 0, .int .u8 0, .int .u8 0, .int .u8 0, .int .u8 0, .int .u8 0, .int .u8 0, .int .u8 0, .int .u8 0, .int .u8 0, .int .u8 0, .int .u8 0, .int .u8 0, .int .u8 0, .int .u8 0, .int .u8 0, .int .u8 0, .int .u8 0, .int .u8 0, .int .u8 0, .int .u8 0, .int .u8 0, .int .u8 0, .int .u8 0, .int .u8 0, .int .u8 0, .int .u8 0, .int .u8 0, .int .u8 0, .int .u8 0, .int .u8 0, .int .u8 0, .int .u8 0, .int .u8 0, .int .u8 0, .int .u8 0, .int .u8 0, .int .u8 0, .int .u8 0, .int .u8 0, .int .u8 0, .int .u8 0, .int .u8 0, .int .u8 0, .int .u8 0, .int .u8 0, .int .u8 0, .int .u8 0, .int .u8 0, .int .u8 0, .int .u8 0, .int .u8 0, .int .u8 0, .int .u8 0, .int .u8 0, .int .u8 0, .int .u8 0, .int .u8 0, .int .u8 0, .int .u8 0, .int .u8 0, .int .u8 0, .int .u8 0, .int .u8 0, .int .u8 0, .int .u8 0, .int .u8 0, .int .u8 0, .int .u8 0, .int .u8 0, .int .u8 0, .int .u8 0, .int .u8 0, .int .u8 0, .int .u8 0, .int .u8 0, .int .u8 0, .int .u8 0, .int .u8 0, .int .u8 0, .int .u8 0, .int .u8 0, .int .u8 0, .int .u8 0, .int .u8 0, .int .u8 0, .int .u8 0, .int .u8 0, .int .u8 0, .int .u8 0, .int .u8 0, .int .u8 0, .int .u8 0, .int .u8 0, .int .u8 0, .int .u8 0, .int .u8 0, .int .u8 0, .int .u8 0, .int .u8 0, .int .u8 0, .int .u8 0, .int .u8 0, .int .u8 0, .int .u8 0, .int .u8 0, .int .u8 0, .int .u8 0, .int .u8 0, .int .u8 0, .int .u8 0, .int .u8 0, .int .u8 0, .int .u8 0, .int .u8 0, .int .u8 0, .int .u8 0, .int .u8 0, .int .u8 0, .int .u8 0, .int .u8 0, .int .u8 0, .int .u8 0, .int .u8 0, .int .u8 0, .int .u8 0, .int .u8 0, .int .u8 0, .int .u8 0, .int .u8 0, .int .u8 0, .int .u8 0, .int .u8 0]
def gPow : List C := [.int .u64 1, .int .u64 10, .int .u64 100, .int .u64 1000, .int .u64 10000, .int .u64 100000, .int .u64 1000000, .int .u64 10000000, .int .u64 100000000, .int .u64 1000000000, .int .u64 10000000000, .int .u64 100000000000, .int .u64 1000000000000, .int .u64 10000000000000, .int .u64 100000000000000, .int .u64 1000000000000000, .int .u64 10000000000000000, .int .u64 100000000000000000, .int .u64 1000000000000000000, .int .u64 10000000000000000000]
def zglob : Nat → Option (List C)
  | 0 => some gSymbols
  | 1 => some gLevels
  | 2 => some gStatements
  | 3 => some gSpace
  | 4 => some gPow
  | _ => none
def zflat (t : TypeId) : Bool := t == 65 || t == 67 || t == 69
def zG : Ctx := { ty := zty, glob := zglob, nglob := 8, flat := zflat }
theorem zG_g0 : zG.glob 0 = some gSymbols := rfl
theorem zG_g1 : zG.glob 1 = some gLevels := rfl
theorem zG_g2 : zG.glob 2 = some gStatements := rfl
theorem fits_cons {z : Z} {zs : List Z} {cs : List Cell} (h : fits (z :: zs) cs = true) : ∃ x r, cs = .c x :: r ∧ C.fit z x = true ∧ fits zs r = true := by
  cases cs with
  | nil => cases h
  | cons c r => cases c with
    | c x => rw [fits, Bool.and_eq_true] at h; exact ⟨x, r, rfl, h.1, h.2⟩
    | _ => cases h
theorem fits_nil {cs : List Cell} (h : fits [] cs = true) : cs = [] := by cases cs with
  | nil => rfl
  | cons c r => cases h
theorem fit_str {x : C} (h : C.fit .str x = true) : ∃ a, x = .str a := by cases x <;> first | exact ⟨_, rfl⟩ | cases h
theorem fit_int {k : IntKind} {x : C} (h : C.fit (.int k) x = true) : ∃ n, x = .int k n := by
  cases x <;> first | (simp only [C.fit, decide_eq_true_eq] at h; subst h; exact ⟨_, rfl⟩) | cases h
theorem eq_str {d : Nat} {t : TypeId} {a b : List UInt8} {w : World} (h : Tryz.prog.underlying t = some .string) : (Op.equalIn (d + 1) t (Cell.c (.str a)).exact (Cell.c (.str b)).exact).run Tryz.prog w = .ok (a == b) w := by
  show (Op.equalIn (d + 1) t (.string ⟨a.toArray⟩) (.string ⟨b.toArray⟩)).run Tryz.prog w = _
  rw [run_equalIn_string w d t _ _ h, ByteArray.toList_eq, ByteArray.toList_eq]
theorem eq_int {d : Nat} {t : TypeId} {k : IntKind} {a b : Int} {w : World} (h : Tryz.prog.underlying t = some (.int k)) : (Op.equalIn (d + 1) t (Cell.c (.int k a)).exact (Cell.c (.int k b)).exact).run Tryz.prog w = .ok (a == b) w := run_equalIn_int w d t k k a b h
theorem zFlat65 : FlatOk Tryz.prog 65 [.str, .int .i16, .int .i64] := by
  refine ⟨by kernel_rfl, fun w xs ys hx hy => ?_⟩
  obtain ⟨x1, r1, rfl, h1, hx⟩ := fits_cons hx
  obtain ⟨x2, r2, rfl, h2, hx⟩ := fits_cons hx
  obtain ⟨x3, r3, rfl, h3, hx⟩ := fits_cons hx
  obtain rfl := fits_nil hx
  obtain ⟨y1, s1, rfl, g1, hy⟩ := fits_cons hy
  obtain ⟨y2, s2, rfl, g2, hy⟩ := fits_cons hy
  obtain ⟨y3, s3, rfl, g3, hy⟩ := fits_cons hy
  obtain rfl := fits_nil hy
  obtain ⟨a1, rfl⟩ := fit_str h1
  obtain ⟨a2, rfl⟩ := fit_int h2
  obtain ⟨a3, rfl⟩ := fit_int h3
  obtain ⟨b1, rfl⟩ := fit_str g1
  obtain ⟨b2, rfl⟩ := fit_int g2
  obtain ⟨b3, rfl⟩ := fit_int g3
  have hS : Tryz.prog.underlying 65 = some (.struct (Tryz.prog.fieldsOf 65)) := by kernel_rfl
  have hp : Tryz.prog.stoodInHeld 65 = false := by kernel_rfl
  rw [show (10000 : Nat) = 9999 + 1 from rfl, run_equalIn_agg w 9999 65 _ _ hS hp]
  simp only [Program.fieldsOf, Tryz.underlying65]
  go_simp
  simp only [eq_str Tryz.underlying9, eq_int Tryz.underlying29, eq_int Tryz.underlying3, Result.andThen_ok, sameL, C.same]
  cases a1 == b1 <;> cases a2 == b2 <;> cases a3 == b3 <;> rfl
theorem zFlat67 : FlatOk Tryz.prog 67 [.str, .int .i64, .int .i16, .int .i64] := by
  refine ⟨by kernel_rfl, fun w xs ys hx hy => ?_⟩
  obtain ⟨x1, r1, rfl, h1, hx⟩ := fits_cons hx
  obtain ⟨x2, r2, rfl, h2, hx⟩ := fits_cons hx
  obtain ⟨x3, r3, rfl, h3, hx⟩ := fits_cons hx
  obtain ⟨x4, r4, rfl, h4, hx⟩ := fits_cons hx
  obtain rfl := fits_nil hx
  obtain ⟨y1, s1, rfl, g1, hy⟩ := fits_cons hy
  obtain ⟨y2, s2, rfl, g2, hy⟩ := fits_cons hy
  obtain ⟨y3, s3, rfl, g3, hy⟩ := fits_cons hy
  obtain ⟨y4, s4, rfl, g4, hy⟩ := fits_cons hy
  obtain rfl := fits_nil hy
  obtain ⟨a1, rfl⟩ := fit_str h1
  obtain ⟨a2, rfl⟩ := fit_int h2
  obtain ⟨a3, rfl⟩ := fit_int h3
  obtain ⟨a4, rfl⟩ := fit_int h4
  obtain ⟨b1, rfl⟩ := fit_str g1
  obtain ⟨b2, rfl⟩ := fit_int g2
  obtain ⟨b3, rfl⟩ := fit_int g3
  obtain ⟨b4, rfl⟩ := fit_int g4
  have hS : Tryz.prog.underlying 67 = some (.struct (Tryz.prog.fieldsOf 67)) := by kernel_rfl
  have hp : Tryz.prog.stoodInHeld 67 = false := by kernel_rfl
  rw [show (10000 : Nat) = 9999 + 1 from rfl, run_equalIn_agg w 9999 67 _ _ hS hp]
  simp only [Program.fieldsOf, Tryz.underlying67]
  go_simp
  simp only [eq_str Tryz.underlying9, eq_int Tryz.underlying29, eq_int Tryz.underlying3, Result.andThen_ok, sameL, C.same]
  cases a1 == b1 <;> cases a2 == b2 <;> cases a3 == b3 <;> cases a4 == b4 <;> rfl
theorem zFlat69 : FlatOk Tryz.prog 69 [.str, .int .i64, .int .i64] := by
  refine ⟨by kernel_rfl, fun w xs ys hx hy => ?_⟩
  obtain ⟨x1, r1, rfl, h1, hx⟩ := fits_cons hx
  obtain ⟨x2, r2, rfl, h2, hx⟩ := fits_cons hx
  obtain ⟨x3, r3, rfl, h3, hx⟩ := fits_cons hx
  obtain rfl := fits_nil hx
  obtain ⟨y1, s1, rfl, g1, hy⟩ := fits_cons hy
  obtain ⟨y2, s2, rfl, g2, hy⟩ := fits_cons hy
  obtain ⟨y3, s3, rfl, g3, hy⟩ := fits_cons hy
  obtain rfl := fits_nil hy
  obtain ⟨a1, rfl⟩ := fit_str h1
  obtain ⟨a2, rfl⟩ := fit_int h2
  obtain ⟨a3, rfl⟩ := fit_int h3
  obtain ⟨b1, rfl⟩ := fit_str g1
  obtain ⟨b2, rfl⟩ := fit_int g2
  obtain ⟨b3, rfl⟩ := fit_int g3
  have hS : Tryz.prog.underlying 69 = some (.struct (Tryz.prog.fieldsOf 69)) := by kernel_rfl
  have hp : Tryz.prog.stoodInHeld 69 = false := by kernel_rfl
  rw [show (10000 : Nat) = 9999 + 1 from rfl, run_equalIn_agg w 9999 69 _ _ hS hp]
  simp only [Program.fieldsOf, Tryz.underlying69]
  go_simp
  simp only [eq_str Tryz.underlying9, eq_int Tryz.underlying29, eq_int Tryz.underlying3, Result.andThen_ok, sameL, C.same]
  cases a1 == b1 <;> cases a2 == b2 <;> cases a3 == b3 <;> rfl
theorem zFlat (t : TypeId) (d : Ty) (h : zty t = some d) (hf : zflat t = true) : FlatOk Tryz.prog t d.zero := by
  simp only [zflat, Bool.or_eq_true, beq_iff_eq] at hf
  rcases hf with (rfl | rfl) | rfl
  · obtain rfl := Option.some.inj (show some _ = some d from h); exact zFlat65
  · obtain rfl := Option.some.inj (show some _ = some d from h); exact zFlat67
  · obtain rfl := Option.some.inj (show some _ = some d from h); exact zFlat69
theorem zT : TyOk Tryz.prog zG := tyOk_of zTab (fun _ => rfl) zTab_ok zFlat
theorem prog_mixed : Tryz.prog.follows .mixedOrders = true := by kernel_rfl
theorem zG_ty (t : Nat) : zG.ty t = zty t := rfl
/-- .. for a function that holds a loop over a function. -/
def zGm : Ctx := zG.on
theorem zTm : TyOk Tryz.prog zGm := tyOk_of zTab (fun _ => rfl) zTab_ok zFlat
theorem zGm_ty (t : Nat) : zGm.ty t = zty t := rfl
theorem zset : type_of% (
  And.intro @zG_ty <| And.intro @zGm_ty <| And.intro zG_g0 <| And.intro zG_g1 <| And.intro zG_g2 <|
  And.intro @zty_2 <|
  And.intro @zty_3 <|
  And.intro @zty_4 <|
  And.intro @zty_5 <|
  And.intro @zty_6 <|
  And.intro @zty_7 <|
  And.intro @zty_8 <|
  And.intro @zty_9 <|
  And.intro @zty_10 <|
  And.intro @zty_11 <|
  And.intro @zty_12 <|
  And.intro @zty_13 <|
  And.intro @zty_14 <|
  And.intro @zty_15 <|
  And.intro @zty_16 <|
  And.intro @zty_17 <|
  And.intro @zty_18 <|
  And.intro @zty_19 <|
  And.intro @zty_21 <|
  And.intro @zty_22 <|
  And.intro @zty_23 <|
  And.intro @zty_24 <|
  And.intro @zty_25 <|
  And.intro @zty_26 <|
  And.intro @zty_27 <|
  And.intro @zty_28 <|
  And.intro @zty_29 <|
  And.intro @zty_30 <|
  And.intro @zty_31 <|
  And.intro @zty_32 <|
  And.intro @zty_39 <|
  And.intro @zty_40 <|
  And.intro @zty_41 <|
  And.intro @zty_45 <|
  And.intro @zty_52 <|
  And.intro @zty_53 <|
  And.intro @zty_55 <|
  And.intro @zty_56 <|
  And.intro @zty_57 <|
  And.intro @zty_58 <|
  And.intro @zty_59 <|
  And.intro @zty_64 <|
  And.intro @zty_65 <|
  And.intro @zty_66 <|
  And.intro @zty_67 <|
  And.intro @zty_68 <|
  And.intro @zty_69 <|
  And.intro @zty_70 <|
  And.intro @zty_71 <|
  And.intro @zty_73 <|
  And.intro @zty_74 <|
  And.intro @zty_75 <|
  And.intro @zty_80 <|
  And.intro @zty_81 <|
  And.intro @zty_82 <|
  And.intro @zty_83 <|
  And.intro @zty_84 <|
  And.intro @zty_85 <|
  And.intro @zty_86 <|
  And.intro @zty_87 <|
  And.intro @zty_88 <|
  And.intro @zty_89 <|
  And.intro @zty_100 <|
  And.intro @zty_102 <|
  And.intro @zty_103 <|
  And.intro @zty_114 <|
  And.intro @zty_115 <|
  And.intro @zty_116 <|
  And.intro @zty_117 <|
  And.intro @zty_150 <|
  And.intro @zty_151 <|
  And.intro @zty_152 <|
  And.intro @zty_153 <|
  And.intro @zty_154 <|
  And.intro @zty_155 <|
  And.intro @zty_157 <|
  And.intro @zty_158 <|
  And.intro @zty_163 <|
  And.intro @zty_165 <|
  And.intro @zty_166 <|
  And.intro @zty_167 <|
  And.intro @zty_170 <|
  And.intro @zty_171 <|
  And.intro @zty_172 <|
  And.intro @zty_173 <|
  And.intro @zty_178 <|
  And.intro @zty_179 <|
  And.intro @zty_183 <|
  And.intro @zty_184 <|
  And.intro @zty_195 <|
  And.intro @zty_199 <|
  And.intro @zty_202 <|
  And.intro @zty_204 <|
  And.intro @zty_217 <|
  And.intro @zty_225 <|
  And.intro @zty_226 <|
  And.intro @zty_227 <|
  And.intro @zty_234 <|
  And.intro @zty_239 <|
  And.intro @zty_240 <|
  And.intro @zty_242 <|
  And.intro @zty_245 <|
  And.intro @zty_246 <|
  And.intro @zty_251 <|
  And.intro @zty_256 <|
  And.intro @zty_260 <|
  And.intro @zty_262 <|
  And.intro @zty_263 <|
  And.intro @zty_264 <|
  And.intro @zty_265 <|
  And.intro @zty_267 <|
  And.intro @zty_268 <|
  And.intro @zty_269 <|
  And.intro @zty_271 <|
  And.intro @zty_274 <|
  And.intro @zty_275 <|
  And.intro @zty_276 <|
  And.intro @zty_277 <|
  And.intro @zty_278 <|
  And.intro @zty_279 <|
  And.intro @zty_281 <|
  And.intro @zty_282 <|
  And.intro @zty_284 <|
  And.intro @zty_285 <|
  And.intro @zty_286 <|
  And.intro @zty_287 <|
  And.intro @zty_288 <|
  And.intro @zty_289 <|
  And.intro @zty_294 <|
  And.intro @zty_295 <|
  And.intro @zty_297 <|
  And.intro @zty_298 <|
  And.intro @zty_299 <|
  And.intro @encEs_length <| And.intro @encSs_length <| And.intro @encEs_mid <| And.intro @encSs_mid <| And.intro @encE_len <| And.intro @encS_len <| And.intro @Int.toNat_natCast <| And.intro @encCs_length <| And.intro @encCs_mid <| And.intro @encC_len <| And.intro @encC.eq_1 <| And.intro @encGs_length <| And.intro @encGs_mid <| And.intro @encG_len <| And.intro @encG.eq_1 <| And.intro @encHs_length <| And.intro @encHs_mid <| And.intro @encH_len <| And.intro @encH.eq_1 <| And.intro @encTs_length <| And.intro @encTs_mid <| And.intro @encT_len <| And.intro @encT.eq_1 <| And.intro @encStrs_length <| And.intro @encStrs_mid <| And.intro @encStr_len <| And.intro @encStr.eq_1 <| And.intro @encP.eq_1 <| And.intro @encE_eq <| @encS_eq
  ) :=
  And.intro @zG_ty <| And.intro @zGm_ty <| And.intro zG_g0 <| And.intro zG_g1 <| And.intro zG_g2 <|
  And.intro @zty_2 <|
  And.intro @zty_3 <|
  And.intro @zty_4 <|
  And.intro @zty_5 <|
  And.intro @zty_6 <|
  And.intro @zty_7 <|
  And.intro @zty_8 <|
  And.intro @zty_9 <|
  And.intro @zty_10 <|
  And.intro @zty_11 <|
  And.intro @zty_12 <|
  And.intro @zty_13 <|
  And.intro @zty_14 <|
  And.intro @zty_15 <|
  And.intro @zty_16 <|
  And.intro @zty_17 <|
  And.intro @zty_18 <|
  And.intro @zty_19 <|
  And.intro @zty_21 <|
  And.intro @zty_22 <|
  And.intro @zty_23 <|
  And.intro @zty_24 <|
  And.intro @zty_25 <|
  And.intro @zty_26 <|
  And.intro @zty_27 <|
  And.intro @zty_28 <|
  And.intro @zty_29 <|
  And.intro @zty_30 <|
  And.intro @zty_31 <|
  And.intro @zty_32 <|
  And.intro @zty_39 <|
  And.intro @zty_40 <|
  And.intro @zty_41 <|
  And.intro @zty_45 <|
  And.intro @zty_52 <|
  And.intro @zty_53 <|
  And.intro @zty_55 <|
  And.intro @zty_56 <|
  And.intro @zty_57 <|
  And.intro @zty_58 <|
  And.intro @zty_59 <|
  And.intro @zty_64 <|
  And.intro @zty_65 <|
  And.intro @zty_66 <|
  And.intro @zty_67 <|
  And.intro @zty_68 <|
  And.intro @zty_69 <|
  And.intro @zty_70 <|
  And.intro @zty_71 <|
  And.intro @zty_73 <|
  And.intro @zty_74 <|
  And.intro @zty_75 <|
  And.intro @zty_80 <|
  And.intro @zty_81 <|
  And.intro @zty_82 <|
  And.intro @zty_83 <|
  And.intro @zty_84 <|
  And.intro @zty_85 <|
  And.intro @zty_86 <|
  And.intro @zty_87 <|
  And.intro @zty_88 <|
  And.intro @zty_89 <|
  And.intro @zty_100 <|
  And.intro @zty_102 <|
  And.intro @zty_103 <|
  And.intro @zty_114 <|
  And.intro @zty_115 <|
  And.intro @zty_116 <|
  And.intro @zty_117 <|
  And.intro @zty_150 <|
  And.intro @zty_151 <|
  And.intro @zty_152 <|
  And.intro @zty_153 <|
  And.intro @zty_154 <|
  And.intro @zty_155 <|
  And.intro @zty_157 <|
  And.intro @zty_158 <|
  And.intro @zty_163 <|
  And.intro @zty_165 <|
  And.intro @zty_166 <|
  And.intro @zty_167 <|
  And.intro @zty_170 <|
  And.intro @zty_171 <|
  And.intro @zty_172 <|
  And.intro @zty_173 <|
  And.intro @zty_178 <|
  And.intro @zty_179 <|
  And.intro @zty_183 <|
  And.intro @zty_184 <|
  And.intro @zty_195 <|
  And.intro @zty_199 <|
  And.intro @zty_202 <|
  And.intro @zty_204 <|
  And.intro @zty_217 <|
  And.intro @zty_225 <|
  And.intro @zty_226 <|
  And.intro @zty_227 <|
  And.intro @zty_234 <|
  And.intro @zty_239 <|
  And.intro @zty_240 <|
  And.intro @zty_242 <|
  And.intro @zty_245 <|
  And.intro @zty_246 <|
  And.intro @zty_251 <|
  And.intro @zty_256 <|
  And.intro @zty_260 <|
  And.intro @zty_262 <|
  And.intro @zty_263 <|
  And.intro @zty_264 <|
  And.intro @zty_265 <|
  And.intro @zty_267 <|
  And.intro @zty_268 <|
  And.intro @zty_269 <|
  And.intro @zty_271 <|
  And.intro @zty_274 <|
  And.intro @zty_275 <|
  And.intro @zty_276 <|
  And.intro @zty_277 <|
  And.intro @zty_278 <|
  And.intro @zty_279 <|
  And.intro @zty_281 <|
  And.intro @zty_282 <|
  And.intro @zty_284 <|
  And.intro @zty_285 <|
  And.intro @zty_286 <|
  And.intro @zty_287 <|
  And.intro @zty_288 <|
  And.intro @zty_289 <|
  And.intro @zty_294 <|
  And.intro @zty_295 <|
  And.intro @zty_297 <|
  And.intro @zty_298 <|
  And.intro @zty_299 <|
  And.intro @encEs_length <| And.intro @encSs_length <| And.intro @encEs_mid <| And.intro @encSs_mid <| And.intro @encE_len <| And.intro @encS_len <| And.intro @Int.toNat_natCast <| And.intro @encCs_length <| And.intro @encCs_mid <| And.intro @encC_len <| And.intro @encC.eq_1 <| And.intro @encGs_length <| And.intro @encGs_mid <| And.intro @encG_len <| And.intro @encG.eq_1 <| And.intro @encHs_length <| And.intro @encHs_mid <| And.intro @encH_len <| And.intro @encH.eq_1 <| And.intro @encTs_length <| And.intro @encTs_mid <| And.intro @encT_len <| And.intro @encT.eq_1 <| And.intro @encStrs_length <| And.intro @encStrs_mid <| And.intro @encStr_len <| And.intro @encStr.eq_1 <| And.intro @encP.eq_1 <| And.intro @encE_eq <| @encS_eq
/-- The parts of an expression are smaller. -/
theorem Ex.args_lt {x y : Ex} (h : y ∈ x.args) : SizeOf.sizeOf y < SizeOf.sizeOf x := by
  cases x
  have := List.sizeOf_lt_of_mem h
  simp [Ex.args] at *
  omega
theorem St.body_lt {x y : St} (h : y ∈ x.body) : SizeOf.sizeOf y < SizeOf.sizeOf x := by
  cases x
  have := List.sizeOf_lt_of_mem h
  simp [St.body] at *
  omega
theorem St.els_lt {x y : St} (h : y ∈ x.els) : SizeOf.sizeOf y < SizeOf.sizeOf x := by
  cases x
  have := List.sizeOf_lt_of_mem h
  simp [St.els] at *
  omega
theorem sg {p q : Prop} (hq : q) (h : p = q := by simp only [amset, amlib, zset, eq_self, ↓reduceIte, reduceCtorEq, Nat.reduceBEq, Nat.reduceEqDiff, Nat.reduceAdd, Nat.reduceMul, Nat.reduceLeDiff, Nat.reduceLT, Nat.reduceSub]; exact rfl) : p := h.mpr hq
theorem tsg {p : Prop} (h : p = True := by simp only [amset, amlib, zset, eq_self, ↓reduceIte, reduceCtorEq, Nat.reduceBEq, Nat.reduceEqDiff, Nat.reduceAdd, Nat.reduceMul, Nat.reduceLeDiff, Nat.reduceLT, Nat.reduceSub]) : p := of_eq_true h
theorem sgl {p q : Prop} (hq : q) (h : p = q := by simp only [later]; simp only [amset, amlib, zset, eq_self, ↓reduceIte, reduceCtorEq, Nat.reduceBEq, Nat.reduceEqDiff, Nat.reduceAdd, Nat.reduceMul, Nat.reduceLeDiff, Nat.reduceLT, Nat.reduceSub]; exact rfl) : p := h.mpr hq
theorem aw_nm {P : Program} {G : Ctx} {N : Nat} {c : Code} {s s' : S} {Q : X → S → Prop} (h : AW P G N c s' Q) (hs : s = s' := by simp only [amset, amlib, zset, eq_self, ↓reduceIte, reduceCtorEq, Nat.reduceBEq, Nat.reduceEqDiff, Nat.reduceAdd, Nat.reduceMul, Nat.reduceLeDiff, Nat.reduceLT, Nat.reduceSub]; exact rfl) : AW P G N c s Q := aw_norm hs h
theorem bools : type_of% (And.intro @Bool.true_or <| And.intro @Bool.or_true <| And.intro @Bool.false_or <| And.intro @Bool.or_false <| And.intro @Bool.true_and <| And.intro @Bool.and_true <| And.intro @Bool.false_and <| And.intro @Bool.and_false <| And.intro @Bool.not_true <| And.intro @Bool.not_false <| @Bool.false_eq_true) := And.intro @Bool.true_or <| And.intro @Bool.or_true <| And.intro @Bool.false_or <| And.intro @Bool.or_false <| And.intro @Bool.true_and <| And.intro @Bool.and_true <| And.intro @Bool.false_and <| And.intro @Bool.and_false <| And.intro @Bool.not_true <| And.intro @Bool.not_false <| @Bool.false_eq_true
end Go.Proofs.Am
