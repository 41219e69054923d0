/-
  Walks: what the law marks and finds marked: numbers, texts. No condition.
-/
import Derived.Test.YtigmgfinjapchaaW5
set_option linter.unusedVariables false
set_option linter.unusedSimpArgs false
set_option maxRecDepth 100000
namespace Go.Proofs.Ytigmgfinjapchaa
open Go.RowKit

def cnt (k : Int) (n : Nat) : List Int := (List.range n).map fun (i : Nat) => k + (i : Int)
theorem cnt_length (k : Int) (n : Nat) : (cnt k n).length = n := by simp [cnt]
theorem cnt_get (k : Int) (n i : Nat) (h : i < n) : (cnt k n)[i]? = some (k + i) := by simp [cnt, h]
theorem cnt_set (k : Int) (l : List Int) (i : Nat) (h : i < l.length) : (cnt k i ++ l.drop i).set i (k + i) = cnt k (i + 1) ++ l.drop (i + 1) := by
  rw [List.set_append, cnt_length, if_neg (by omega), Nat.sub_self, ← List.getElem_cons_drop h, List.set_cons_zero]
  simp [cnt, List.range_succ]

/-- What marking n numbers leaves. -/
def MarkedI (a : Option Addr) (cap n : Nat) (k : Int) (lo : Nat) (w : World) (e : Ending) (w' : World) : Prop :=
  e = .returned (.int .i64 (k + n)) ∧ (M.sl a cap 1 3 (intM (cnt k n))).Mine w' lo ∧ Only (addrBlocks a) w w'

def strM (l : List ByteArray) : List M := l.map fun n => .c (.string n)
theorem strM_length (l : List ByteArray) : (strM l).length = l.length := by simp [strM]
theorem strM_append (l r : List ByteArray) : strM (l ++ r) = strM l ++ strM r := by simp [strM]
theorem strM_blocks (l : List ByteArray) : M.blocksL (strM l) = [] := by
  induction l with
  | nil => rfl
  | cons x r ih => simp only [strM, List.map_cons, M.blocksL, M.blocks, List.nil_append]; exact ih
theorem strM_cells (l : List ByteArray) : M.cellsL (strM l) = l.map Value.string := by
  induction l with
  | nil => rfl
  | cons x r ih => simp only [strM, List.map_cons, M.cellsL, M.cells, List.singleton_append]; exact congrArg _ ih
theorem Strs.elem {w : World} {a : Option Addr} {cap : Nat} {e : TypeId} {l : List ByteArray} (h : (M.sl a cap 1 e (strM l)).In w) (k : Nat) (hk : k < l.length) :
    ∃ b off x, a = some ⟨b, off, none⟩ ∧ l[k]? = some x ∧ w.cell? ⟨b, off + k, none⟩ = some (.string x) := by
  have hk' : k < (strM l).length := by rw [strM_length]; exact hk
  obtain ⟨b, off, ha, hel⟩ := h.elem (by omega)
  refine ⟨b, off, l[k], ha, List.getElem?_eq_getElem hk, ?_⟩
  have := hel k hk' 0 (.string l[k]) (by simp [strM, M.cells])
  simpa using this
theorem Strs.len {w : World} {a : Option Addr} {cap : Nat} {e : TypeId} {l : List ByteArray} (h : (M.sl a cap 1 e (strM l)).In w) : l.length ≤ cap ∧ cap ≤ 9223372036854775807 := by
  have := h.len
  rwa [strM_length] at this
theorem Strs.set {w : World} {lo g cap : Nat} {e : TypeId} {l : List ByteArray} (h : (M.sl (some ⟨g, 0, none⟩) cap 1 e (strM l)).Mine w lo) (k : Nat) (hk : k < l.length) (x : ByteArray) :
    (M.sl (some ⟨g, 0, none⟩) cap 1 e (strM (l.set k x))).Mine (w.setCell ⟨g, k, none⟩ (.string x)) lo := by
  have := h.setElem k (by rw [strM_length]; exact hk) (.c (.string x)) rfl (M.Mine.c rfl) (by simp [M.blocks])
  simp only [M.cells, setCells, Nat.mul_one] at this
  rwa [show strM (l.set k x) = (strM l).set k (.c (.string x)) by simp [strM, List.map_set]]
def eqLS (l r : List ByteArray) : Bool := decide (l = r)
theorem eqLS_iff (l r : List ByteArray) : eqLS l r = true ↔ l = r := by simp [eqLS]

def scnt (k : Int) (n : Nat) : List ByteArray := (List.range n).map fun (i : Nat) => mtx (k + (i : Int))
theorem scnt_length (k : Int) (n : Nat) : (scnt k n).length = n := by simp [scnt]
theorem scnt_get (k : Int) (n i : Nat) (h : i < n) : (scnt k n)[i]? = some (mtx (k + i)) := by simp [scnt, h]
theorem scnt_set (k : Int) (l : List ByteArray) (i : Nat) (h : i < l.length) : (scnt k i ++ l.drop i).set i (mtx (k + i)) = scnt k (i + 1) ++ l.drop (i + 1) := by
  rw [List.set_append, scnt_length, if_neg (by omega), Nat.sub_self, ← List.getElem_cons_drop h, List.set_cons_zero]
  simp [scnt, List.range_succ]
def MarkedS (a : Option Addr) (cap n : Nat) (k : Int) (lo : Nat) (w : World) (e : Ending) (w' : World) : Prop :=
  e = .returned (.int .i64 (k + n)) ∧ (M.sl a cap 1 9 (strM (scnt k n))).Mine w' lo ∧ Only (addrBlocks a) w w'

end Go.Proofs.Ytigmgfinjapchaa
