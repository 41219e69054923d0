/-
  Walks: what the law marks and finds marked: numbers, texts. No condition.
-/
import Derived.Test.YtoflfamfhpijcaaW5
set_option linter.unusedVariables false
set_option linter.unusedSimpArgs false
set_option maxRecDepth 100000
namespace Go.Proofs.Ytoflfamfhpijcaa
open Go.RowKit

def cnt (k : Int) (n : Nat) : List Int := (List.range n).map fun (i : Nat) => k + (i : Int)
theorem cnt_length (k : Int) (n : Nat) : (cnt k n).length = n := by simp [cnt]
theorem cnt_get (k : Int) (n i : Nat) (h : i < n) : (cnt k n)[i]? = some (k + i) := by simp [cnt, h]
theorem cnt_set (k : Int) (l : List Int) (i : Nat) (h : i < l.length) : (cnt k i ++ l.drop i).set i (k + i) = cnt k (i + 1) ++ l.drop (i + 1) := by
  rw [List.set_append, cnt_length, if_neg (by omega), Nat.sub_self, ← List.getElem_cons_drop h, List.set_cons_zero]
  simp [cnt, List.range_succ]

/-- What marking n numbers leaves. -/
def MarkedI (a : Option Addr) (cap n : Nat) (k : Int) (lo : Nat) (w : World) (e : Ending) (w' : World) : Prop :=
  e = .returned (.int .i64 (k + n)) ∧ (M.sl a cap 1 3 (intM (cnt k n))).Mine w' lo ∧ Only (addrBlocks a) w w'

theorem markIntS_calls (a : Option Addr) (cap : Nat) (l : List Int) (k : Int) (lo : Nat) (w : World) (h : (M.sl a cap 1 3 (intM l)).Mine w lo) (hk0 : 0 ≤ k) (hk : k + l.length ≤ 1000000000000) :
    Calls Try.prog 92 #[.slice a l.length cap, .int .i64 k] w (MarkedI a cap l.length k lo w) := by
  have hl := Ints.len h.in_
  have H := Lib.hid h; clear h; have HK := Lib.hid hk; clear hk
  go_enter Try.func92, Try.ntmps92
  go_wp2_with fail
  go_loopw [1, 5] (fun t i wr => ∃ j : Nat, j ≤ l.length ∧ i = .int .i64 j ∧ t = .int .i64 (k + j) ∧ (M.sl a cap 1 3 (intM (cnt k j ++ l.drop j))).Mine wr lo ∧ Only (addrBlocks a) w wr) (fun _ i _ => l.length - (intOf i).toNat)
  case atStart => exact ⟨0, Nat.zero_le _, rfl, by simp, by simpa [cnt] using H.out, Only.refl _ _⟩
  case round =>
    obtain ⟨j, hj, rfl, rfl, hm, ho⟩ := hrel
    have hkk := HK.out
    by_cases hlt : j < l.length
    · obtain ⟨g, rfl, _, _⟩ := hm.addr (by rw [intM_length]; simp [cnt_length]; omega)
      obtain ⟨⟨u, hu⟩, hf⟩ := hm.row j (by rw [intM_length]; simp [cnt_length]; omega)
      have hs := Ints.set hm j (by simp [cnt_length]; omega) (k + j)
      rw [cnt_set k l j hlt] at hs
      have HM := Lib.hid hm; clear hm; have HS := Lib.hid hs; clear hs
      have hkk' : k + (j : Int) ≤ 1000000000000 := by omega
      have hkk2 : 0 ≤ k + (j : Int) := by omega
      clear hkk
      go_wp2_with fail
      go_roundw
      case rel => exact ⟨j + 1, by omega, by go_num, by push_cast; go_num, HS.out, Only.setCell ho (by simp [addrBlocks]) _⟩
      case measure => simp [intOf]; omega
    · go_wp2_with fail
      go_ret
      obtain rfl : j = l.length := by omega
      exact ⟨rfl, by simpa using hm, ho⟩

theorem heldIntS_calls (a : Option Addr) (cap n : Nat) (k : Int) (w : World) (h : (M.sl a cap 1 3 (intM (cnt k n))).In w) (hk0 : 0 ≤ k) (hk : k + n ≤ 1000000000000) :
    Calls Try.prog 94 #[.slice a n cap, .int .i64 k] w (Ret (.int .i64 (k + n)) w) := by
  have hl := Ints.len h
  rw [cnt_length] at hl
  have H := Lib.hid h; clear h; have HK := Lib.hid hk; clear hk
  go_enter Try.func94, Try.ntmps94
  go_wp2_with fail
  go_loop [1, 5] (fun t i => ∃ j : Nat, j ≤ n ∧ i = .int .i64 j ∧ t = .int .i64 (k + j)) (fun _ i => n - (intOf i).toNat)
  case atStart => exact ⟨0, Nat.zero_le _, rfl, by simp⟩
  case round =>
    obtain ⟨j, hj, rfl, rfl⟩ := hrel
    have hkk := HK.out
    by_cases hlt : j < n
    · obtain ⟨b, off, x, rfl, hx, hc⟩ := Ints.elem H.out j (by rw [cnt_length]; exact hlt)
      rw [cnt_get k n j hlt] at hx
      obtain rfl := Option.some.inj hx
      clear hx
      have hkk' : k + (j : Int) ≤ 1000000000000 := by omega
      have hkk2 : 0 ≤ k + (j : Int) := by omega
      clear hkk
      go_wp2_with fail
      go_round
      case rel => exact ⟨j + 1, by omega, by go_num, by push_cast; go_num⟩
      case measure => simp [intOf]; omega
    · go_wp2_with fail
      go_ret
      obtain rfl : j = n := by omega
      exact ⟨rfl, Below.refl _ _⟩

/-! ### texts -/
def strM (l : List ByteArray) : List M := l.map fun n => .c (.string n)
theorem strM_length (l : List ByteArray) : (strM l).length = l.length := by simp [strM]
theorem strM_append (l r : List ByteArray) : strM (l ++ r) = strM l ++ strM r := by simp [strM]
theorem strM_blocks (l : List ByteArray) : M.blocksL (strM l) = [] := by
  induction l with
  | nil => rfl
  | cons x r ih => simp only [strM, List.map_cons, M.blocksL, M.blocks, List.nil_append]; exact ih
theorem strM_cells (l : List ByteArray) : M.cellsL (strM l) = l.map Value.string := by
  induction l with
  | nil => rfl
  | cons x r ih => simp only [strM, List.map_cons, M.cellsL, M.cells, List.singleton_append]; exact congrArg _ ih
theorem Strs.elem {w : World} {a : Option Addr} {cap : Nat} {e : TypeId} {l : List ByteArray} (h : (M.sl a cap 1 e (strM l)).In w) (k : Nat) (hk : k < l.length) :
    ∃ b off x, a = some ⟨b, off, none⟩ ∧ l[k]? = some x ∧ w.cell? ⟨b, off + k, none⟩ = some (.string x) := by
  have hk' : k < (strM l).length := by rw [strM_length]; exact hk
  obtain ⟨b, off, ha, hel⟩ := h.elem (by omega)
  refine ⟨b, off, l[k], ha, List.getElem?_eq_getElem hk, ?_⟩
  have := hel k hk' 0 (.string l[k]) (by simp [strM, M.cells])
  simpa using this
theorem Strs.len {w : World} {a : Option Addr} {cap : Nat} {e : TypeId} {l : List ByteArray} (h : (M.sl a cap 1 e (strM l)).In w) : l.length ≤ cap ∧ cap ≤ 9223372036854775807 := by
  have := h.len
  rwa [strM_length] at this
theorem Strs.set {w : World} {lo g cap : Nat} {e : TypeId} {l : List ByteArray} (h : (M.sl (some ⟨g, 0, none⟩) cap 1 e (strM l)).Mine w lo) (k : Nat) (hk : k < l.length) (x : ByteArray) :
    (M.sl (some ⟨g, 0, none⟩) cap 1 e (strM (l.set k x))).Mine (w.setCell ⟨g, k, none⟩ (.string x)) lo := by
  have := h.setElem k (by rw [strM_length]; exact hk) (.c (.string x)) rfl (M.Mine.c rfl) (by simp [M.blocks])
  simp only [M.cells, setCells, Nat.mul_one] at this
  rwa [show strM (l.set k x) = (strM l).set k (.c (.string x)) by simp [strM, List.map_set]]
def eqLS (l r : List ByteArray) : Bool := decide (l = r)
theorem eqLS_iff (l r : List ByteArray) : eqLS l r = true ↔ l = r := by simp [eqLS]

def scnt (k : Int) (n : Nat) : List ByteArray := (List.range n).map fun (i : Nat) => mtx (k + (i : Int))
theorem scnt_length (k : Int) (n : Nat) : (scnt k n).length = n := by simp [scnt]
theorem scnt_get (k : Int) (n i : Nat) (h : i < n) : (scnt k n)[i]? = some (mtx (k + i)) := by simp [scnt, h]
theorem scnt_set (k : Int) (l : List ByteArray) (i : Nat) (h : i < l.length) : (scnt k i ++ l.drop i).set i (mtx (k + i)) = scnt k (i + 1) ++ l.drop (i + 1) := by
  rw [List.set_append, scnt_length, if_neg (by omega), Nat.sub_self, ← List.getElem_cons_drop h, List.set_cons_zero]
  simp [scnt, List.range_succ]
def MarkedS (a : Option Addr) (cap n : Nat) (k : Int) (lo : Nat) (w : World) (e : Ending) (w' : World) : Prop :=
  e = .returned (.int .i64 (k + n)) ∧ (M.sl a cap 1 9 (strM (scnt k n))).Mine w' lo ∧ Only (addrBlocks a) w w'

end Go.Proofs.Ytoflfamfhpijcaa
