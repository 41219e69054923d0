/-
  Walks: slices of numbers. No condition.
-/
import Derived.Test.YtigmgfinjapchaaW1
set_option linter.unusedVariables false
set_option linter.unusedSimpArgs false
namespace Go.Proofs.Ytigmgfinjapchaa
open Go.RowKit

def intM (l : List Int) : List M := l.map fun n => .c (.int .i64 n)
theorem intM_length (l : List Int) : (intM l).length = l.length := by simp [intM]
theorem intM_append (l r : List Int) : intM (l ++ r) = intM l ++ intM r := by simp [intM]
theorem intM_blocks (l : List Int) : M.blocksL (intM l) = [] := by
  induction l with
  | nil => rfl
  | cons x r ih => simp only [intM, List.map_cons, M.blocksL, M.blocks, List.nil_append]; exact ih
theorem intM_cells (l : List Int) : M.cellsL (intM l) = l.map (Value.int .i64) := by
  induction l with
  | nil => rfl
  | cons x r ih => simp only [intM, List.map_cons, M.cellsL, M.cells, List.singleton_append]; exact congrArg _ ih

/-- 'v' is a slice of the numbers l, in w. -/
def IntsIn (w : World) (e : TypeId) (l : List Int) (v : Value) : Prop := ∃ a cap, v = .slice a l.length cap ∧ (M.sl a cap 1 e (intM l)).In w

theorem Ints.elem {w : World} {a : Option Addr} {cap : Nat} {e : TypeId} {l : List Int} (h : (M.sl a cap 1 e (intM l)).In w) (k : Nat) (hk : k < l.length) :
    ∃ b off x, a = some ⟨b, off, none⟩ ∧ l[k]? = some x ∧ w.cell? ⟨b, off + k, none⟩ = some (.int .i64 x) := by
  have hk' : k < (intM l).length := by rw [intM_length]; exact hk
  obtain ⟨b, off, ha, hel⟩ := h.elem (by omega)
  refine ⟨b, off, l[k], ha, List.getElem?_eq_getElem hk, ?_⟩
  have := hel k hk' 0 (.int .i64 l[k]) (by simp [intM, M.cells])
  simpa using this
theorem Ints.len {w : World} {a : Option Addr} {cap : Nat} {e : TypeId} {l : List Int} (h : (M.sl a cap 1 e (intM l)).In w) : l.length ≤ cap ∧ cap ≤ 9223372036854775807 := by
  have := h.len
  rwa [intM_length] at this
theorem Ints.addr {w : World} {a : Option Addr} {cap : Nat} {e : TypeId} {l : List Int} (h : (M.sl a cap 1 e (intM l)).In w) (hl : 0 < l.length) : ∃ b off, a = some ⟨b, off, none⟩ := by
  obtain ⟨b, off, _, ha, _⟩ := Ints.elem h 0 hl
  exact ⟨b, off, ha⟩

theorem mem_take_succ {α : Type} {l : List α} {k : Nat} {x n : α} (h : l[k]? = some x) : n ∈ l.take (k + 1) ↔ n ∈ l.take k ∨ n = x := by
  rw [take_snoc h]; simp

def hasB (l : List Int) (n : Int) : Bool := l.contains n
theorem hasB_iff (l : List Int) (n : Int) : hasB l n = true ↔ n ∈ l := by simp [hasB]
theorem hasB_not (l : List Int) (n : Int) : hasB l n = false ↔ ¬ n ∈ l := by rw [← hasB_iff]; simp

theorem sHasScope_calls (a : Option Addr) (cap : Nat) (l : List Int) (n : Int) (w : World) (h : (M.sl a cap 1 3 (intM l)).In w) :
    Calls Try.prog 131 #[.slice a l.length cap, .int .i64 n] w (RetEq (.bool (hasB l n)) w) := by
  have hl := Ints.len h
  have H := Lib.hid h; clear h
  go_enter Try.func131, Try.ntmps131
  go_wp2
  go_loop [9] (fun i => ∃ k : Nat, k ≤ l.length ∧ i = .int .i64 k ∧ ¬ n ∈ l.take k) (fun i => l.length - (intOf i).toNat)
  case atStart => exact ⟨0, Nat.zero_le _, rfl, by simp⟩
  case round =>
    obtain ⟨k, hk, rfl, hno⟩ := hrel
    have HNO := Lib.hid hno; clear hno
    by_cases hlt : k < l.length
    · obtain ⟨b, off, x, rfl, hx, hc⟩ := Ints.elem H.out k hlt
      have HX := Lib.hid hx; clear hx
      go_wp2
      · go_ret
        refine ⟨ret_b ?_, rfl⟩
        have e : x = n := by simpa using ‹(x == n) = true›
        rw [eq_comm, hasB_iff, ← e]
        exact List.mem_of_getElem? HX.out
      · have hnx : ¬ n ∈ l.take (k + 1) := by
          rw [mem_take_succ HX.out]
          have e : ¬ x = n := by simpa using ‹(x == n) = false›
          intro h
          rcases h with h | h
          · exact HNO.out h
          · exact e h.symm
        go_round
        case rel => exact ⟨k + 1, by omega, by go_num, hnx⟩
        case measure => simp [intOf]; omega
    · go_wp2
      go_ret
      have hk2 : k = l.length := by omega
      subst hk2
      refine ⟨ret_b ?_, rfl⟩
      have h := HNO.out
      rw [List.take_length] at h
      rw [eq_comm, hasB_not]
      exact h
theorem iHasScope_calls (a : Option Addr) (cap : Nat) (l : List Int) (n : Int) (w : World) (h : (M.sl a cap 1 3 (intM l)).In w) :
    Calls Try.prog 118 #[.slice a l.length cap, .int .i64 n] w (RetEq (.bool (hasB l n)) w) := by
  have hl := Ints.len h
  have H := Lib.hid h; clear h
  go_enter Try.func118, Try.ntmps118
  go_wp2
  go_loop [9] (fun i => ∃ k : Nat, k ≤ l.length ∧ i = .int .i64 k ∧ ¬ n ∈ l.take k) (fun i => l.length - (intOf i).toNat)
  case atStart => exact ⟨0, Nat.zero_le _, rfl, by simp⟩
  case round =>
    obtain ⟨k, hk, rfl, hno⟩ := hrel
    have HNO := Lib.hid hno; clear hno
    by_cases hlt : k < l.length
    · obtain ⟨b, off, x, rfl, hx, hc⟩ := Ints.elem H.out k hlt
      have HX := Lib.hid hx; clear hx
      go_wp2
      · go_ret
        refine ⟨ret_b ?_, rfl⟩
        have e : x = n := by simpa using ‹(x == n) = true›
        rw [eq_comm, hasB_iff, ← e]
        exact List.mem_of_getElem? HX.out
      · have hnx : ¬ n ∈ l.take (k + 1) := by
          rw [mem_take_succ HX.out]
          have e : ¬ x = n := by simpa using ‹(x == n) = false›
          intro h
          rcases h with h | h
          · exact HNO.out h
          · exact e h.symm
        go_round
        case rel => exact ⟨k + 1, by omega, by go_num, hnx⟩
        case measure => simp [intOf]; omega
    · go_wp2
      go_ret
      have hk2 : k = l.length := by omega
      subst hk2
      refine ⟨ret_b ?_, rfl⟩
      have h := HNO.out
      rw [List.take_length] at h
      rw [eq_comm, hasB_not]
      exact h

/-- two lists of numbers are one -/
def eqL (l r : List Int) : Bool := decide (l = r)
theorem eqL_iff (l r : List Int) : eqL l r = true ↔ l = r := by simp [eqL]
theorem eqL_not (l r : List Int) : eqL l r = false ↔ ¬ l = r := by simp [eqL]

theorem take_eq_succ {α : Type} {l r : List α} {k : Nat} {x y : α} (h : l.take k = r.take k) (hx : l[k]? = some x) (hy : r[k]? = some y) (e : x = y) : l.take (k + 1) = r.take (k + 1) := by
  rw [take_snoc hx, take_snoc hy, h, e]
theorem ne_of_get {α : Type} {l r : List α} {k : Nat} {x y : α} (hx : l[k]? = some x) (hy : r[k]? = some y) (e : ¬ x = y) : ¬ l = r := by
  intro h; subst h; rw [hx] at hy; exact e (Option.some.inj hy)

theorem eqIntS_calls (a : Option Addr) (cap : Nat) (l : List Int) (a2 : Option Addr) (cap2 : Nat) (r : List Int) (w : World) (h : (M.sl a cap 1 3 (intM l)).In w) (h2 : (M.sl a2 cap2 1 3 (intM r)).In w) :
    Calls Try.prog 124 #[.slice a l.length cap, .slice a2 r.length cap2] w (Ret (.bool (eqL l r)) w) := by
  have hl := Ints.len h
  have hr := Ints.len h2
  by_cases he : l.length = r.length
  · have hb : ((l.length : Int) != (r.length : Int)) = false := by simp [he]
    have H := Lib.hid h; clear h; have H2 := Lib.hid h2; clear h2; have HE := Lib.hid he; clear he
    go_enter Try.func124, Try.ntmps124
    go_wp2
    go_loopw [5] (fun i wr => ∃ k : Nat, k ≤ l.length ∧ i = .int .i64 k ∧ l.take k = r.take k ∧ Below w.heap.size w wr) (fun i _ => l.length - (intOf i).toNat)
    case atStart => exact ⟨0, Nat.zero_le _, rfl, by simp, Below.refl _ _⟩
    case round =>
      obtain ⟨k, hk, rfl, hno, hbl⟩ := hrel
      have HNO := Lib.hid hno; clear hno
      by_cases hlt : k < l.length
      · have hlt2 : k < r.length := by have := HE.out; omega
        obtain ⟨b, off, x, rfl, hx, hc⟩ := Ints.elem (H.out.below hbl) k hlt
        obtain ⟨b2, off2, y, rfl, hy, hc2⟩ := Ints.elem (H2.out.below hbl) k hlt2
        have HX := Lib.hid hx; clear hx; have HY := Lib.hid hy; clear hy
        by_cases hxy : x = y
        · have e1 : (x != y) = false := by simp [hxy]
          have HXY := Lib.hid hxy; clear hxy
          go_wp2_with fail
          go_quiet (fail)
          go_wp2_with fail
          have hnx : l.take (k + 1) = r.take (k + 1) := take_eq_succ HNO.out HX.out HY.out HXY.out
          go_roundw
          case rel => exact ⟨k + 1, by omega, by go_num, hnx, belowDrewN hbl _⟩
          case measure => simp [intOf]; omega
        · have e1 : (x != y) = true := by simp [hxy]
          have HXY := Lib.hid hxy; clear hxy
          go_wp2_with fail
          go_quiet (fail)
          go_wp2_with fail
          go_ret
          exact ⟨ret_b ((eqL_not _ _).2 (ne_of_get HX.out HY.out HXY.out)).symm, belowDrewN hbl _⟩
      · go_wp2
        go_ret
        have hk2 : k = l.length := by omega
        subst hk2
        refine ⟨ret_b ((eqL_iff _ _).2 ?_).symm, hbl⟩
        have h := HNO.out
        rw [List.take_length, HE.out, List.take_length] at h
        exact h
  · have hb : ((l.length : Int) != (r.length : Int)) = true := by simp; omega
    have H := Lib.hid h; clear h; have H2 := Lib.hid h2; clear h2; have HE := Lib.hid he; clear he
    go_enter Try.func124, Try.ntmps124
    go_wp2
    go_ret
    exact ⟨ret_b ((eqL_not _ _).2 (fun e => HE.out (by rw [e]))).symm, Below.refl _ _⟩

theorem infoI : (Try.prog.info? 3).map (fun i => (i.zero, i.size, i.bytes)) = some (some (.int .i64 0), 1, 8) := by kernel_rfl

/-- A new slice of numbers. -/
def RetInts (l : List Int) (w : World) (e : Ending) (w' : World) : Prop := ∃ a cap, e = .returned (.slice a l.length cap) ∧ (M.sl a cap 1 3 (intM l)).Mine w' w.heap.size ∧ Below w.heap.size w w'

theorem Ints.set {w : World} {lo g cap : Nat} {e : TypeId} {l : List Int} (h : (M.sl (some ⟨g, 0, none⟩) cap 1 e (intM l)).Mine w lo) (k : Nat) (hk : k < l.length) (x : Int) :
    (M.sl (some ⟨g, 0, none⟩) cap 1 e (intM (l.set k x))).Mine (w.setCell ⟨g, k, none⟩ (.int .i64 x)) lo := by
  have := h.setElem k (by rw [intM_length]; exact hk) (.c (.int .i64 x)) rfl (M.Mine.c rfl) (by simp [M.blocks])
  simp only [M.cells, setCells, Nat.mul_one] at this
  rwa [show intM (l.set k x) = (intM l).set k (.c (.int .i64 x)) by simp [intM, List.map_set]]

theorem toIntS_calls (a : Option Addr) (cap : Nat) (l : List Int) (w : World) (h : (M.sl a cap 1 3 (intM l)).In w) (hB : l.length ≤ 1048576) :
    Calls Try.prog 122 #[.slice a l.length cap] w (RetInts l w) := by
  have hl := Ints.len h
  obtain ⟨i0, hi, hz0, hz1, hz2⟩ := info_parts infoI
  have H := Lib.hid h; clear h
  go_enter Try.func122, Try.ntmps122
  go_wp2_with (at_make; refine wpList_make_full _ rfl _ _ 30 rfl w.heap.size 3 i0 (.int .i64 0) 1 Try.underlying30 hi hz0 hz1 _ _ _ _ l.length rfl rfl rfl rfl ?b2 ?b3 ?b4 ?_)
  case b2 => rw [hz2]; omega
  case b3 => unfold maxLen; omega
  case b4 => omega
  intro w1 hown hgrow
  have hm : (M.sl (some ⟨w.heap.size, 0, none⟩) l.length 1 3 (intM (List.replicate l.length 0))).Mine w1 w.heap.size := by
    rw [show intM (List.replicate l.length 0) = List.replicate l.length (M.c (.int .i64 0)) by simp [intM]]
    exact M.Mine.made (.c (.int .i64 0)) rfl rfl (by decide) rfl (fun _ _ => rfl) (by rw [Nat.mul_one]; exact hown)
  have hb1 : Below w.heap.size w w1 := ⟨hgrow.os, hgrow.tape, hgrow.output, hgrow.size, fun k hk => hgrow.block k hk (by simp)⟩
  have hlt1 : 0 < l.length → w.heap.size < w1.heap.size := fun h0 => by
    obtain ⟨g, hg, _, h2⟩ := hm.addr (by rw [intM_length]; simpa using h0)
    simp at hg; omega
  have HOWN := Lib.hid hown; clear hown; have HGROW := Lib.hid hgrow; clear hgrow; have HM := Lib.hid hm; clear hm; have HLT1 := Lib.hid hlt1; clear hlt1
  go_wp2_with fail
  go_loopw [4] (fun i wr => ∃ k : Nat, k ≤ l.length ∧ i = .int .i64 k ∧ (M.sl (some ⟨w.heap.size, 0, none⟩) l.length 1 3 (intM (l.take k ++ List.replicate (l.length - k) 0))).Mine wr w.heap.size ∧ Below w.heap.size w wr) (fun i _ => l.length - (intOf i).toNat)
  case atStart => exact ⟨0, Nat.zero_le _, rfl, by simpa using HM.out, hb1⟩
  case round =>
    obtain ⟨k, hk, rfl, hm, hb⟩ := hrel
    by_cases hlt : k < l.length
    · obtain ⟨b, off, x, rfl, hx, hc⟩ := Ints.elem (H.out.below hb) k hlt
      obtain ⟨⟨u, hu⟩, hf⟩ := hm.row k (by rw [intM_length]; simp; omega)
      have hs := Ints.set hm k (by simp; omega) x
      rw [set_take hx rfl] at hs
      have HX := Lib.hid hx; clear hx; have HM := Lib.hid hm; clear hm; have HS := Lib.hid hs; clear hs
      go_wp2_with fail
      go_roundw
      case rel => exact ⟨k + 1, by omega, by go_num, HS.out, Below.setCell hb (by simp) _⟩
      case measure => simp [intOf]; omega
    · go_wp2
      go_ret
      have hk2 : k = l.length := by omega
      subst hk2
      refine ⟨_, _, rfl, ?_, hb⟩
      simpa using hm
end Go.Proofs.Ytigmgfinjapchaa
