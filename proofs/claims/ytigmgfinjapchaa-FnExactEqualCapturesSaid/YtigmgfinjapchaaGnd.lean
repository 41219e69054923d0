/-
  Bindings in memory. No condition.
-/
import Derived.Test.YtigmgfinjapchaaDat
import Derived.Test.YtigmgfinjapchaaW3
set_option linter.unusedVariables false
set_option linter.unusedSimpArgs false
namespace Go.Proofs.Ytigmgfinjapchaa
open Go.RowKit

inductive Bnd where
  | mk (s : ByteArray) (x : List Int) (k n : Int)
def Bnd.s : Bnd → ByteArray | .mk s _ _ _ => s
def Bnd.x : Bnd → List Int | .mk _ x _ _ => x
def Bnd.k : Bnd → Int | .mk _ _ k _ => k
def Bnd.n : Bnd → Int | .mk _ _ _ n => n
@[simp] theorem Bnd.s_mk (s : ByteArray) (x : List Int) (k n : Int) : (Bnd.mk s x k n).s = s := rfl
@[simp] theorem Bnd.x_mk (s : ByteArray) (x : List Int) (k n : Int) : (Bnd.mk s x k n).x = x := rfl
@[simp] theorem Bnd.k_mk (s : ByteArray) (x : List Int) (k n : Int) : (Bnd.mk s x k n).k = k := rfl
@[simp] theorem Bnd.n_mk (s : ByteArray) (x : List Int) (k n : Int) : (Bnd.mk s x k n).n = n := rfl
/-- the element that holds a binding -/
def bndM (s : ByteArray) (xa : Option Addr) (xc : Nat) (x : List Int) (k n : Int) : M := .ag [.c (.string s), .sl xa xc 1 3 (intM x), .c (.int .i64 k), .c (.int .i64 n)]
def Bnd.Is : Bnd → M → Prop
  | .mk s x k n, m => ∃ xa xc, m = bndM s xa xc x k n
def Bnd.IsL : List Bnd → List M → Prop
  | [], ms => ms = []
  | d :: ds, ms => ∃ m r, ms = m :: r ∧ d.Is m ∧ Bnd.IsL ds r

theorem Bnd.IsL.length : ∀ {ds : List Bnd} {ms : List M}, Bnd.IsL ds ms → ms.length = ds.length
  | [], _, h => by simp [Bnd.IsL] at h; simp [h]
  | d :: ds, ms, h => by
    obtain ⟨m, r, rfl, _, h2⟩ := h
    simp [Bnd.IsL.length h2]
theorem Bnd.IsL.get : ∀ {ds : List Bnd} {ms : List M}, Bnd.IsL ds ms → ∀ (k : Nat) (hk : k < ds.length) (hk' : k < ms.length), (ds[k]).Is (ms[k])
  | [], _, h, k, hk, _ => by simp at hk
  | d :: ds, ms, h, k, hk, hk' => by
    obtain ⟨m, r, rfl, h1, h2⟩ := h
    cases k with
    | zero => exact h1
    | succ k => exact Bnd.IsL.get h2 k (by simpa using hk) (by simpa using hk')
theorem Bnd.IsL.snoc : ∀ {ds : List Bnd} {ms : List M} {d : Bnd} {m : M}, Bnd.IsL ds ms → d.Is m → Bnd.IsL (ds ++ [d]) (ms ++ [m])
  | [], ms, d, m, h, hd => by simp [Bnd.IsL] at h; subst h; exact ⟨m, [], rfl, hd, rfl⟩
  | x :: ds, ms, d, m, h, hd => by
    obtain ⟨y, r, rfl, h1, h2⟩ := h
    exact ⟨y, r ++ [m], rfl, h1, Bnd.IsL.snoc h2 hd⟩
theorem Bnd.IsL.set : ∀ {xs : List Bnd} {ms : List M} {d : Bnd} {m : M} (k : Nat), Bnd.IsL xs ms → d.Is m → Bnd.IsL (xs.set k d) (ms.set k m)
  | [], ms, d, m, k, h, _ => by simp [Bnd.IsL] at h; subst h; simp [Bnd.IsL]
  | x :: xs, ms, d, m, 0, h, hd => by obtain ⟨y, r, rfl, h1, h3⟩ := h; exact ⟨m, r, rfl, hd, h3⟩
  | x :: xs, ms, d, m, k + 1, h, hd => by obtain ⟨y, r, rfl, h1, h3⟩ := h; exact ⟨y, r.set k m, rfl, h1, Bnd.IsL.set k h3 hd⟩
theorem Bnd.IsL.replicate {d : Bnd} {m : M} (h : d.Is m) : ∀ n, Bnd.IsL (List.replicate n d) (List.replicate n m)
  | 0 => rfl
  | n + 1 => ⟨m, List.replicate n m, rfl, h, Bnd.IsL.replicate h n⟩
theorem Bnd.IsL.take : ∀ {xs : List Bnd} {ms : List M} (k : Nat), Bnd.IsL xs ms → Bnd.IsL (xs.take k) (ms.take k)
  | [], ms, k, h => by simp [Bnd.IsL] at h; subst h; simp [Bnd.IsL]
  | x :: xs, ms, 0, h => by simp [Bnd.IsL]
  | x :: xs, ms, k + 1, h => by obtain ⟨y, r, rfl, h1, h3⟩ := h; exact ⟨y, r.take k, rfl, h1, Bnd.IsL.take k h3⟩

/-- element k of a slice of bindings: its four cells, as the walk writes their addresses -/
theorem Bnd.elem {w : World} {a : Option Addr} {cap : Nat} {e : TypeId} {ds : List Bnd} {ms : List M} (h : (M.sl a cap 4 e ms).In w) (hi : Bnd.IsL ds ms) (k : Nat) (hk : k < ms.length) :
    ∃ b off s1 x1 k1 n1 xa1 xc1, a = some ⟨b, off, none⟩ ∧ ds[k]? = some (.mk s1 x1 k1 n1) ∧ (M.sl xa1 xc1 1 3 (intM x1)).In w ∧
      w.cell? ⟨b, off + k * 4, none⟩ = some (.string s1) ∧ w.cell? ⟨b, off + k * 4 + 1, none⟩ = some (.slice xa1 x1.length xc1) ∧
      w.cell? ⟨b, off + k * 4 + 2, none⟩ = some (.int .i64 k1) ∧ w.cell? ⟨b, off + k * 4 + 3, none⟩ = some (.int .i64 n1) := by
  obtain ⟨b, off, ha, hel⟩ := h.elem (by omega)
  have hl := hi.length
  have hg := hi.get k (by omega) hk
  have hs := h.sub k hk
  obtain ⟨s1, x1, k1, n1, hd⟩ : ∃ s1 x1 k1 n1, ds[k] = .mk s1 x1 k1 n1 := by cases ds[k]; exact ⟨_, _, _, _, rfl⟩
  rw [hd] at hg
  obtain ⟨xa1, xc1, hm⟩ := hg
  rw [hm] at hs
  refine ⟨b, off, s1, x1, k1, n1, xa1, xc1, ha, by rw [← hd]; exact List.getElem?_eq_getElem (by omega), hs.2.1, ?_, ?_, ?_, ?_⟩
  · exact hel k hk 0 _ (by rw [hm]; rfl)
  · have := hel k hk 1 (.slice xa1 (intM x1).length xc1) (by rw [hm]; rfl)
    rwa [intM_length] at this
  · exact hel k hk 2 _ (by rw [hm]; rfl)
  · exact hel k hk 3 _ (by rw [hm]; rfl)

/-- a binding's own memory is that of its scopes -/
theorem bndM_mine {w : World} {lo : Nat} {xa : Option Addr} {xc : Nat} {x : List Int} (h : (M.sl xa xc 1 3 (intM x)).Mine w lo) (s : ByteArray) (k n : Int) : (bndM s xa xc x k n).Mine w lo :=
  ⟨⟨rfl, h.own, rfl, rfl, trivial⟩, by simpa [bndM, M.blocks, M.blocksL] using h.dup⟩
theorem bndM_blocks (xa : Option Addr) (xc : Nat) (x : List Int) (s : ByteArray) (k n : Int) : (bndM s xa xc x k n).blocks = addrBlocks xa := by simp [bndM, M.blocks, M.blocksL, intM_blocks]
theorem bndM_cells (xa : Option Addr) (xc : Nat) (x : List Int) (s : ByteArray) (k n : Int) : (bndM s xa xc x k n).cells = [.string s, .slice xa x.length xc, .int .i64 k, .int .i64 n] := by simp [bndM, M.cells, M.cellsL, intM_length]

def RetBnd (d : Bnd) (w : World) (en : Ending) (w' : World) : Prop :=
  ∃ xa xc, en = .returned (.agg #[.string d.s, .slice xa d.x.length xc, .int .i64 d.k, .int .i64 d.n]) ∧ (M.sl xa xc 1 3 (intM d.x)).Mine w' w.heap.size ∧ Below w.heap.size w w'
def RetBnds (e : TypeId) (ds : List Bnd) (w : World) (en : Ending) (w' : World) : Prop :=
  ∃ a cap ms, en = .returned (.slice a ms.length cap) ∧ Bnd.IsL ds ms ∧ (M.sl a cap 4 e ms).Mine w' w.heap.size ∧ Below w.heap.size w w'

def Bnd.wf : Bnd → Prop
  | .mk s x k n => s.size ≤ 9223372036854775807 ∧ (∀ z ∈ x, I64 z) ∧ I64 k ∧ I64 n
def Bnd.wfL : List Bnd → Prop
  | [] => True
  | d :: ds => d.wf ∧ Bnd.wfL ds
theorem Bnd.wfL_get : ∀ {ds : List Bnd}, Bnd.wfL ds → ∀ {k : Nat} {d : Bnd}, ds[k]? = some d → d.wf
  | [], _, k, d, h => by simp at h
  | x :: r, h, 0, d, e => by simp at e; exact e ▸ h.1
  | x :: r, h, k + 1, d, e => Bnd.wfL_get h.2 (by simpa using e)
/-- how many values and letters a binding holds, itself aside -/
def Bnd.wt : Bnd → Nat
  | .mk s x _ _ => s.size + x.length
def Bnd.wtX : List Bnd → Nat
  | [] => 0
  | d :: ds => d.wt + Bnd.wtX ds
theorem Bnd.wtX_append (xs ys : List Bnd) : Bnd.wtX (xs ++ ys) = Bnd.wtX xs + Bnd.wtX ys := by
  induction xs with
  | nil => simp [Bnd.wtX]
  | cons x r ih => simp only [List.cons_append, Bnd.wtX, ih]; omega
theorem Bnd.wtX_take {ds : List Bnd} {k : Nat} {d : Bnd} (h : ds[k]? = some d) : Bnd.wtX (ds.take (k + 1)) = Bnd.wtX (ds.take k) + d.wt := by
  rw [take_snoc h, Bnd.wtX_append]; simp [Bnd.wtX]
theorem Bnd.wt_le : ∀ {ds : List Bnd} {k : Nat} {d : Bnd}, ds[k]? = some d → d.wt ≤ Bnd.wtX ds
  | [], k, d, h => by simp at h
  | x :: r, 0, d, h => by simp at h; subst h; simp only [Bnd.wtX]; omega
  | x :: r, k + 1, d, h => by have := Bnd.wt_le (ds := r) (k := k) (d := d) (by simpa using h); simp only [Bnd.wtX]; omega
theorem Bnd.mem_size {ds : List Bnd} {d : Bnd} (h : d ∈ ds) (hb : ds.length + Bnd.wtX ds ≤ 1048576) : d.s.size ≤ 1048576 := by
  obtain ⟨i, hi, he⟩ := List.mem_iff_getElem.1 h
  have := Bnd.wt_le (ds := ds) (k := i) (d := d) (by rw [List.getElem?_eq_getElem hi, he])
  obtain ⟨s, x, k, n⟩ := d
  simp only [Bnd.wt] at this
  simp only [Bnd.s_mk]
  omega
end Go.Proofs.Ytigmgfinjapchaa
