/-
  Captures in memory. No condition.
-/
import Derived.Test.YtigmgfinjapchaaR1
set_option linter.unusedVariables false
set_option linter.unusedSimpArgs false
namespace Go.Proofs.Ytigmgfinjapchaa
open Go.RowKit

inductive Cap where
  | mk (nm : Syn) (d : Int) (fm : Syn) (es : List Cap)
mutual
def Cap.Is (t e : TypeId) : Cap → M → Prop
  | .mk nm d fm es, m => ∃ m1 m2 a cap ms, m = .ag [m1, .c (.int .i64 d), m2, .sl a cap 12 e ms] ∧ nm.Is t m1 ∧ fm.Is t m2 ∧ Cap.IsL t e es ms
def Cap.IsL (t e : TypeId) : List Cap → List M → Prop
  | [], ms => ms = []
  | d :: ds, ms => ∃ m r, ms = m :: r ∧ d.Is t e m ∧ Cap.IsL t e ds r
end
theorem Cap.IsL.length {t e : TypeId} : ∀ {ds : List Cap} {ms : List M}, Cap.IsL t e ds ms → ms.length = ds.length
  | [], _, h => by simp [Cap.IsL] at h; simp [h]
  | d :: ds, ms, h => by
    obtain ⟨m, r, rfl, _, h2⟩ := h
    simp [Cap.IsL.length h2]
theorem Cap.IsL.get {t e : TypeId} : ∀ {ds : List Cap} {ms : List M}, Cap.IsL t e ds ms → ∀ (k : Nat) (hk : k < ds.length) (hk' : k < ms.length), (ds[k]).Is t e (ms[k])
  | [], _, h, k, hk, _ => by simp at hk
  | d :: ds, ms, h, k, hk, hk' => by
    obtain ⟨m, r, rfl, h1, h2⟩ := h
    cases k with
    | zero => exact h1
    | succ k => exact Cap.IsL.get h2 k (by simpa using hk) (by simpa using hk')
theorem Cap.IsL.set {t e : TypeId} : ∀ {xs : List Cap} {ms : List M} {d : Cap} {m : M} (k : Nat), Cap.IsL t e xs ms → d.Is t e m → Cap.IsL t e (xs.set k d) (ms.set k m)
  | [], ms, d, m, k, h, _ => by simp [Cap.IsL] at h; subst h; simp [Cap.IsL]
  | x :: xs, ms, d, m, 0, h, hd => by obtain ⟨y, r, rfl, h1, h3⟩ := h; exact ⟨m, r, rfl, hd, h3⟩
  | x :: xs, ms, d, m, k + 1, h, hd => by obtain ⟨y, r, rfl, h1, h3⟩ := h; exact ⟨y, r.set k m, rfl, h1, Cap.IsL.set k h3 hd⟩
theorem Cap.IsL.replicate {t e : TypeId} {d : Cap} {m : M} (h : d.Is t e m) : ∀ n, Cap.IsL t e (List.replicate n d) (List.replicate n m)
  | 0 => rfl
  | n + 1 => ⟨m, List.replicate n m, rfl, h, Cap.IsL.replicate h n⟩
mutual
def Cap.count : Cap → Nat
  | .mk _ _ _ es => 1 + Cap.countL es
def Cap.countL : List Cap → Nat
  | [] => 0
  | d :: ds => d.count + Cap.countL ds
end
theorem Cap.countL_mem {ds : List Cap} {d : Cap} (h : d ∈ ds) : d.count ≤ Cap.countL ds := by
  induction ds with
  | nil => cases h
  | cons x r ih =>
    simp only [Cap.countL]
    rcases List.mem_cons.1 h with rfl | h
    · omega
    · have := ih h; omega
theorem Cap.inductL {P : List Cap → Prop} (h : ∀ ds, (∀ nm d fm es, Cap.mk nm d fm es ∈ ds → P es) → P ds) (ds : List Cap) : P ds := by
  have key : ∀ B ds, Cap.countL ds ≤ B → P ds := by
    intro B
    induction B with
    | zero =>
      intro ds hB
      refine h ds fun nm d fm es hm => ?_
      have := Cap.countL_mem hm
      simp only [Cap.count] at this
      omega
    | succ B ih =>
      intro ds hB
      refine h ds fun nm d fm es hm => ih es ?_
      have := Cap.countL_mem hm
      simp only [Cap.count] at this
      omega
  exact key _ ds (Nat.le_refl _)
mutual
def Cap.wt : Cap → Nat
  | .mk nm _ fm es => nm.wt + (fm.wt + (es.length + Cap.wtX es))
def Cap.wtX : List Cap → Nat
  | [] => 0
  | d :: ds => d.wt + Cap.wtX ds
end
theorem Cap.wtX_append (xs ys : List Cap) : Cap.wtX (xs ++ ys) = Cap.wtX xs + Cap.wtX ys := by
  induction xs with
  | nil => simp [Cap.wtX]
  | cons x r ih => simp only [List.cons_append, Cap.wtX, ih]; omega
theorem Cap.wtX_take {ds : List Cap} {k : Nat} {d : Cap} (h : ds[k]? = some d) : Cap.wtX (ds.take (k + 1)) = Cap.wtX (ds.take k) + d.wt := by
  rw [take_snoc h, Cap.wtX_append]; simp [Cap.wtX]
theorem Cap.wt_le : ∀ {ds : List Cap} {k : Nat} {d : Cap}, ds[k]? = some d → d.wt ≤ Cap.wtX ds
  | [], k, d, h => by simp at h
  | x :: r, 0, d, h => by simp at h; subst h; simp only [Cap.wtX]; omega
  | x :: r, k + 1, d, h => by have := Cap.wt_le (ds := r) (k := k) (d := d) (by simpa using h); simp only [Cap.wtX]; omega
mutual
def Cap.wf : Cap → Prop
  | .mk nm d fm es => nm.wf ∧ I64 d ∧ fm.wf ∧ Cap.wfL es
def Cap.wfL : List Cap → Prop
  | [] => True
  | d :: ds => d.wf ∧ Cap.wfL ds
end
theorem Cap.wfL_get : ∀ {ds : List Cap}, Cap.wfL ds → ∀ {k : Nat} {d : Cap}, ds[k]? = some d → d.wf
  | [], _, k, d, h => by simp at h
  | x :: r, h, 0, d, e => by simp at e; exact e ▸ h.1
  | x :: r, h, k + 1, d, e => Cap.wfL_get h.2 (by simpa using e)

/-- A piece of syntax as it lies in a world: its fields and its rows. -/
structure SynAt (t : TypeId) (w : World) (k n : Int) (s : ByteArray) (x : List Int) (ds : List Syn) (xa : Option Addr) (xc : Nat) (a : Option Addr) (cap : Nat) (ms : List M) : Prop where
  is : Syn.IsL t ds ms
  own : (SynOwn t xa xc x a cap ms).In w
theorem SynAt.below {t : TypeId} {w w' : World} {k n : Int} {s : ByteArray} {x : List Int} {ds : List Syn} {xa : Option Addr} {xc : Nat} {a : Option Addr} {cap : Nat} {ms : List M} (h : SynAt t w k n s x ds xa xc a cap ms) (hb : Below w.heap.size w w') : SynAt t w' k n s x ds xa xc a cap ms := ⟨h.is, h.own.below hb⟩

def CapCells (w : World) (b o : Nat) (k1 n1 : Int) (s1 : ByteArray) (x1 : List Int) (xa1 : Option Addr) (xc1 : Nat) (a1 : Option Addr) (l1 cap1 : Nat) (D : Int) (k2 n2 : Int) (s2 : ByteArray) (x2 : List Int) (xa2 : Option Addr) (xc2 : Nat) (a2 : Option Addr) (l2 cap2 : Nat) (a3 : Option Addr) (l3 cap3 : Nat) : Prop :=
  (w.cell? ⟨b, o, none⟩ = some (.int .i64 k1) ∧ w.cell? ⟨b, o + 1, none⟩ = some (.int .i64 n1) ∧ w.cell? ⟨b, o + 2, none⟩ = some (.string s1) ∧ w.cell? ⟨b, o + 3, none⟩ = some (.slice xa1 x1.length xc1) ∧ w.cell? ⟨b, o + 4, none⟩ = some (.slice a1 l1 cap1)) ∧
  w.cell? ⟨b, o + 5, none⟩ = some (.int .i64 D) ∧
  (w.cell? ⟨b, o + 6, none⟩ = some (.int .i64 k2) ∧ w.cell? ⟨b, o + 7, none⟩ = some (.int .i64 n2) ∧ w.cell? ⟨b, o + 8, none⟩ = some (.string s2) ∧ w.cell? ⟨b, o + 9, none⟩ = some (.slice xa2 x2.length xc2) ∧ w.cell? ⟨b, o + 10, none⟩ = some (.slice a2 l2 cap2)) ∧
  w.cell? ⟨b, o + 11, none⟩ = some (.slice a3 l3 cap3)

theorem Cap.elem {w : World} {a : Option Addr} {cap : Nat} {t e : TypeId} {ds : List Cap} {ms : List M} (h : (M.sl a cap 12 e ms).In w) (hi : Cap.IsL t e ds ms) (k : Nat) (hk : k < ms.length) :
    ∃ b off k1 n1 s1 x1 ds1 xa1 xc1 a1 cap1 ms1 D k2 n2 s2 x2 ds2 xa2 xc2 a2 cap2 ms2 es a3 cap3 ms3, a = some ⟨b, off, none⟩ ∧ ds[k]? = some (.mk (.mk k1 n1 s1 x1 ds1) D (.mk k2 n2 s2 x2 ds2) es) ∧
      SynAt t w k1 n1 s1 x1 ds1 xa1 xc1 a1 cap1 ms1 ∧ SynAt t w k2 n2 s2 x2 ds2 xa2 xc2 a2 cap2 ms2 ∧ Cap.IsL t e es ms3 ∧ (M.sl a3 cap3 12 e ms3).In w ∧
      CapCells w b (off + k * 12) k1 n1 s1 x1 xa1 xc1 a1 ms1.length cap1 D k2 n2 s2 x2 xa2 xc2 a2 ms2.length cap2 a3 ms3.length cap3 := by
  obtain ⟨b, off, ha, hel⟩ := h.elem (by omega)
  have hl := hi.length
  have hg := hi.get k (by omega) hk
  have hs := h.sub k hk
  obtain ⟨k1, n1, s1, x1, ds1, D, k2, n2, s2, x2, ds2, es, hd⟩ : ∃ k1 n1 s1 x1 ds1 D k2 n2 s2 x2 ds2 es, ds[k] = .mk (.mk k1 n1 s1 x1 ds1) D (.mk k2 n2 s2 x2 ds2) es := by
    rcases ds[k] with ⟨⟨_, _, _, _, _⟩, _, ⟨_, _, _, _, _⟩, _⟩
    exact ⟨_, _, _, _, _, _, _, _, _, _, _, _, rfl⟩
  rw [hd] at hg
  obtain ⟨m1, m2, a3, cap3, ms3, hm, ⟨xa1, xc1, a1, cap1, ms1, rfl, hi1⟩, ⟨xa2, xc2, a2, cap2, ms2, rfl, hi2⟩, hi3⟩ := hg
  rw [hm] at hs
  obtain ⟨g1, _, g2, g3, _⟩ := hs
  refine ⟨b, off, k1, n1, s1, x1, ds1, xa1, xc1, a1, cap1, ms1, D, k2, n2, s2, x2, ds2, xa2, xc2, a2, cap2, ms2, es, a3, cap3, ms3, ha, by rw [← hd]; exact List.getElem?_eq_getElem (by omega), ⟨hi1, SynIn_mk g1.2.2.2.1 g1.2.2.2.2.1⟩, ⟨hi2, SynIn_mk g2.2.2.2.1 g2.2.2.2.2.1⟩, hi3, g3, ?_⟩
  have key : ∀ (j : Nat) u, [Value.int .i64 k1, .int .i64 n1, .string s1, .slice xa1 x1.length xc1, .slice a1 ms1.length cap1, .int .i64 D, .int .i64 k2, .int .i64 n2, .string s2, .slice xa2 x2.length xc2, .slice a2 ms2.length cap2, .slice a3 ms3.length cap3][j]? = some u → w.cell? ⟨b, off + k * 12 + j, none⟩ = some u := by
    intro j u hu
    rw [Nat.add_assoc]
    refine hel k hk j u ?_
    rw [hm]
    simp only [M.cells, M.cellsL, intM_length, List.append_nil, List.singleton_append, List.cons_append, List.nil_append]
    exact hu
  exact ⟨⟨key 0 _ rfl, key 1 _ rfl, key 2 _ rfl, key 3 _ rfl, key 4 _ rfl⟩, key 5 _ rfl, ⟨key 6 _ rfl, key 7 _ rfl, key 8 _ rfl, key 9 _ rfl, key 10 _ rfl⟩, key 11 _ rfl⟩
end Go.Proofs.Ytigmgfinjapchaa
