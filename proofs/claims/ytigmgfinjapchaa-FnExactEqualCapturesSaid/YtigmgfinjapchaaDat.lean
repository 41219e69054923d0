/-
  Datum: its tree, its place in memory, its sizes. No condition.
-/
import Derived.Test.YtigmgfinjapchaaMem
set_option linter.unusedVariables false
set_option linter.unusedSimpArgs false
namespace Go.Proofs.Ytigmgfinjapchaa
open Go.RowKit

theorem ba_inj {s t : ByteArray} : s.toList = t.toList ↔ s = t := by
  constructor
  · intro h
    rw [ByteArray.toList_eq, ByteArray.toList_eq] at h
    exact ByteArray.ext (Array.toList_inj.mp h)
  · rintro rfl; rfl
theorem ba_ne {s t : ByteArray} (h : ¬ s = t) : (s.toList == t.toList) = false := by simpa using fun e => h (ba_inj.1 e)

/-! ### Datum -/
inductive Dat where
  | mk (k n : Int) (s : ByteArray) (ds : List Dat)

mutual
def Dat.Is (e : TypeId) : Dat → M → Prop
  | .mk k n s ds, m => ∃ a cap ms, m = .ag [.c (.int .i64 k), .c (.int .i64 n), .c (.string s), .sl a cap 4 e ms] ∧ Dat.IsL e ds ms
def Dat.IsL (e : TypeId) : List Dat → List M → Prop
  | [], ms => ms = []
  | d :: ds, ms => ∃ m r, ms = m :: r ∧ d.Is e m ∧ Dat.IsL e ds r
end

theorem Dat.IsL.length {e : TypeId} : ∀ {ds : List Dat} {ms : List M}, Dat.IsL e ds ms → ms.length = ds.length
  | [], _, h => by simp [Dat.IsL] at h; simp [h]
  | d :: ds, ms, h => by
    obtain ⟨m, r, rfl, _, h2⟩ := h
    simp [Dat.IsL.length h2]

theorem Dat.IsL.get {e : TypeId} : ∀ {ds : List Dat} {ms : List M}, Dat.IsL e ds ms → ∀ (k : Nat) (hk : k < ds.length) (hk' : k < ms.length), (ds[k]).Is e (ms[k])
  | [], _, h, k, hk, _ => by simp at hk
  | d :: ds, ms, h, k, hk, hk' => by
    obtain ⟨m, r, rfl, h1, h2⟩ := h
    cases k with
    | zero => exact h1
    | succ k => exact Dat.IsL.get h2 k (by simpa using hk) (by simpa using hk')

mutual
def Dat.count : Dat → Nat
  | .mk _ _ _ ds => 1 + Dat.countL ds
def Dat.countL : List Dat → Nat
  | [] => 0
  | d :: ds => d.count + Dat.countL ds
end

theorem Dat.countL_append (xs ys : List Dat) : Dat.countL (xs ++ ys) = Dat.countL xs + Dat.countL ys := by
  induction xs with
  | nil => simp [Dat.countL]
  | cons x r ih => simp only [List.cons_append, Dat.countL, ih]; omega
theorem Dat.count_pos (d : Dat) : 0 < d.count := by cases d; simp only [Dat.count]; omega
theorem Dat.countL_get (ds : List Dat) (k : Nat) (hk : k < ds.length) : Dat.countL (ds.take k) + (ds[k]).count + Dat.countL (ds.drop (k + 1)) = Dat.countL ds := by
  conv => rhs; rw [← List.take_append_drop k ds, ← List.getElem_cons_drop hk, Dat.countL_append, Dat.countL]
  omega
theorem Dat.countL_take (ds : List Dat) (k : Nat) (hk : k < ds.length) : Dat.countL (ds.take (k + 1)) = Dat.countL (ds.take k) + (ds[k]).count := by
  rw [List.take_succ_eq_append_getElem hk, Dat.countL_append]; simp [Dat.countL]


theorem M.In.sub {w : World} {a : Option Addr} {cap sz : Nat} {e : TypeId} {xs : List M} (h : (M.sl a cap sz e xs).In w) (k : Nat) (hk : k < xs.length) : (xs[k]).In w :=
  M.InL_mem h.2 _ (List.getElem_mem hk)

/-- element k of a slice of data: its four cells, as the walk writes their addresses -/
theorem Dat.elem {w : World} {a : Option Addr} {cap : Nat} {e : TypeId} {ds : List Dat} {ms : List M} (h : (M.sl a cap 4 e ms).In w) (hi : Dat.IsL e ds ms) (k : Nat) (hk : k < ms.length) :
    ∃ b off k1 n1 s1 ds1 a1 cap1 ms1, a = some ⟨b, off, none⟩ ∧ ds[k]? = some (.mk k1 n1 s1 ds1) ∧ Dat.IsL e ds1 ms1 ∧ (M.sl a1 cap1 4 e ms1).In w ∧
      w.cell? ⟨b, off + k * 4, none⟩ = some (.int .i64 k1) ∧ w.cell? ⟨b, off + k * 4 + 1, none⟩ = some (.int .i64 n1) ∧
      w.cell? ⟨b, off + k * 4 + 2, none⟩ = some (.string s1) ∧ w.cell? ⟨b, off + k * 4 + 3, none⟩ = some (.slice a1 ms1.length cap1) := by
  obtain ⟨b, off, ha, hel⟩ := h.elem (by omega)
  have hl := hi.length
  have hg := hi.get k (by omega) hk
  have hs := h.sub k hk
  obtain ⟨k1, n1, s1, ds1, hd⟩ : ∃ k1 n1 s1 ds1, ds[k] = .mk k1 n1 s1 ds1 := by cases ds[k]; exact ⟨_, _, _, _, rfl⟩
  rw [hd] at hg
  obtain ⟨a1, cap1, ms1, hm, hi1⟩ := hg
  rw [hm] at hs
  refine ⟨b, off, k1, n1, s1, ds1, a1, cap1, ms1, ha, by rw [← hd]; exact List.getElem?_eq_getElem (by omega), hi1, hs.2.2.2.1, ?_, ?_, ?_, ?_⟩
  · exact hel k hk 0 _ (by rw [hm]; rfl)
  · exact hel k hk 1 _ (by rw [hm]; rfl)
  · exact hel k hk 2 _ (by rw [hm]; rfl)
  · exact hel k hk 3 _ (by rw [hm]; rfl)

theorem Dat.countL_le (ds : List Dat) (k : Nat) (d : Dat) (h : ds[k]? = some d) : Dat.countL (ds.take (k+1)) = Dat.countL (ds.take k) + d.count ∧ Dat.countL (ds.take k) + d.count ≤ Dat.countL ds := by
  obtain ⟨hk, rfl⟩ := List.getElem?_eq_some_iff.1 h
  have := Dat.countL_get ds k hk
  exact ⟨Dat.countL_take ds k hk, by omega⟩
theorem Dat.length_le (ds : List Dat) : ds.length ≤ Dat.countL ds := by
  induction ds with
  | nil => simp
  | cons d r ih => have := d.count_pos; simp only [Dat.countL, List.length_cons]; omega

theorem Dat.IsL.snoc {e : TypeId} : ∀ {ds : List Dat} {ms : List M} {d : Dat} {m : M}, Dat.IsL e ds ms → d.Is e m → Dat.IsL e (ds ++ [d]) (ms ++ [m])
  | [], ms, d, m, h, hd => by simp [Dat.IsL] at h; subst h; exact ⟨m, [], rfl, hd, rfl⟩
  | x :: ds, ms, d, m, h, hd => by
    obtain ⟨y, r, rfl, h1, h2⟩ := h
    exact ⟨y, r ++ [m], rfl, h1, Dat.IsL.snoc h2 hd⟩
/-- a datum's own memory is that of its items -/
theorem Dat.mine {w : World} {lo : Nat} {e : TypeId} {k n : Int} {s : ByteArray} {a : Option Addr} {cap : Nat} {ms : List M} (h : (M.sl a cap 4 e ms).Mine w lo) :
    (M.ag [.c (.int .i64 k), .c (.int .i64 n), .c (.string s), .sl a cap 4 e ms]).Mine w lo :=
  ⟨⟨rfl, rfl, rfl, h.own, trivial⟩, by simpa [M.blocks, M.blocksL] using h.dup⟩

/-- What a function that makes data hands back. -/
def RetDats (e : TypeId) (ds : List Dat) (w : World) (en : Ending) (w' : World) : Prop :=
  ∃ a cap ms, en = .returned (.slice a ms.length cap) ∧ Dat.IsL e ds ms ∧ (M.sl a cap 4 e ms).Mine w' w.heap.size ∧ Below w.heap.size w w'
def Dat.k : Dat → Int | .mk k _ _ _ => k
def Dat.n : Dat → Int | .mk _ n _ _ => n
def Dat.s : Dat → ByteArray | .mk _ _ s _ => s
def Dat.ds : Dat → List Dat | .mk _ _ _ ds => ds
@[simp] theorem Dat.k_mk (k n : Int) (s : ByteArray) (ds : List Dat) : (Dat.mk k n s ds).k = k := rfl
@[simp] theorem Dat.n_mk (k n : Int) (s : ByteArray) (ds : List Dat) : (Dat.mk k n s ds).n = n := rfl
@[simp] theorem Dat.s_mk (k n : Int) (s : ByteArray) (ds : List Dat) : (Dat.mk k n s ds).s = s := rfl
@[simp] theorem Dat.ds_mk (k n : Int) (s : ByteArray) (ds : List Dat) : (Dat.mk k n s ds).ds = ds := rfl
def RetDat (e : TypeId) (d : Dat) (w : World) (en : Ending) (w' : World) : Prop :=
  ∃ a cap ms, en = .returned (.agg #[.int .i64 d.k, .int .i64 d.n, .string d.s, .slice a ms.length cap]) ∧ Dat.IsL e d.ds ms ∧ (M.sl a cap 4 e ms).Mine w' w.heap.size ∧ Below w.heap.size w w'

def I64 (n : Int) : Prop := -9223372036854775808 ≤ n ∧ n ≤ 9223372036854775807
mutual
/-- the numbers are Go's ints -/
def Dat.wf : Dat → Prop
  | .mk k n s ds => I64 k ∧ I64 n ∧ s.size ≤ 9223372036854775807 ∧ Dat.wfL ds
def Dat.wfL : List Dat → Prop
  | [] => True
  | d :: ds => d.wf ∧ Dat.wfL ds
end
theorem Dat.wfL_get : ∀ {ds : List Dat}, Dat.wfL ds → ∀ {k : Nat} {d : Dat}, ds[k]? = some d → d.wf
  | [], _, k, d, h => by simp at h
  | x :: r, h, 0, d, e => by simp at e; exact e ▸ h.1
  | x :: r, h, k + 1, d, e => Dat.wfL_get h.2 (by simpa using e)

/-- What holds of a list of data if it holds of the items of each holds of all. -/
theorem Dat.inductL {P : List Dat → Prop} (h : ∀ ds, (∀ k n s es, Dat.mk k n s es ∈ ds → P es) → P ds) (ds : List Dat) : P ds := by
  have key : ∀ B ds, Dat.countL ds ≤ B → P ds := by
    intro B
    induction B with
    | zero =>
      intro ds hB
      cases ds with
      | nil => exact h [] fun _ _ _ _ hm => by cases hm
      | cons d r => have := d.count_pos; simp only [Dat.countL] at hB; omega
    | succ B ih =>
      intro ds hB
      refine h ds fun k n s es hm => ih es ?_
      obtain ⟨i, hi, he⟩ := List.mem_iff_getElem.1 hm
      have := (Dat.countL_le ds i _ (by rw [List.getElem?_eq_getElem hi, he])).2
      simp only [Dat.count] at this
      omega
  exact key _ ds (Nat.le_refl _)

mutual
/-- how many values and letters a datum holds, itself aside -/
def Dat.wt : Dat → Nat
  | .mk _ _ s ds => s.size + (ds.length + Dat.wtX ds)
def Dat.wtX : List Dat → Nat
  | [] => 0
  | d :: ds => d.wt + Dat.wtX ds
end
theorem Dat.wtX_append (xs ys : List Dat) : Dat.wtX (xs ++ ys) = Dat.wtX xs + Dat.wtX ys := by
  induction xs with
  | nil => simp [Dat.wtX]
  | cons x r ih => simp only [List.cons_append, Dat.wtX, ih]; omega
theorem Dat.wtX_take {ds : List Dat} {k : Nat} {d : Dat} (h : ds[k]? = some d) : Dat.wtX (ds.take (k + 1)) = Dat.wtX (ds.take k) + d.wt := by
  rw [take_snoc h, Dat.wtX_append]; simp [Dat.wtX]
theorem Dat.countL_wt (ds : List Dat) : Dat.countL ds ≤ ds.length + Dat.wtX ds := by
  refine Dat.inductL (P := fun ds => Dat.countL ds ≤ ds.length + Dat.wtX ds) (fun ds ih => ?_) ds
  induction ds with
  | nil => simp [Dat.countL]
  | cons d r ihr =>
    obtain ⟨k, n, s, es⟩ := d
    have h1 := ih k n s es (List.mem_cons_self ..)
    have h2 := ihr fun k n s es hm => ih k n s es (List.mem_cons_of_mem _ hm)
    simp only [Dat.countL, Dat.count, Dat.wtX, Dat.wt, List.length_cons]
    omega

mutual
def Dat.depth : Dat → Nat
  | .mk _ _ _ ds => Dat.depthL ds + 1
def Dat.depthL : List Dat → Nat
  | [] => 0
  | d :: ds => max d.depth (Dat.depthL ds)
end
theorem Dat.depthL_append (xs ys : List Dat) : Dat.depthL (xs ++ ys) = max (Dat.depthL xs) (Dat.depthL ys) := by
  induction xs with
  | nil => simp [Dat.depthL]
  | cons x r ih => simp only [List.cons_append, Dat.depthL, ih]; omega
theorem Dat.depthL_take {ds : List Dat} {k : Nat} {d : Dat} (h : ds[k]? = some d) : Dat.depthL (ds.take (k + 1)) = max (Dat.depthL (ds.take k)) d.depth := by
  rw [take_snoc h, Dat.depthL_append]; simp [Dat.depthL]
theorem Dat.depthL_get {ds : List Dat} {k : Nat} {d : Dat} (h : ds[k]? = some d) : d.depth ≤ Dat.depthL ds := by
  have : Dat.depthL ds = max (Dat.depthL (ds.take (k + 1))) (Dat.depthL (ds.drop (k + 1))) := by rw [← Dat.depthL_append, List.take_append_drop]
  rw [this, Dat.depthL_take h]; omega
theorem Dat.depthL_le (ds : List Dat) : Dat.depthL ds ≤ Dat.countL ds := by
  refine Dat.inductL (P := fun ds => Dat.depthL ds ≤ Dat.countL ds) (fun ds ih => ?_) ds
  induction ds with
  | nil => simp [Dat.countL, Dat.depthL]
  | cons d r ihr =>
    obtain ⟨k, n, s, es⟩ := d
    have h1 := ih k n s es (List.mem_cons_self ..)
    have h2 := ihr fun k n s es hm => ih k n s es (List.mem_cons_of_mem _ hm)
    simp only [Dat.countL, Dat.count, Dat.depthL, Dat.depth]
    omega

end Go.Proofs.Ytigmgfinjapchaa
