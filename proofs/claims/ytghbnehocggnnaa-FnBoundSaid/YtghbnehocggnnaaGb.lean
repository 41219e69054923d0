/-
  Texts set together by wip/tools/merge.py: Syn, D2, Y2, D3, Y3, Q2, I1, I2, I3, I4, Q3, MX1, Box, MX2, W6, StrP, Q5, N5. No condition beyond those told with each.
-/
import Derived.Test.YtghbnehocggnnaaGa
import Derived.Deep.RegionLaw
/-
  Pieces of syntax in memory. No condition.
-/
set_option linter.unusedVariables false
set_option linter.unusedSimpArgs false
namespace Go.Proofs.Ytghbnehocggnnaa
open Go.RowKit

inductive Syn where
  | mk (k n : Int) (s : ByteArray) (c : List Int) (ds : List Syn)

mutual
def Syn.Is (e : TypeId) : Syn → M → Prop
  | .mk k n s c ds, m => ∃ ca ccap a cap ms, m = .ag [.c (.int .i64 k), .c (.int .i64 n), .c (.string s), .sl ca ccap 1 3 (intM c), .sl a cap 5 e ms] ∧ Syn.IsL e ds ms
def Syn.IsL (e : TypeId) : List Syn → List M → Prop
  | [], ms => ms = []
  | d :: ds, ms => ∃ m r, ms = m :: r ∧ d.Is e m ∧ Syn.IsL e ds r
end

theorem Syn.IsL.length {e : TypeId} : ∀ {ds : List Syn} {ms : List M}, Syn.IsL e ds ms → ms.length = ds.length
  | [], _, h => by simp [Syn.IsL] at h; simp [h]
  | d :: ds, ms, h => by
    obtain ⟨m, r, rfl, _, h2⟩ := h
    simp [Syn.IsL.length h2]

theorem Syn.IsL.get {e : TypeId} : ∀ {ds : List Syn} {ms : List M}, Syn.IsL e ds ms → ∀ (k : Nat) (hk : k < ds.length) (hk' : k < ms.length), (ds[k]).Is e (ms[k])
  | [], _, h, k, hk, _ => by simp at hk
  | d :: ds, ms, h, k, hk, hk' => by
    obtain ⟨m, r, rfl, h1, h2⟩ := h
    cases k with
    | zero => exact h1
    | succ k => exact Syn.IsL.get h2 k (by simpa using hk) (by simpa using hk')

mutual
def Syn.count : Syn → Nat
  | .mk _ _ _ _ ds => 1 + Syn.countL ds
def Syn.countL : List Syn → Nat
  | [] => 0
  | d :: ds => d.count + Syn.countL ds
end

theorem Syn.countL_append (xs ys : List Syn) : Syn.countL (xs ++ ys) = Syn.countL xs + Syn.countL ys := by
  induction xs with
  | nil => simp [Syn.countL]
  | cons x r ih => simp only [List.cons_append, Syn.countL, ih]; omega
theorem Syn.count_pos (d : Syn) : 0 < d.count := by cases d; simp only [Syn.count]; omega
theorem Syn.countL_get (ds : List Syn) (k : Nat) (hk : k < ds.length) : Syn.countL (ds.take k) + (ds[k]).count + Syn.countL (ds.drop (k + 1)) = Syn.countL ds := by
  conv => rhs; rw [← List.take_append_drop k ds, ← List.getElem_cons_drop hk, Syn.countL_append, Syn.countL]
  omega
theorem Syn.countL_take (ds : List Syn) (k : Nat) (hk : k < ds.length) : Syn.countL (ds.take (k + 1)) = Syn.countL (ds.take k) + (ds[k]).count := by
  rw [List.take_succ_eq_append_getElem hk, Syn.countL_append]; simp [Syn.countL]


/-- element k of a slice of syntax: its five cells, as the walk writes their addresses -/
theorem Syn.elem {w : World} {a : Option Addr} {cap : Nat} {e : TypeId} {ds : List Syn} {ms : List M} (h : (M.sl a cap 5 e ms).In w) (hi : Syn.IsL e ds ms) (k : Nat) (hk : k < ms.length) :
    ∃ b off k1 n1 s1 x1 ds1 xa1 xc1 a1 cap1 ms1, a = some ⟨b, off, none⟩ ∧ ds[k]? = some (.mk k1 n1 s1 x1 ds1) ∧ Syn.IsL e ds1 ms1 ∧ (M.sl xa1 xc1 1 3 (intM x1)).In w ∧ (M.sl a1 cap1 5 e ms1).In w ∧
      w.cell? ⟨b, off + k * 5, none⟩ = some (.int .i64 k1) ∧ w.cell? ⟨b, off + k * 5 + 1, none⟩ = some (.int .i64 n1) ∧
      w.cell? ⟨b, off + k * 5 + 2, none⟩ = some (.string s1) ∧ w.cell? ⟨b, off + k * 5 + 3, none⟩ = some (.slice xa1 x1.length xc1) ∧ w.cell? ⟨b, off + k * 5 + 4, none⟩ = some (.slice a1 ms1.length cap1) := by
  obtain ⟨b, off, ha, hel⟩ := h.elem (by omega)
  have hl := hi.length
  have hg := hi.get k (by omega) hk
  have hs := h.sub k hk
  obtain ⟨k1, n1, s1, x1, ds1, hd⟩ : ∃ k1 n1 s1 x1 ds1, ds[k] = .mk k1 n1 s1 x1 ds1 := by cases ds[k]; exact ⟨_, _, _, _, _, rfl⟩
  rw [hd] at hg
  obtain ⟨xa1, xc1, a1, cap1, ms1, hm, hi1⟩ := hg
  rw [hm] at hs
  refine ⟨b, off, k1, n1, s1, x1, ds1, xa1, xc1, a1, cap1, ms1, ha, by rw [← hd]; exact List.getElem?_eq_getElem (by omega), hi1, hs.2.2.2.1, hs.2.2.2.2.1, ?_, ?_, ?_, ?_, ?_⟩
  · exact hel k hk 0 _ (by rw [hm]; rfl)
  · exact hel k hk 1 _ (by rw [hm]; rfl)
  · exact hel k hk 2 _ (by rw [hm]; rfl)
  · have := hel k hk 3 (.slice xa1 (intM x1).length xc1) (by rw [hm]; rfl)
    rwa [intM_length] at this
  · exact hel k hk 4 _ (by rw [hm]; rfl)

theorem Syn.countL_le (ds : List Syn) (k : Nat) (d : Syn) (h : ds[k]? = some d) : Syn.countL (ds.take (k+1)) = Syn.countL (ds.take k) + d.count ∧ Syn.countL (ds.take k) + d.count ≤ Syn.countL ds := by
  obtain ⟨hk, rfl⟩ := List.getElem?_eq_some_iff.1 h
  have := Syn.countL_get ds k hk
  exact ⟨Syn.countL_take ds k hk, by omega⟩
theorem Syn.length_le (ds : List Syn) : ds.length ≤ Syn.countL ds := by
  induction ds with
  | nil => simp
  | cons d r ih => have := d.count_pos; simp only [Syn.countL, List.length_cons]; omega

theorem Syn.IsL.snoc {e : TypeId} : ∀ {ds : List Syn} {ms : List M} {d : Syn} {m : M}, Syn.IsL e ds ms → d.Is e m → Syn.IsL e (ds ++ [d]) (ms ++ [m])
  | [], ms, d, m, h, hd => by simp [Syn.IsL] at h; subst h; exact ⟨m, [], rfl, hd, rfl⟩
  | x :: ds, ms, d, m, h, hd => by
    obtain ⟨y, r, rfl, h1, h2⟩ := h
    exact ⟨y, r ++ [m], rfl, h1, Syn.IsL.snoc h2 hd⟩
/-- What a function that makes data hands back. -/
def RetSyns (e : TypeId) (ds : List Syn) (w : World) (en : Ending) (w' : World) : Prop :=
  ∃ a cap ms, en = .returned (.slice a ms.length cap) ∧ Syn.IsL e ds ms ∧ (M.sl a cap 5 e ms).Mine w' w.heap.size ∧ Below w.heap.size w w'
/-- A piece of syntax whose two rows are one's own. -/
def SynOwn (e : TypeId) (xa : Option Addr) (xc : Nat) (x : List Int) (a : Option Addr) (cap : Nat) (ms : List M) : M := .ag [.sl xa xc 1 3 (intM x), .sl a cap 5 e ms]
theorem SynIn_mk {e : TypeId} {xa : Option Addr} {xc : Nat} {x : List Int} {a : Option Addr} {cap : Nat} {ms : List M} {w : World} (h : (M.sl xa xc 1 3 (intM x)).In w) (h2 : (M.sl a cap 5 e ms).In w) : (SynOwn e xa xc x a cap ms).In w := ⟨h, h2, trivial⟩
theorem SynIn_x {e : TypeId} {xa : Option Addr} {xc : Nat} {x : List Int} {a : Option Addr} {cap : Nat} {ms : List M} {w : World} (h : (SynOwn e xa xc x a cap ms).In w) : (M.sl xa xc 1 3 (intM x)).In w := And.left h
theorem SynIn_ms {e : TypeId} {xa : Option Addr} {xc : Nat} {x : List Int} {a : Option Addr} {cap : Nat} {ms : List M} {w : World} (h : (SynOwn e xa xc x a cap ms).In w) : (M.sl a cap 5 e ms).In w := And.left (And.right h)
def Syn.k : Syn → Int | .mk k _ _ _ _ => k
def Syn.n : Syn → Int | .mk _ n _ _ _ => n
def Syn.s : Syn → ByteArray | .mk _ _ s _ _ => s
def Syn.x : Syn → List Int | .mk _ _ _ x _ => x
def Syn.ds : Syn → List Syn | .mk _ _ _ _ ds => ds
@[simp] theorem Syn.k_mk (k n : Int) (s : ByteArray) (x : List Int) (ds : List Syn) : (Syn.mk k n s x ds).k = k := rfl
@[simp] theorem Syn.n_mk (k n : Int) (s : ByteArray) (x : List Int) (ds : List Syn) : (Syn.mk k n s x ds).n = n := rfl
@[simp] theorem Syn.s_mk (k n : Int) (s : ByteArray) (x : List Int) (ds : List Syn) : (Syn.mk k n s x ds).s = s := rfl
@[simp] theorem Syn.x_mk (k n : Int) (s : ByteArray) (x : List Int) (ds : List Syn) : (Syn.mk k n s x ds).x = x := rfl
@[simp] theorem Syn.ds_mk (k n : Int) (s : ByteArray) (x : List Int) (ds : List Syn) : (Syn.mk k n s x ds).ds = ds := rfl
def RetSyn (e : TypeId) (d : Syn) (w : World) (en : Ending) (w' : World) : Prop :=
  ∃ xa xc a cap ms, en = .returned (.agg #[.int .i64 d.k, .int .i64 d.n, .string d.s, .slice xa d.x.length xc, .slice a ms.length cap]) ∧ Syn.IsL e d.ds ms ∧ (SynOwn e xa xc d.x a cap ms).Mine w' w.heap.size ∧ Below w.heap.size w w'

mutual
/-- the numbers are Go's ints -/
def Syn.wf : Syn → Prop
  | .mk k n s c ds => I64 k ∧ I64 n ∧ s.size ≤ 9223372036854775807 ∧ (∀ z ∈ c, I64 z) ∧ Syn.wfL ds
def Syn.wfL : List Syn → Prop
  | [] => True
  | d :: ds => d.wf ∧ Syn.wfL ds
end
theorem Syn.wfL_get : ∀ {ds : List Syn}, Syn.wfL ds → ∀ {k : Nat} {d : Syn}, ds[k]? = some d → d.wf
  | [], _, k, d, h => by simp at h
  | x :: r, h, 0, d, e => by simp at e; exact e ▸ h.1
  | x :: r, h, k + 1, d, e => Syn.wfL_get h.2 (by simpa using e)

/-- What holds of a list of data if it holds of the items of each holds of all. -/
theorem Syn.inductL {P : List Syn → Prop} (h : ∀ ds, (∀ k n s x es, Syn.mk k n s x es ∈ ds → P es) → P ds) (ds : List Syn) : P ds := by
  have key : ∀ B ds, Syn.countL ds ≤ B → P ds := by
    intro B
    induction B with
    | zero =>
      intro ds hB
      cases ds with
      | nil => exact h [] fun _ _ _ _ _ hm => by cases hm
      | cons d r => have := d.count_pos; simp only [Syn.countL] at hB; omega
    | succ B ih =>
      intro ds hB
      refine h ds fun k n s x es hm => ih es ?_
      obtain ⟨i, hi, he⟩ := List.mem_iff_getElem.1 hm
      have := (Syn.countL_le ds i _ (by rw [List.getElem?_eq_getElem hi, he])).2
      simp only [Syn.count] at this
      omega
  exact key _ ds (Nat.le_refl _)

mutual
/-- how many values and letters a datum holds, itself aside -/
def Syn.wt : Syn → Nat
  | .mk _ _ s c ds => s.size + (c.length + (ds.length + Syn.wtX ds))
def Syn.wtX : List Syn → Nat
  | [] => 0
  | d :: ds => d.wt + Syn.wtX ds
end
theorem Syn.wtX_append (xs ys : List Syn) : Syn.wtX (xs ++ ys) = Syn.wtX xs + Syn.wtX ys := by
  induction xs with
  | nil => simp [Syn.wtX]
  | cons x r ih => simp only [List.cons_append, Syn.wtX, ih]; omega
theorem Syn.wtX_take {ds : List Syn} {k : Nat} {d : Syn} (h : ds[k]? = some d) : Syn.wtX (ds.take (k + 1)) = Syn.wtX (ds.take k) + d.wt := by
  rw [take_snoc h, Syn.wtX_append]; simp [Syn.wtX]
theorem Syn.countL_wt (ds : List Syn) : Syn.countL ds ≤ ds.length + Syn.wtX ds := by
  refine Syn.inductL (P := fun ds => Syn.countL ds ≤ ds.length + Syn.wtX ds) (fun ds ih => ?_) ds
  induction ds with
  | nil => simp [Syn.countL]
  | cons d r ihr =>
    obtain ⟨k, n, s, x, es⟩ := d
    have h1 := ih k n s x es (List.mem_cons_self ..)
    have h2 := ihr fun k n s x es hm => ih k n s x es (List.mem_cons_of_mem _ hm)
    simp only [Syn.countL, Syn.count, Syn.wtX, Syn.wt, List.length_cons]
    omega

mutual
def Syn.depth : Syn → Nat
  | .mk _ _ _ _ ds => Syn.depthL ds + 1
def Syn.depthL : List Syn → Nat
  | [] => 0
  | d :: ds => max d.depth (Syn.depthL ds)
end
theorem Syn.depthL_append (xs ys : List Syn) : Syn.depthL (xs ++ ys) = max (Syn.depthL xs) (Syn.depthL ys) := by
  induction xs with
  | nil => simp [Syn.depthL]
  | cons x r ih => simp only [List.cons_append, Syn.depthL, ih]; omega
theorem Syn.depthL_take {ds : List Syn} {k : Nat} {d : Syn} (h : ds[k]? = some d) : Syn.depthL (ds.take (k + 1)) = max (Syn.depthL (ds.take k)) d.depth := by
  rw [take_snoc h, Syn.depthL_append]; simp [Syn.depthL]
theorem Syn.depthL_get {ds : List Syn} {k : Nat} {d : Syn} (h : ds[k]? = some d) : d.depth ≤ Syn.depthL ds := by
  have : Syn.depthL ds = max (Syn.depthL (ds.take (k + 1))) (Syn.depthL (ds.drop (k + 1))) := by rw [← Syn.depthL_append, List.take_append_drop]
  rw [this, Syn.depthL_take h]; omega
theorem Syn.depthL_le (ds : List Syn) : Syn.depthL ds ≤ Syn.countL ds := by
  refine Syn.inductL (P := fun ds => Syn.depthL ds ≤ Syn.countL ds) (fun ds ih => ?_) ds
  induction ds with
  | nil => simp [Syn.countL, Syn.depthL]
  | cons d r ihr =>
    obtain ⟨k, n, s, x, es⟩ := d
    have h1 := ih k n s x es (List.mem_cons_self ..)
    have h2 := ihr fun k n s x es hm => ih k n s x es (List.mem_cons_of_mem _ hm)
    simp only [Syn.countL, Syn.count, Syn.depthL, Syn.depth]
    omega

end Go.Proofs.Ytghbnehocggnnaa

/-
  Walks: the law's own measure of data; data compared. No condition.
-/
set_option linter.unusedVariables false
set_option linter.unusedSimpArgs false
set_option maxRecDepth 100000
namespace Go.Proofs.Ytghbnehocggnnaa
open Go.RowKit

/-- A measure that counts down: what it hands back is below what it was handed by at least the weight, or it is -1. -/
def SzPost (wt : Nat) (left : Int) (w : World) (e : Ending) (w' : World) : Prop :=
  ∃ r : Int, e = .returned (.int .i64 r) ∧ -1 ≤ r ∧ r ≤ left ∧ (0 ≤ r → (wt : Int) + r ≤ left) ∧ Below w.heap.size w w'

end Go.Proofs.Ytghbnehocggnnaa

/-
  Walks: the law's own measure of syntax. No condition.
-/
set_option linter.unusedVariables false
set_option linter.unusedSimpArgs false
set_option maxRecDepth 100000
namespace Go.Proofs.Ytghbnehocggnnaa
open Go.RowKit

end Go.Proofs.Ytghbnehocggnnaa

/-
  Walks: the law's own copies of data, and their comparison. No condition.
-/
set_option linter.unusedVariables false
set_option linter.unusedSimpArgs false
set_option maxRecDepth 100000
namespace Go.Proofs.Ytghbnehocggnnaa
open Go.RowKit

theorem infoDat : (Try.prog.info? 52).map (fun i => (i.zero, i.size, i.bytes)) = some (some (.agg #[.int .i64 0, .int .i64 0, .string ⟨#[]⟩, .slice none 0 0]), 4, 56) := by kernel_rfl
/-- the zero datum -/
def zeroM (e : TypeId) : M := .ag [.c (.int .i64 0), .c (.int .i64 0), .c (.string ⟨#[]⟩), .sl none 0 4 e []]
theorem zeroM_own (e : TypeId) (w : World) (lo : Nat) : (zeroM e).Own w lo := ⟨rfl, rfl, rfl, (M.Mine.nil w lo 4 e (by decide)).own, trivial⟩
def zeroD : Dat := .mk 0 0 ⟨#[]⟩ []
theorem zero_is (e : TypeId) : zeroD.Is e (zeroM e) := ⟨none, 0, [], rfl, rfl⟩
theorem Dat.IsL.append {e : TypeId} : ∀ {xs ys : List Dat} {ms ns : List M}, Dat.IsL e xs ms → Dat.IsL e ys ns → Dat.IsL e (xs ++ ys) (ms ++ ns)
  | [], _, ms, _, h, h2 => by simp [Dat.IsL] at h; subst h; simpa using h2
  | x :: xs, ys, ms, ns, h, h2 => by
    obtain ⟨m, r, rfl, h1, h3⟩ := h
    exact ⟨m, r ++ ns, rfl, h1, Dat.IsL.append h3 h2⟩
theorem Dat.IsL.set {e : TypeId} : ∀ {xs : List Dat} {ms : List M} {d : Dat} {m : M} (k : Nat), Dat.IsL e xs ms → d.Is e m → Dat.IsL e (xs.set k d) (ms.set k m)
  | [], ms, d, m, k, h, _ => by simp [Dat.IsL] at h; subst h; simp [Dat.IsL]
  | x :: xs, ms, d, m, 0, h, hd => by obtain ⟨y, r, rfl, h1, h3⟩ := h; exact ⟨m, r, rfl, hd, h3⟩
  | x :: xs, ms, d, m, k + 1, h, hd => by obtain ⟨y, r, rfl, h1, h3⟩ := h; exact ⟨y, r.set k m, rfl, h1, Dat.IsL.set k h3 hd⟩
theorem Dat.IsL.replicate {e : TypeId} {d : Dat} {m : M} (h : d.Is e m) : ∀ n, Dat.IsL e (List.replicate n d) (List.replicate n m)
  | 0 => rfl
  | n + 1 => ⟨m, List.replicate n m, rfl, h, Dat.IsL.replicate h n⟩

end Go.Proofs.Ytghbnehocggnnaa

/-
  Walks: the law's own copies of syntax. No condition.
-/
set_option linter.unusedVariables false
set_option linter.unusedSimpArgs false
set_option maxRecDepth 100000
namespace Go.Proofs.Ytghbnehocggnnaa
open Go.RowKit

/-- the zero piece of syntax -/
def zeroSM (e : TypeId) : M := .ag [.c (.int .i64 0), .c (.int .i64 0), .c (.string ⟨#[]⟩), .sl none 0 1 3 (intM []), .sl none 0 5 e []]
theorem zeroSM_own (e : TypeId) (w : World) (lo : Nat) : (zeroSM e).Own w lo := ⟨rfl, rfl, rfl, (M.Mine.nil w lo 1 3 (by decide)).own, (M.Mine.nil w lo 5 e (by decide)).own, trivial⟩
def zeroSyn : Syn := .mk 0 0 ⟨#[]⟩ [] []
theorem zeroSyn_is (e : TypeId) : zeroSyn.Is e (zeroSM e) := ⟨none, 0, none, 0, [], rfl, rfl⟩
theorem Syn.IsL.append {e : TypeId} : ∀ {xs ys : List Syn} {ms ns : List M}, Syn.IsL e xs ms → Syn.IsL e ys ns → Syn.IsL e (xs ++ ys) (ms ++ ns)
  | [], _, ms, _, h, h2 => by simp [Syn.IsL] at h; subst h; simpa using h2
  | x :: xs, ys, ms, ns, h, h2 => by
    obtain ⟨m, r, rfl, h1, h3⟩ := h
    exact ⟨m, r ++ ns, rfl, h1, Syn.IsL.append h3 h2⟩
theorem Syn.IsL.set {e : TypeId} : ∀ {xs : List Syn} {ms : List M} {d : Syn} {m : M} (k : Nat), Syn.IsL e xs ms → d.Is e m → Syn.IsL e (xs.set k d) (ms.set k m)
  | [], ms, d, m, k, h, _ => by simp [Syn.IsL] at h; subst h; simp [Syn.IsL]
  | x :: xs, ms, d, m, 0, h, hd => by obtain ⟨y, r, rfl, h1, h3⟩ := h; exact ⟨m, r, rfl, hd, h3⟩
  | x :: xs, ms, d, m, k + 1, h, hd => by obtain ⟨y, r, rfl, h1, h3⟩ := h; exact ⟨y, r.set k m, rfl, h1, Syn.IsL.set k h3 hd⟩
theorem Syn.IsL.replicate {e : TypeId} {d : Syn} {m : M} (h : d.Is e m) : ∀ n, Syn.IsL e (List.replicate n d) (List.replicate n m)
  | 0 => rfl
  | n + 1 => ⟨m, List.replicate n m, rfl, h, Syn.IsL.replicate h n⟩
theorem SynOwn_el {e : TypeId} {xa : Option Addr} {xc : Nat} {x : List Int} {a : Option Addr} {cap : Nat} {ms : List M} {w : World} {lo : Nat} (h : (SynOwn e xa xc x a cap ms).Mine w lo) (k n : Int) (s : ByteArray) :
    (M.ag [.c (.int .i64 k), .c (.int .i64 n), .c (.string s), .sl xa xc 1 3 (intM x), .sl a cap 5 e ms]).Mine w lo :=
  ⟨⟨rfl, rfl, rfl, h.own⟩, by simpa [M.blocks, M.blocksL, SynOwn] using h.dup⟩
theorem SynOwn_x {e : TypeId} {xa : Option Addr} {xc : Nat} {x : List Int} {a : Option Addr} {cap : Nat} {ms : List M} {w : World} {lo : Nat} (h : (SynOwn e xa xc x a cap ms).Mine w lo) : (M.sl xa xc 1 3 (intM x)).Mine w lo :=
  ⟨h.own.1, by have := h.dup; simp only [SynOwn, M.blocks, M.blocksL, List.append_nil] at this; exact (List.nodup_append.1 this).1⟩
theorem SynOwn_ms {e : TypeId} {xa : Option Addr} {xc : Nat} {x : List Int} {a : Option Addr} {cap : Nat} {ms : List M} {w : World} {lo : Nat} (h : (SynOwn e xa xc x a cap ms).Mine w lo) : (M.sl a cap 5 e ms).Mine w lo :=
  ⟨h.own.2.1, by have := h.dup; simp only [SynOwn, M.blocks, M.blocksL, List.append_nil] at this; exact (List.nodup_append.1 this).2.1⟩
/-- two rows of one's own, one of them newer than all of the other, are one piece of one's own -/
theorem SynOwn_two {e : TypeId} {xa : Option Addr} {xc : Nat} {x : List Int} {a : Option Addr} {cap : Nat} {ms : List M} {w : World} {lo c : Nat} (h1 : (M.sl xa xc 1 3 (intM x)).Mine w lo) (h2 : (M.sl a cap 5 e ms).Mine w c) (hc : lo ≤ c)
    (hl : ∀ b ∈ (M.sl xa xc 1 3 (intM x)).blocks, b < c) : (SynOwn e xa xc x a cap ms).Mine w lo :=
  ⟨⟨h1.own, (h2.mono hc).own, trivial⟩, by
    simp only [SynOwn, M.blocks, M.blocksL, List.append_nil]
    exact List.nodup_append.2 ⟨h1.dup, h2.dup, fun b hb b' hb' he => by subst he; have := hl b hb; have := (h2.lt b hb').1; omega⟩⟩

theorem infoSyn : (Try.prog.info? 27).map (fun i => (i.zero, i.size, i.bytes)) = some (some (.agg #[.int .i64 0, .int .i64 0, .string ⟨#[]⟩, .slice none 0 0, .slice none 0 0]), 5, 80) := by kernel_rfl
theorem Syn.wt_le : ∀ {ds : List Syn} {k : Nat} {d : Syn}, ds[k]? = some d → d.wt ≤ Syn.wtX ds
  | [], k, d, h => by simp at h
  | x :: r, 0, d, h => by simp at h; subst h; simp only [Syn.wtX]; omega
  | x :: r, k + 1, d, h => by have := Syn.wt_le (ds := r) (k := k) (d := d) (by simpa using h); simp only [Syn.wtX]; omega

end Go.Proofs.Ytghbnehocggnnaa

/-
  Walks: numbers drawn. No condition.
-/
set_option linter.unusedVariables false
set_option linter.unusedSimpArgs false
set_option maxRecDepth 100000
namespace Go.Proofs.Ytghbnehocggnnaa
open Go.RowKit

theorem l01Below_calls (n : Int) (pb : Nat) (a : Option Addr) (cap : Nat) (l : List Int) (w : World) (hc : Cur pb a cap l w) (h1 : 1 ≤ n) (h9 : n ≤ 9223372036854775807) :
    Calls Try.prog 53 #[.pointer (some ⟨pb, 0, none⟩), .int .i64 n] w (Drawn 0 (n - 1) pb a cap l w) := by
  have hne : ¬ n = 0 := by omega
  by_cases h256 : n ≤ 256
  · go_enter Try.func53, Try.ntmps53
    go_wp2_with fail
    refine (l01Byte_calls pb a cap l _ hc).mono ?_
    rintro e w1 ⟨x, rfl, hx0, hx1, hc1, ho1⟩
    have hm1 := Int.tmod_nonneg n hx0
    have hm2 := Int.tmod_lt_of_pos x (show 0 < n by omega)
    have HC1 := Lib.hid hc1; clear hc1; have HO1 := Lib.hid ho1; clear ho1
    go_wp2_with fail
    go_ret
    exact ⟨_, rfl, by first | exact hm1 | (rw [← Int.tmod_eq_emod_of_nonneg hx0]; exact hm1), by first | (have := hm2; omega) | (rw [← Int.tmod_eq_emod_of_nonneg hx0]; omega), HC1.out, HO1.out⟩
  · go_enter Try.func53, Try.ntmps53
    go_wp2_with fail
    refine (l01Byte_calls pb a cap l _ hc).mono ?_
    rintro e w1 ⟨x, rfl, hx0, hx1, hc1, ho1⟩
    have HO1 := Lib.hid ho1; clear ho1
    go_wp2_with fail
    refine (l01Byte_calls pb a cap l _ hc1).mono ?_
    rintro e w2 ⟨y, rfl, hy0, hy1, hc2, ho2⟩
    have HO2 := Lib.hid ho2; clear ho2; have HC1 := Lib.hid hc1; clear hc1
    go_wp2_with fail
    refine (l01Byte_calls pb a cap l _ hc2).mono ?_
    rintro e w3 ⟨z, rfl, hz0, hz1, hc3, ho3⟩
    have HO3 := Lib.hid ho3; clear ho3; have HC2 := Lib.hid hc2; clear hc2
    go_wp2_with fail
    refine (l01Byte_calls pb a cap l _ hc3).mono ?_
    rintro e w4 ⟨v, rfl, hv0, hv1, hc4, ho4⟩
    have hs0 : 0 ≤ x * 16777216 + y * 65536 + z * 256 + v := by omega
    have hm1 := Int.tmod_nonneg n hs0
    have hm2 := Int.tmod_lt_of_pos (x * 16777216 + y * 65536 + z * 256 + v) (show 0 < n by omega)
    have HO4 := Lib.hid ho4; clear ho4; have HC3 := Lib.hid hc3; clear hc3; have HC4 := Lib.hid hc4; clear hc4
    go_wp2_with fail
    go_ret
    exact ⟨_, rfl, by first | exact hm1 | (rw [← Int.tmod_eq_emod_of_nonneg hs0]; exact hm1), by first | (have := hm2; omega) | (rw [← Int.tmod_eq_emod_of_nonneg hs0]; omega), HC4.out, ((HO1.out.trans HO2.out).trans HO3.out).trans HO4.out⟩
def DrawnB (pb : Nat) (a : Option Addr) (cap : Nat) (l : List Int) (w : World) (e : Ending) (w' : World) : Prop :=
  ∃ b : Bool, e = .returned (.bool b) ∧ Cur pb a cap l w' ∧ OnlyIn pb (pb + 1) w w'
theorem l01Once_calls (n : Int) (pb : Nat) (a : Option Addr) (cap : Nat) (l : List Int) (w : World) (hc : Cur pb a cap l w) (h1 : 1 ≤ n) (h9 : n ≤ 9223372036854775807) :
    Calls Try.prog 87 #[.pointer (some ⟨pb, 0, none⟩), .int .i64 n] w (DrawnB pb a cap l w) := by
  have HC := Lib.hid hc; clear hc
  go_enter Try.func87, Try.ntmps87
  go_wp2_with fail
  refine (l01Below_calls n pb a cap l _ HC.out h1 h9).mono ?_
  rintro e w1 ⟨x, rfl, hx0, hx1, hc1, ho1⟩
  have HC1 := Lib.hid hc1; clear hc1; have HO1 := Lib.hid ho1; clear ho1
  go_wp2_with fail
  go_ret
  exact ⟨_, rfl, HC1.out, HO1.out⟩
theorem Ints.onlyIn {lo hi : Nat} {w w' : World} {a : Option Addr} {cap : Nat} {e : TypeId} {l : List Int} (h : (M.sl a cap 1 e (intM l)).In w) (k : OnlyIn lo hi w w') (hl : ∀ b ∈ addrBlocks a, b < lo ∨ hi ≤ b) : (M.sl a cap 1 e (intM l)).In w' := by
  obtain ⟨⟨hh, hu⟩, hx⟩ := h
  refine ⟨⟨⟨hh.len, hh.pos, hh.le, hh.max, hh.nil, fun ad had j u hj => ?_⟩, hu⟩, M.InL_of fun x hx => by simp [intM] at hx; obtain ⟨n, _, rfl⟩ := hx; trivial⟩
  have hc := hh.cell ad had j u hj
  have hb : (ad.add j).block = ad.block := by unfold Addr.add; split <;> rfl
  refine (World.cell?_of_block (k.block _ (World.block_lt_of_cell? w _ hc) ?_)).trans hc
  rw [hb]
  exact hl _ (by rw [had]; simp [addrBlocks])
/-- one of a list's numbers -/
def DrawnI (L : List Int) (pb : Nat) (a : Option Addr) (cap : Nat) (l : List Int) (w : World) (e : Ending) (w' : World) : Prop :=
  ∃ x : Int, e = .returned (.int .i64 x) ∧ x ∈ L ∧ Cur pb a cap l w' ∧ OnlyIn pb (pb + 1) w w'
theorem l01Int_calls (la : Option Addr) (lc : Nat) (L : List Int) (pb : Nat) (a : Option Addr) (cap : Nat) (l : List Int) (w : World) (hL : 0 < L.length) (hin : (M.sl la lc 1 3 (intM L)).In w) (hla : ∀ b ∈ addrBlocks la, b < pb ∨ pb + 1 ≤ b) (hc : Cur pb a cap l w) :
    Calls Try.prog 102 #[.pointer (some ⟨pb, 0, none⟩), .slice la L.length lc] w (DrawnI L pb a cap l w) := by
  have hl := Ints.len hin
  have HC := Lib.hid hc; clear hc; have HIN := Lib.hid hin; clear hin
  go_enter Try.func102, Try.ntmps102
  go_wp2_with fail
  refine (l01Below_calls L.length pb a cap l _ HC.out (by omega) (by omega)).mono ?_
  rintro e w1 ⟨x, rfl, hx0, hx1, hc1, ho1⟩
  obtain ⟨k, rfl⟩ := Int.eq_ofNat_of_zero_le hx0
  have hin1 := Ints.onlyIn HIN.out ho1 hla
  obtain ⟨b, off, z, rfl, hz, hcz⟩ := Ints.elem hin1 k (by omega)
  have hkl : k < L.length := by omega
  have hzm := List.mem_of_getElem? hz
  have HC1 := Lib.hid hc1; clear hc1; have HO1 := Lib.hid ho1; clear ho1; have HIN1 := Lib.hid hin1; clear hin1; have HZ := Lib.hid hz; clear hz; have HZM := Lib.hid hzm; clear hzm; have HLA := Lib.hid hla; clear hla
  go_wp2_with fail
  go_ret
  exact ⟨_, rfl, HZM.out, HC1.out, HO1.out⟩
end Go.Proofs.Ytghbnehocggnnaa

/-
  Lists of numbers that a call builds: append laws, copies. No condition.
-/
set_option linter.unusedVariables false
set_option linter.unusedSimpArgs false
set_option maxRecDepth 100000
namespace Go.Proofs.Ytghbnehocggnnaa
open Go.RowKit

/-- append(own, s...): a row of one's own, grown by all of a slice of simple cells. -/
theorem wpList_all {P : Program} {W : World} {ops : Array Oper} {rest : List Oper} {o : Oper} {act : Act} {Q : Exit → Act → World → Prop} (hgd : o.guard = none) (s x : Operand) (t : TypeId)
    (ho : o.op = .call { callee := .builtin .append, args := #[s, x], argTypes := #[t, t] })
    (e e' : TypeId) (z : Value) (bytes : Nat) (ht : P.underlying t = some (.slice e)) (hinfo : (P.info? e).map (fun i => (i.zero, i.size, i.bytes)) = some (some z, 1, bytes))
    (hzs : z.cells.size = 1) (lo : Nat) (a : Option Addr) (cap : Nat) (xs ys : List M) (hs : act.eval s = .slice a xs.length cap) (hrow : (M.sl a cap 1 e xs).Mine W lo) (hlo : lo ≤ W.heap.size)
    (ao : Option Addr) (c : Nat) (hx : act.eval x = .slice ao ys.length c) (h : (M.sl ao c 1 e' ys).In W) (h1 : ∀ y ∈ ys, ∃ v : Value, y = .c v ∧ v.oneCell' = true)
    (h63 : xs.length + ys.length ≤ maxLen) (hbytes : (xs.length + ys.length) * bytes ≤ 140737488355328)
    (k : ∀ a' cap' w', (M.sl a' cap' 1 e (xs ++ ys)).Mine w' lo → Below lo W w' → W.heap.size ≤ w'.heap.size →
      wpList P ops Q rest (act.put o.dst (.slice a' (xs.length + ys.length) cap')) w') : wpList P ops Q (o :: rest) act W := by
  have hob : M.blocksL ys = [] := by
    clear h hx h63 hbytes k
    induction ys with
    | nil => rfl
    | cons y r ih => obtain ⟨v, rfl, _⟩ := h1 y (List.mem_cons_self ..); simpa [M.blocksL, M.blocks] using ih fun z hz => h1 z (List.mem_cons_of_mem _ hz)
  have hown : M.MineL W lo ys := ⟨OwnL_iff.2 fun y hy => by obtain ⟨v, rfl, hv⟩ := h1 y hy; exact hv, by rw [hob]; exact List.nodup_nil⟩
  refine wpList_row _ hgd s x t ho e z 1 bytes ht hinfo hzs (by decide) lo a xs.length cap (M.cellsL xs) hs hrow.own.1.1 ao ys.length c (M.cellsL ys) hx (by simpa using h.1.1.len) h.1.1.nil h.1.1.cell ?_ h63 hbytes hlo ?_
  · exact M.OwnL.one ys hown.own
  · intro a' cap' w' hr hg ha
    refine k a' cap' w' (M.Mine.push hrow hr hg ha hown h.1.2 (by rw [hob]; simp)) ?_ hg.size
    exact grownBy_below (lo := lo) hg hlo fun b hb => (Mine.addr_lo hrow b hb).1

theorem intM_one (l : List Int) : ∀ y ∈ intM l, ∃ v : Value, y = .c v ∧ v.oneCell' = true := by
  intro y hy; simp only [intM, List.mem_map] at hy; obtain ⟨n, _, rfl⟩ := hy; exact ⟨_, rfl, rfl⟩
theorem Ints.nil (w : World) (lo : Nat) : (M.sl none 0 1 3 (intM [])).Mine w lo := M.Mine.nil _ _ _ _ (by decide)
/-- the empty literal '[]int{}' -/
theorem Ints.lit (w : World) (lo : Nat) (h : lo ≤ w.heap.size) : (M.sl (some ⟨w.heap.size, 0, none⟩) 0 1 3 (intM [])).Mine (w.alloc (.cells #[] 3)) lo :=
  M.Mine.new rfl h rfl (by decide) (by simp [intM]) (by simp [maxLen]) ⟨trivial, by simp [intM, M.blocksL]⟩

theorem sl2Ints_calls (a : Option Addr) (cap : Nat) (l : List Int) (w : World) (h : (M.sl a cap 1 3 (intM l)).In w) (hB : l.length ≤ 1000000000) :
    Calls Try.prog 107 #[.slice a l.length cap] w (RetInts l w) := by
  have hil := intM_length l
  have H := Lib.hid h; clear h
  go_enter Try.func107, Try.ntmps107
  go_wp2_with (at_builtin; refine wpList_all rfl _ _ 24 rfl 3 3 _ 8 Try.underlying24 infoI rfl w.heap.size _ _ [] (intM l) rfl ?mine ?lo a cap ?ev ?hin (intM_one l) ?max ?bytes ?_)
  case mine => first | exact M.Mine.nil _ _ _ _ (by decide) | exact Ints.lit _ _ (Nat.le_refl _)
  case lo => simp
  case ev => simp [go_sem, intM_length]
  case hin => exact H.out.below (by (repeat (first | with_reducible assumption | with_reducible exact Below.refl _ _ | with_reducible refine Below.drew ?_ | with_reducible refine belowDrewN ?_ _ | ((with_reducible refine Below.setCell ?_ ?_ _); rotate_left; focus (first | omega | (simp; done) | (simp; omega))) | ((with_reducible refine Below.alloc ?_ ?_ _); rotate_left; focus (first | omega | (simp; done) | (simp; omega))))))
  case max => rw [hil]; unfold maxLen; simp; omega
  case bytes => rw [hil]; simp; omega
  intro a3 cap3 w3 hm3 hb3 hz3
  simp only [List.nil_append, List.length_nil, Nat.zero_add, hil] at *
  have HM3 := Lib.hid hm3; clear hm3
  go_wp2_with fail
  go_ret
  exact ⟨_, _, rfl, HM3.out, by first | exact hb3 | exact Below.trans (Below.alloc (Below.refl _ _) (Nat.le_refl _) _) hb3⟩
theorem icopyInts_calls (a : Option Addr) (cap : Nat) (l : List Int) (w : World) (h : (M.sl a cap 1 3 (intM l)).In w) (hB : l.length ≤ 1000000000) :
    Calls Try.prog 85 #[.slice a l.length cap] w (RetInts l w) := by
  have hil := intM_length l
  have H := Lib.hid h; clear h
  go_enter Try.func85, Try.ntmps85
  go_wp2_with (at_builtin; refine wpList_all rfl _ _ 24 rfl 3 3 _ 8 Try.underlying24 infoI rfl w.heap.size _ _ [] (intM l) rfl ?mine ?lo a cap ?ev ?hin (intM_one l) ?max ?bytes ?_)
  case mine => first | exact M.Mine.nil _ _ _ _ (by decide) | exact Ints.lit _ _ (Nat.le_refl _)
  case lo => simp
  case ev => simp [go_sem, intM_length]
  case hin => exact H.out.below (by (repeat (first | with_reducible assumption | with_reducible exact Below.refl _ _ | with_reducible refine Below.drew ?_ | with_reducible refine belowDrewN ?_ _ | ((with_reducible refine Below.setCell ?_ ?_ _); rotate_left; focus (first | omega | (simp; done) | (simp; omega))) | ((with_reducible refine Below.alloc ?_ ?_ _); rotate_left; focus (first | omega | (simp; done) | (simp; omega))))))
  case max => rw [hil]; unfold maxLen; simp; omega
  case bytes => rw [hil]; simp; omega
  intro a3 cap3 w3 hm3 hb3 hz3
  simp only [List.nil_append, List.length_nil, Nat.zero_add, hil] at *
  have HM3 := Lib.hid hm3; clear hm3
  go_wp2_with fail
  go_ret
  exact ⟨_, _, rfl, HM3.out, by first | exact hb3 | exact Below.trans (Below.alloc (Below.refl _ _) (Nat.le_refl _) _) hb3⟩
end Go.Proofs.Ytghbnehocggnnaa

/-
  Walks: WithoutUses. No condition.
-/
set_option linter.unusedVariables false
set_option linter.unusedSimpArgs false
set_option maxRecDepth 100000
namespace Go.Proofs.Ytghbnehocggnnaa
open Go.RowKit

theorem intM_snoc (l : List Int) (n : Int) : intM l ++ [.c (.int .i64 n)] = intM (l ++ [n]) := by simp [intM]
/-- 'out = append(out, n)' -/
theorem wpInts_push {P : Program} {wr w1 : World} {ops : Array Oper} {rest : List Oper} {o : Oper} {act : Act} {Q : Exit → Act → World → Prop} (hgd : o.guard = none) (s x : Operand) (t : TypeId)
    (ho : o.op = .call { callee := .builtin .append, args := #[s, x], argTypes := #[t, t] })
    (e : TypeId) (z : Value) (ht : P.underlying t = some (.slice e)) (hinfo : (P.info? e).map (fun i => (i.zero, i.size, i.bytes)) = some (some z, 1, 8)) (hzs : z.cells.size = 1)
    (lo : Nat) (a : Option Addr) (cap : Nat) (xs : List Int) (hs : act.eval s = .slice a xs.length cap) (hrow : (M.sl a cap 1 e (intM xs)).Mine wr lo) (hlo : lo ≤ wr.heap.size) (hb : Below wr.heap.size wr w1)
    (n : Int) (hx : act.eval x = .slice (some ⟨w1.heap.size, 0, none⟩) 1 1) (hB : xs.length ≤ 1000000000)
    (k : ∀ a' cap' w', (M.sl a' cap' 1 e (intM (xs ++ [n]))).Mine w' lo → Below lo w1 w' → w1.heap.size ≤ w'.heap.size →
      wpList P ops Q rest (act.put o.dst (.slice a' (xs ++ [n]).length cap')) w') : wpList P ops Q (o :: rest) act (w1.alloc (.cells #[.int .i64 n] e)) := by
  refine wpList_push hgd s x t ho e z 1 8 ht hinfo hzs (by decide) lo a cap (intM xs) (by rw [intM_length]; exact hs) hrow hlo hb #[.int .i64 n] (.c (.int .i64 n)) rfl rfl wr.heap.size (M.Mine.c rfl) (Nat.le_refl _) hx (by rw [intM_length]; unfold maxLen; omega) (by rw [intM_length]; omega) ?_
  intro a' cap' w' h1 h2 h3 _
  rw [intM_snoc] at h1
  rw [intM_length]
  have := k a' cap' w' h1 h2 h3
  simpa using this

def noUse (l : List Int) : List Int := l.filter fun x => decide (¬ kindS x = 3)
theorem noUse_length (l : List Int) : (noUse l).length ≤ l.length := List.length_filter_le ..
theorem noUse_take (l : List Int) (k : Nat) : (noUse (l.take k)).length ≤ k := Nat.le_trans (noUse_length _) (by simp; omega)
theorem noUse_yes {l : List Int} {k : Nat} {x : Int} (hx : l[k]? = some x) (h : ¬ kindS x = 3) : noUse (l.take (k + 1)) = noUse (l.take k) ++ [x] := by
  rw [take_snoc hx, noUse, noUse, List.filter_append]; simp [h]
theorem noUse_no {l : List Int} {k : Nat} {x : Int} (hx : l[k]? = some x) (h : kindS x = 3) : noUse (l.take (k + 1)) = noUse (l.take k) := by
  rw [take_snoc hx, noUse, noUse, List.filter_append]; simp [h]
def woUse (l : List Int) : List Int := if ssB l = true then noUse l else l
theorem woUse_length (l : List Int) : (woUse l).length ≤ l.length := by unfold woUse; split; exact noUse_length l; exact Nat.le_refl _


theorem iWithoutUses_calls (a : Option Addr) (cap : Nat) (l : List Int) (w : World) (h : (M.sl a cap 1 3 (intM l)).In w) (hB : l.length ≤ 1000000000) :
    Calls Try.prog 61 #[.slice a l.length cap] w (RetInts (woUse l) w) := by
  have hl := Ints.len h
  have H := Lib.hid h; clear h
  go_enter Try.func61, Try.ntmps61
  go_wp2_with fail
  refine (iIsScopeSet_calls a cap l _ H.out).mono ?_
  rintro e w1 ⟨rfl, hb1⟩
  obtain ⟨hc1, hf1⟩ := bcell hb1; have hz1 := hb1.size; (try simp only [World.size_alloc, World.size_setCell, World.size_drew, sizeDrewN] at hz1 hc1 hf1)
  cases hs : ssB l with
  | false =>
    go_wp2_with fail
    refine (icopyInts_calls a cap l _ (H.out.below (by (repeat (first | with_reducible assumption | with_reducible exact Below.refl _ _ | with_reducible refine Below.drew ?_ | with_reducible refine belowDrewN ?_ _ | ((with_reducible refine Below.setCell ?_ ?_ _); rotate_left; focus (first | omega | (simp; done) | (simp; omega))) | ((with_reducible refine Below.alloc ?_ ?_ _); rotate_left; focus (first | omega | (simp; done) | (simp; omega))) | ((with_reducible refine Below.trans ?_ (Below.mono hb1 ?_)); rotate_left; focus (first | omega | (simp; done) | (simp; omega))))))) hB).mono ?_
    rintro e w2 ⟨a2, c2, rfl, hm2, hb2⟩
    obtain ⟨hc2, hf2⟩ := bcell hb2; have hz2 := hb2.size; (try simp only [World.size_alloc, World.size_setCell, World.size_drew, sizeDrewN] at hz2 hc2 hf2)
    have HM2 := Lib.hid hm2; clear hm2
    go_wp2_with fail
    go_ret
    rw [show woUse l = l by simp [woUse, hs]]
    exact ⟨_, _, rfl, HM2.out.mono hz1, by (repeat (first | with_reducible assumption | with_reducible exact Below.refl _ _ | with_reducible refine Below.drew ?_ | with_reducible refine belowDrewN ?_ _ | ((with_reducible refine Below.setCell ?_ ?_ _); rotate_left; focus (first | omega | (simp; done) | (simp; omega))) | ((with_reducible refine Below.alloc ?_ ?_ _); rotate_left; focus (first | omega | (simp; done) | (simp; omega))) | ((with_reducible refine Below.trans ?_ (Below.mono hb1 ?_)); rotate_left; focus (first | omega | (simp; done) | (simp; omega))) | ((with_reducible refine Below.trans ?_ (Below.mono hb2 ?_)); rotate_left; focus (first | omega | (simp; done) | (simp; omega)))))⟩
  | true =>
    go_wp2_with fail
    go_loopw [3, 13] (fun t i wr => ∃ (k : Nat) (a' : Option Addr) (cap' : Nat), k ≤ l.length ∧ i = .int .i64 k ∧ t = .slice a' (noUse (l.take k)).length cap' ∧ (M.sl a' cap' 1 3 (intM (noUse (l.take k)))).Mine wr w.heap.size ∧ Below w.heap.size w wr ∧ w.heap.size ≤ wr.heap.size) (fun _ i _ => l.length - (intOf i).toNat)
    case atStart => exact ⟨0, _, _, Nat.zero_le _, rfl, rfl, Ints.nil _ _, by (repeat (first | with_reducible assumption | with_reducible exact Below.refl _ _ | with_reducible refine Below.drew ?_ | with_reducible refine belowDrewN ?_ _ | ((with_reducible refine Below.setCell ?_ ?_ _); rotate_left; focus (first | omega | (simp; done) | (simp; omega))) | ((with_reducible refine Below.alloc ?_ ?_ _); rotate_left; focus (first | omega | (simp; done) | (simp; omega))) | ((with_reducible refine Below.trans ?_ (Below.mono hb1 ?_)); rotate_left; focus (first | omega | (simp; done) | (simp; omega))))), hz1⟩
    case round =>
      obtain ⟨k, a', cap', hk, rfl, rfl, hm', hb, hsz⟩ := hrel
      have hnt := noUse_take l k
      by_cases hlt : k < l.length
      · obtain ⟨b, off, x, rfl, hx, hc⟩ := Ints.elem (H.out.below hb) k hlt
        by_cases hq : kindS x = 3
        · have hfin := noUse_no hx hq
          have HX := Lib.hid hx; clear hx; have HM' := Lib.hid hm'; clear hm'; have HFIN := Lib.hid hfin; clear hfin
          go_wp2_with fail
          refine (iKindOfScope_ret _ _).mono ?_
          rintro e w1 ⟨rfl, hb1⟩
          obtain ⟨hc1, hf1⟩ := bcell hb1; have hz1 := hb1.size; (try simp only [World.size_alloc, World.size_setCell, World.size_drew, sizeDrewN] at hz1 hc1 hf1)
          go_wp2_with fail
          go_roundw
          case rel => exact ⟨k + 1, a', cap', by omega, by go_num, by simp [HFIN.out], by rw [HFIN.out]; exact HM'.out.below hb1, by (repeat (first | with_reducible assumption | with_reducible exact Below.refl _ _ | with_reducible refine Below.drew ?_ | with_reducible refine belowDrewN ?_ _ | ((with_reducible refine Below.setCell ?_ ?_ _); rotate_left; focus (first | omega | (simp; done) | (simp; omega))) | ((with_reducible refine Below.alloc ?_ ?_ _); rotate_left; focus (first | omega | (simp; done) | (simp; omega))) | ((with_reducible refine Below.trans ?_ (Below.mono hb1 ?_)); rotate_left; focus (first | omega | (simp; done) | (simp; omega))))), by omega⟩
          case measure => simp [intOf]; omega
        · have hfin := noUse_yes hx hq
          have HX := Lib.hid hx; clear hx; have HM' := Lib.hid hm'; clear hm'; have HFIN := Lib.hid hfin; clear hfin
          go_wp2_with fail
          refine (iKindOfScope_ret _ _).mono ?_
          rintro e w1 ⟨rfl, hb1⟩
          obtain ⟨hc1, hf1⟩ := bcell hb1; have hz1 := hb1.size; (try simp only [World.size_alloc, World.size_setCell, World.size_drew, sizeDrewN] at hz1 hc1 hf1)
          go_wp2_with (at_builtin; refine wpInts_push rfl _ _ 24 rfl 3 _ Try.underlying24 infoI rfl w.heap.size a' cap' (noUse (l.take k)) rfl HM'.out hsz (by (repeat (first | with_reducible assumption | with_reducible exact Below.refl _ _ | with_reducible refine Below.drew ?_ | with_reducible refine belowDrewN ?_ _ | ((with_reducible refine Below.setCell ?_ ?_ _); rotate_left; focus (first | omega | (simp; done) | (simp; omega))) | ((with_reducible refine Below.alloc ?_ ?_ _); rotate_left; focus (first | omega | (simp; done) | (simp; omega))) | ((with_reducible refine Below.trans ?_ (Below.mono hb1 ?_)); rotate_left; focus (first | omega | (simp; done) | (simp; omega)))))) x rfl (by omega) ?_)
          intro a3 cap3 w3 hm3 hb3 hz3
          have HM3 := Lib.hid hm3; clear hm3
          go_wp2_with fail
          go_roundw
          case rel => exact ⟨k + 1, a3, cap3, by omega, by go_num, by simp [HFIN.out], by rw [HFIN.out]; exact HM3.out, by (repeat (first | with_reducible assumption | with_reducible exact Below.refl _ _ | with_reducible refine Below.drew ?_ | with_reducible refine belowDrewN ?_ _ | ((with_reducible refine Below.setCell ?_ ?_ _); rotate_left; focus (first | omega | (simp; done) | (simp; omega))) | ((with_reducible refine Below.alloc ?_ ?_ _); rotate_left; focus (first | omega | (simp; done) | (simp; omega))) | ((with_reducible refine Below.trans ?_ (Below.mono hb1 ?_)); rotate_left; focus (first | omega | (simp; done) | (simp; omega))) | ((with_reducible refine Below.trans ?_ (Below.mono hb3 ?_)); rotate_left; focus (first | omega | (simp; done) | (simp; omega))))), by omega⟩
          case measure => simp [intOf]; omega
      · have hk2 : k = l.length := by omega
        subst hk2
        rw [List.take_length] at *
        have HM' := Lib.hid hm'; clear hm'
        go_wp2_with fail
        go_ret
        rw [show woUse l = noUse l by simp [woUse, hs]]
        exact ⟨_, _, rfl, HM'.out, hb⟩
end Go.Proofs.Ytghbnehocggnnaa

/-
  Walks: WithScope. No condition.
-/
set_option linter.unusedVariables false
set_option linter.unusedSimpArgs false
set_option maxRecDepth 100000
namespace Go.Proofs.Ytghbnehocggnnaa
open Go.RowKit

def putStep (n : Int) (st : List Int × Bool) (x : Int) : List Int × Bool :=
  if st.2 = false ∧ n ≤ x then ((if n < x then st.1 ++ [n] else st.1) ++ [x], true) else (st.1 ++ [x], st.2)
def putSt (n : Int) (l : List Int) : List Int × Bool := l.foldl (putStep n) ([], false)
theorem putSt_succ {n : Int} {l : List Int} {k : Nat} {x : Int} (hx : l[k]? = some x) : putSt n (l.take (k + 1)) = putStep n (putSt n (l.take k)) x := by
  rw [take_snoc hx, putSt, List.foldl_append]; rfl
theorem putStep_length (n : Int) (st : List Int × Bool) (x : Int) : (putStep n st x).1.length ≤ st.1.length + 2 := by
  unfold putStep; split
  · simp only [List.length_append]; split <;> simp <;> omega
  · simp
theorem putSt_take (n : Int) (l : List Int) (k : Nat) (hk : k ≤ l.length) : (putSt n (l.take k)).1.length ≤ 2 * k := by
  induction k with
  | zero => simp [putSt]
  | succ k ih => rw [putSt_succ (List.getElem?_eq_getElem (by omega : k < l.length))]; have := putStep_length n (putSt n (l.take k)) (l[k]'(by omega)); have := ih (by omega); omega
def put (n : Int) (l : List Int) : List Int := if (putSt n l).2 = true then (putSt n l).1 else (putSt n l).1 ++ [n]
theorem put_length (n : Int) (l : List Int) : (put n l).length ≤ 2 * l.length + 1 := by
  have := putSt_take n l l.length (Nat.le_refl _)
  rw [List.take_length] at this
  unfold put; split
  · omega
  · simp; omega
def withS (l : List Int) (n : Int) : List Int := if ssB l = true ∧ ¬ kindS n = 0 then put n l else l
theorem withS_length (l : List Int) (n : Int) : (withS l n).length ≤ 2 * l.length + 1 := by
  unfold withS; split
  · exact put_length n l
  · omega

theorem sPut_calls (a : Option Addr) (cap : Nat) (l : List Int) (n : Int) (w : World) (h : (M.sl a cap 1 3 (intM l)).In w) (hB : l.length ≤ 4000000) :
    Calls Try.prog 89 #[.slice a l.length cap, .int .i64 n] w (RetInts (put n l) w) := by
  have hl := Ints.len h
  have H := Lib.hid h; clear h
  go_enter Try.func89, Try.ntmps89
  go_wp2_with fail
  go_loopw [5,6,12] (fun t d i wr => ∃ (k : Nat) (a' : Option Addr) (cap' : Nat), k ≤ l.length ∧ i = .int .i64 k ∧ t = .slice a' (putSt n (l.take k)).1.length cap' ∧ d = .bool (putSt n (l.take k)).2 ∧ (M.sl a' cap' 1 3 (intM (putSt n (l.take k)).1)).Mine wr w.heap.size ∧ Below w.heap.size w wr ∧ w.heap.size ≤ wr.heap.size) (fun _ _ i _ => l.length - (intOf i).toNat)
  case atStart => exact ⟨0, _, _, Nat.zero_le _, rfl, rfl, rfl, by first | exact Ints.lit _ _ (Nat.le_refl _) | exact Ints.nil _ _, by (repeat (first | with_reducible assumption | with_reducible exact Below.refl _ _ | with_reducible refine Below.drew ?_ | with_reducible refine belowDrewN ?_ _ | ((with_reducible refine Below.setCell ?_ ?_ _); rotate_left; focus (first | omega | (simp; done) | (simp; omega))) | ((with_reducible refine Below.alloc ?_ ?_ _); rotate_left; focus (first | omega | (simp; done) | (simp; omega))))), by simp⟩
  case round =>
    obtain ⟨k, a', cap', hk, rfl, rfl, rfl, hm', hb, hsz⟩ := hrel
    have hnt := putSt_take n l k hk
    by_cases hlt : k < l.length
    · obtain ⟨b, off, x, rfl, hx, hc⟩ := Ints.elem (H.out.below hb) k hlt
      have hst := putSt_succ (n := n) hx
      generalize hgs : putSt n (l.take k) = st at *
      obtain ⟨o, dn⟩ := st
      simp only at hnt hm' hst
      have HX := Lib.hid hx; clear hx; have HM' := Lib.hid hm'; clear hm'; have HGS := Lib.hid hgs; clear hgs
      by_cases hd : dn = false ∧ n ≤ x
      · obtain ⟨rfl, hnx⟩ := hd
        have hge : n ≤ x := hnx
        by_cases hgt : n < x
        · have hfin : putSt n (l.take (k + 1)) = (o ++ [n] ++ [x], true) := by rw [hst]; simp [putStep, hnx, hgt]
          have HST := Lib.hid hst; clear hst; have HFIN := Lib.hid hfin; clear hfin
          go_wp2_with (at_builtin; refine wpInts_push rfl _ _ 24 rfl 3 _ Try.underlying24 infoI rfl w.heap.size a' cap' o rfl HM'.out hsz (by (repeat (first | with_reducible assumption | with_reducible exact Below.refl _ _ | with_reducible refine Below.drew ?_ | with_reducible refine belowDrewN ?_ _ | ((with_reducible refine Below.setCell ?_ ?_ _); rotate_left; focus (first | omega | (simp; done) | (simp; omega))) | ((with_reducible refine Below.alloc ?_ ?_ _); rotate_left; focus (first | omega | (simp; done) | (simp; omega)))))) n rfl (by omega) ?_)
          intro a3 cap3 w3 hm3 hb3 hz3
          have HM3 := Lib.hid hm3; clear hm3
          have hb3' := hb3
          go_wp2_with (at_builtin; refine wpInts_push rfl _ _ 24 rfl 3 _ Try.underlying24 infoI rfl w.heap.size a3 cap3 (o ++ [n]) (by simp [go_sem]) HM3.out (by omega) (by (repeat (first | with_reducible assumption | with_reducible exact Below.refl _ _ | with_reducible refine Below.drew ?_ | with_reducible refine belowDrewN ?_ _ | ((with_reducible refine Below.setCell ?_ ?_ _); rotate_left; focus (first | omega | (simp; done) | (simp; omega))) | ((with_reducible refine Below.alloc ?_ ?_ _); rotate_left; focus (first | omega | (simp; done) | (simp; omega)))))) x rfl (by simp; omega) ?_)
          intro a4 cap4 w4 hm4 hb4 hz4
          have HM4 := Lib.hid hm4; clear hm4
          go_wp2_with fail
          go_roundw
          case rel => exact ⟨k + 1, a4, cap4, by omega, by go_num, by simp [HFIN.out], by simp [HFIN.out], by rw [HFIN.out]; simpa using HM4.out, by (repeat (first | with_reducible assumption | with_reducible exact Below.refl _ _ | with_reducible refine Below.drew ?_ | with_reducible refine belowDrewN ?_ _ | ((with_reducible refine Below.setCell ?_ ?_ _); rotate_left; focus (first | omega | (simp; done) | (simp; omega))) | ((with_reducible refine Below.alloc ?_ ?_ _); rotate_left; focus (first | omega | (simp; done) | (simp; omega))) | ((with_reducible refine Below.trans ?_ (Below.mono hb3 ?_)); rotate_left; focus (first | omega | (simp; done) | (simp; omega))) | ((with_reducible refine Below.trans ?_ (Below.mono hb4 ?_)); rotate_left; focus (first | omega | (simp; done) | (simp; omega))))), by omega⟩
          case measure => simp [intOf]; omega
        · have hxe : x = n := by omega
          subst hxe
          have hfin : putSt x (l.take (k + 1)) = (o ++ [x], true) := by rw [hst]; simp [putStep]
          have HST := Lib.hid hst; clear hst; have HFIN := Lib.hid hfin; clear hfin
          go_wp2_with (at_builtin; refine wpInts_push rfl _ _ 24 rfl 3 _ Try.underlying24 infoI rfl w.heap.size a' cap' o rfl HM'.out hsz (by (repeat (first | with_reducible assumption | with_reducible exact Below.refl _ _ | with_reducible refine Below.drew ?_ | with_reducible refine belowDrewN ?_ _ | ((with_reducible refine Below.setCell ?_ ?_ _); rotate_left; focus (first | omega | (simp; done) | (simp; omega))) | ((with_reducible refine Below.alloc ?_ ?_ _); rotate_left; focus (first | omega | (simp; done) | (simp; omega)))))) x rfl (by omega) ?_)
          intro a3 cap3 w3 hm3 hb3 hz3
          have HM3 := Lib.hid hm3; clear hm3
          go_wp2_with fail
          go_roundw
          case rel => exact ⟨k + 1, a3, cap3, by omega, by go_num, by simp [HFIN.out], by simp [HFIN.out], by rw [HFIN.out]; exact HM3.out, by (repeat (first | with_reducible assumption | with_reducible exact Below.refl _ _ | with_reducible refine Below.drew ?_ | with_reducible refine belowDrewN ?_ _ | ((with_reducible refine Below.setCell ?_ ?_ _); rotate_left; focus (first | omega | (simp; done) | (simp; omega))) | ((with_reducible refine Below.alloc ?_ ?_ _); rotate_left; focus (first | omega | (simp; done) | (simp; omega))) | ((with_reducible refine Below.trans ?_ (Below.mono hb3 ?_)); rotate_left; focus (first | omega | (simp; done) | (simp; omega))))), by omega⟩
          case measure => simp [intOf]; omega
      · have hfin : putSt n (l.take (k + 1)) = (o ++ [x], dn) := by rw [hst]; unfold putStep; rw [if_neg hd]
        have HST := Lib.hid hst; clear hst; have HFIN := Lib.hid hfin; clear hfin
        cases dn with
        | true =>
          go_wp2_with (at_builtin; refine wpInts_push rfl _ _ 24 rfl 3 _ Try.underlying24 infoI rfl w.heap.size a' cap' o rfl HM'.out hsz (by (repeat (first | with_reducible assumption | with_reducible exact Below.refl _ _ | with_reducible refine Below.drew ?_ | with_reducible refine belowDrewN ?_ _ | ((with_reducible refine Below.setCell ?_ ?_ _); rotate_left; focus (first | omega | (simp; done) | (simp; omega))) | ((with_reducible refine Below.alloc ?_ ?_ _); rotate_left; focus (first | omega | (simp; done) | (simp; omega)))))) x rfl (by omega) ?_)
          intro a3 cap3 w3 hm3 hb3 hz3
          have HM3 := Lib.hid hm3; clear hm3
          go_wp2_with fail
          go_roundw
          case rel => exact ⟨k + 1, a3, cap3, by omega, by go_num, by simp [HFIN.out], by simp [HFIN.out], by rw [HFIN.out]; exact HM3.out, by (repeat (first | with_reducible assumption | with_reducible exact Below.refl _ _ | with_reducible refine Below.drew ?_ | with_reducible refine belowDrewN ?_ _ | ((with_reducible refine Below.setCell ?_ ?_ _); rotate_left; focus (first | omega | (simp; done) | (simp; omega))) | ((with_reducible refine Below.alloc ?_ ?_ _); rotate_left; focus (first | omega | (simp; done) | (simp; omega))) | ((with_reducible refine Below.trans ?_ (Below.mono hb3 ?_)); rotate_left; focus (first | omega | (simp; done) | (simp; omega))))), by omega⟩
          case measure => simp [intOf]; omega
        | false =>
          have hxl : x < n := by simp at hd; omega
          clear hd
          go_wp2_with (at_builtin; refine wpInts_push rfl _ _ 24 rfl 3 _ Try.underlying24 infoI rfl w.heap.size a' cap' o rfl HM'.out hsz (by (repeat (first | with_reducible assumption | with_reducible exact Below.refl _ _ | with_reducible refine Below.drew ?_ | with_reducible refine belowDrewN ?_ _ | ((with_reducible refine Below.setCell ?_ ?_ _); rotate_left; focus (first | omega | (simp; done) | (simp; omega))) | ((with_reducible refine Below.alloc ?_ ?_ _); rotate_left; focus (first | omega | (simp; done) | (simp; omega)))))) x rfl (by omega) ?_)
          intro a3 cap3 w3 hm3 hb3 hz3
          have HM3 := Lib.hid hm3; clear hm3
          go_wp2_with fail
          go_roundw
          case rel => exact ⟨k + 1, a3, cap3, by omega, by go_num, by simp [HFIN.out], by simp [HFIN.out], by rw [HFIN.out]; exact HM3.out, by (repeat (first | with_reducible assumption | with_reducible exact Below.refl _ _ | with_reducible refine Below.drew ?_ | with_reducible refine belowDrewN ?_ _ | ((with_reducible refine Below.setCell ?_ ?_ _); rotate_left; focus (first | omega | (simp; done) | (simp; omega))) | ((with_reducible refine Below.alloc ?_ ?_ _); rotate_left; focus (first | omega | (simp; done) | (simp; omega))) | ((with_reducible refine Below.trans ?_ (Below.mono hb3 ?_)); rotate_left; focus (first | omega | (simp; done) | (simp; omega))))), by omega⟩
          case measure => simp [intOf]; omega
    · have hk2 : k = l.length := by omega
      subst hk2
      rw [List.take_length] at *
      have hput : put n l = if (putSt n l).2 = true then (putSt n l).1 else (putSt n l).1 ++ [n] := rfl
      generalize hgs : putSt n l = st at *
      obtain ⟨o, dn⟩ := st
      simp only at hnt hm' hput
      have HM' := Lib.hid hm'; clear hm'; have HGS := Lib.hid hgs; clear hgs
      cases dn with
      | true =>
        rw [if_pos rfl] at hput
        have HPUT := Lib.hid hput; clear hput
        go_wp2_with fail
        go_ret
        rw [HPUT.out]
        exact ⟨_, _, rfl, HM'.out, hb⟩
      | false =>
        rw [if_neg (by decide)] at hput
        have HPUT := Lib.hid hput; clear hput
        go_wp2_with (at_builtin; refine wpInts_push rfl _ _ 24 rfl 3 _ Try.underlying24 infoI rfl w.heap.size a' cap' o rfl HM'.out hsz (by (repeat (first | with_reducible assumption | with_reducible exact Below.refl _ _ | with_reducible refine Below.drew ?_ | with_reducible refine belowDrewN ?_ _ | ((with_reducible refine Below.setCell ?_ ?_ _); rotate_left; focus (first | omega | (simp; done) | (simp; omega))) | ((with_reducible refine Below.alloc ?_ ?_ _); rotate_left; focus (first | omega | (simp; done) | (simp; omega)))))) n rfl (by omega) ?_)
        intro a3 cap3 w3 hm3 hb3 hz3
        have HM3 := Lib.hid hm3; clear hm3
        go_wp2_with fail
        go_ret
        rw [HPUT.out]
        exact ⟨_, _, by simp, HM3.out, by (repeat (first | with_reducible assumption | with_reducible exact Below.refl _ _ | with_reducible refine Below.drew ?_ | with_reducible refine belowDrewN ?_ _ | ((with_reducible refine Below.setCell ?_ ?_ _); rotate_left; focus (first | omega | (simp; done) | (simp; omega))) | ((with_reducible refine Below.alloc ?_ ?_ _); rotate_left; focus (first | omega | (simp; done) | (simp; omega))) | ((with_reducible refine Below.trans ?_ (Below.mono hb3 ?_)); rotate_left; focus (first | omega | (simp; done) | (simp; omega)))))⟩
theorem iPut_calls (a : Option Addr) (cap : Nat) (l : List Int) (n : Int) (w : World) (h : (M.sl a cap 1 3 (intM l)).In w) (hB : l.length ≤ 4000000) :
    Calls Try.prog 97 #[.slice a l.length cap, .int .i64 n] w (RetInts (put n l) w) := by
  have hl := Ints.len h
  have H := Lib.hid h; clear h
  go_enter Try.func97, Try.ntmps97
  go_wp2_with fail
  go_loopw [5,6,11] (fun t d i wr => ∃ (k : Nat) (a' : Option Addr) (cap' : Nat), k ≤ l.length ∧ i = .int .i64 k ∧ t = .slice a' (putSt n (l.take k)).1.length cap' ∧ d = .bool (putSt n (l.take k)).2 ∧ (M.sl a' cap' 1 3 (intM (putSt n (l.take k)).1)).Mine wr w.heap.size ∧ Below w.heap.size w wr ∧ w.heap.size ≤ wr.heap.size) (fun _ _ i _ => l.length - (intOf i).toNat)
  case atStart => exact ⟨0, _, _, Nat.zero_le _, rfl, rfl, rfl, by first | exact Ints.lit _ _ (Nat.le_refl _) | exact Ints.nil _ _, by (repeat (first | with_reducible assumption | with_reducible exact Below.refl _ _ | with_reducible refine Below.drew ?_ | with_reducible refine belowDrewN ?_ _ | ((with_reducible refine Below.setCell ?_ ?_ _); rotate_left; focus (first | omega | (simp; done) | (simp; omega))) | ((with_reducible refine Below.alloc ?_ ?_ _); rotate_left; focus (first | omega | (simp; done) | (simp; omega))))), by simp⟩
  case round =>
    obtain ⟨k, a', cap', hk, rfl, rfl, rfl, hm', hb, hsz⟩ := hrel
    have hnt := putSt_take n l k hk
    by_cases hlt : k < l.length
    · obtain ⟨b, off, x, rfl, hx, hc⟩ := Ints.elem (H.out.below hb) k hlt
      have hst := putSt_succ (n := n) hx
      generalize hgs : putSt n (l.take k) = st at *
      obtain ⟨o, dn⟩ := st
      simp only at hnt hm' hst
      have HX := Lib.hid hx; clear hx; have HM' := Lib.hid hm'; clear hm'; have HGS := Lib.hid hgs; clear hgs
      by_cases hd : dn = false ∧ n ≤ x
      · obtain ⟨rfl, hnx⟩ := hd
        have hge : n ≤ x := hnx
        by_cases hgt : n < x
        · have hfin : putSt n (l.take (k + 1)) = (o ++ [n] ++ [x], true) := by rw [hst]; simp [putStep, hnx, hgt]
          have HST := Lib.hid hst; clear hst; have HFIN := Lib.hid hfin; clear hfin
          go_wp2_with (at_builtin; refine wpInts_push rfl _ _ 24 rfl 3 _ Try.underlying24 infoI rfl w.heap.size a' cap' o rfl HM'.out hsz (by (repeat (first | with_reducible assumption | with_reducible exact Below.refl _ _ | with_reducible refine Below.drew ?_ | with_reducible refine belowDrewN ?_ _ | ((with_reducible refine Below.setCell ?_ ?_ _); rotate_left; focus (first | omega | (simp; done) | (simp; omega))) | ((with_reducible refine Below.alloc ?_ ?_ _); rotate_left; focus (first | omega | (simp; done) | (simp; omega)))))) n rfl (by omega) ?_)
          intro a3 cap3 w3 hm3 hb3 hz3
          have HM3 := Lib.hid hm3; clear hm3
          have hb3' := hb3
          go_wp2_with (at_builtin; refine wpInts_push rfl _ _ 24 rfl 3 _ Try.underlying24 infoI rfl w.heap.size a3 cap3 (o ++ [n]) (by simp [go_sem]) HM3.out (by omega) (by (repeat (first | with_reducible assumption | with_reducible exact Below.refl _ _ | with_reducible refine Below.drew ?_ | with_reducible refine belowDrewN ?_ _ | ((with_reducible refine Below.setCell ?_ ?_ _); rotate_left; focus (first | omega | (simp; done) | (simp; omega))) | ((with_reducible refine Below.alloc ?_ ?_ _); rotate_left; focus (first | omega | (simp; done) | (simp; omega)))))) x rfl (by simp; omega) ?_)
          intro a4 cap4 w4 hm4 hb4 hz4
          have HM4 := Lib.hid hm4; clear hm4
          go_wp2_with fail
          go_roundw
          case rel => exact ⟨k + 1, a4, cap4, by omega, by go_num, by simp [HFIN.out], by simp [HFIN.out], by rw [HFIN.out]; simpa using HM4.out, by (repeat (first | with_reducible assumption | with_reducible exact Below.refl _ _ | with_reducible refine Below.drew ?_ | with_reducible refine belowDrewN ?_ _ | ((with_reducible refine Below.setCell ?_ ?_ _); rotate_left; focus (first | omega | (simp; done) | (simp; omega))) | ((with_reducible refine Below.alloc ?_ ?_ _); rotate_left; focus (first | omega | (simp; done) | (simp; omega))) | ((with_reducible refine Below.trans ?_ (Below.mono hb3 ?_)); rotate_left; focus (first | omega | (simp; done) | (simp; omega))) | ((with_reducible refine Below.trans ?_ (Below.mono hb4 ?_)); rotate_left; focus (first | omega | (simp; done) | (simp; omega))))), by omega⟩
          case measure => simp [intOf]; omega
        · have hxe : x = n := by omega
          subst hxe
          have hfin : putSt x (l.take (k + 1)) = (o ++ [x], true) := by rw [hst]; simp [putStep]
          have HST := Lib.hid hst; clear hst; have HFIN := Lib.hid hfin; clear hfin
          go_wp2_with (at_builtin; refine wpInts_push rfl _ _ 24 rfl 3 _ Try.underlying24 infoI rfl w.heap.size a' cap' o rfl HM'.out hsz (by (repeat (first | with_reducible assumption | with_reducible exact Below.refl _ _ | with_reducible refine Below.drew ?_ | with_reducible refine belowDrewN ?_ _ | ((with_reducible refine Below.setCell ?_ ?_ _); rotate_left; focus (first | omega | (simp; done) | (simp; omega))) | ((with_reducible refine Below.alloc ?_ ?_ _); rotate_left; focus (first | omega | (simp; done) | (simp; omega)))))) x rfl (by omega) ?_)
          intro a3 cap3 w3 hm3 hb3 hz3
          have HM3 := Lib.hid hm3; clear hm3
          go_wp2_with fail
          go_roundw
          case rel => exact ⟨k + 1, a3, cap3, by omega, by go_num, by simp [HFIN.out], by simp [HFIN.out], by rw [HFIN.out]; exact HM3.out, by (repeat (first | with_reducible assumption | with_reducible exact Below.refl _ _ | with_reducible refine Below.drew ?_ | with_reducible refine belowDrewN ?_ _ | ((with_reducible refine Below.setCell ?_ ?_ _); rotate_left; focus (first | omega | (simp; done) | (simp; omega))) | ((with_reducible refine Below.alloc ?_ ?_ _); rotate_left; focus (first | omega | (simp; done) | (simp; omega))) | ((with_reducible refine Below.trans ?_ (Below.mono hb3 ?_)); rotate_left; focus (first | omega | (simp; done) | (simp; omega))))), by omega⟩
          case measure => simp [intOf]; omega
      · have hfin : putSt n (l.take (k + 1)) = (o ++ [x], dn) := by rw [hst]; unfold putStep; rw [if_neg hd]
        have HST := Lib.hid hst; clear hst; have HFIN := Lib.hid hfin; clear hfin
        cases dn with
        | true =>
          go_wp2_with (at_builtin; refine wpInts_push rfl _ _ 24 rfl 3 _ Try.underlying24 infoI rfl w.heap.size a' cap' o rfl HM'.out hsz (by (repeat (first | with_reducible assumption | with_reducible exact Below.refl _ _ | with_reducible refine Below.drew ?_ | with_reducible refine belowDrewN ?_ _ | ((with_reducible refine Below.setCell ?_ ?_ _); rotate_left; focus (first | omega | (simp; done) | (simp; omega))) | ((with_reducible refine Below.alloc ?_ ?_ _); rotate_left; focus (first | omega | (simp; done) | (simp; omega)))))) x rfl (by omega) ?_)
          intro a3 cap3 w3 hm3 hb3 hz3
          have HM3 := Lib.hid hm3; clear hm3
          go_wp2_with fail
          go_roundw
          case rel => exact ⟨k + 1, a3, cap3, by omega, by go_num, by simp [HFIN.out], by simp [HFIN.out], by rw [HFIN.out]; exact HM3.out, by (repeat (first | with_reducible assumption | with_reducible exact Below.refl _ _ | with_reducible refine Below.drew ?_ | with_reducible refine belowDrewN ?_ _ | ((with_reducible refine Below.setCell ?_ ?_ _); rotate_left; focus (first | omega | (simp; done) | (simp; omega))) | ((with_reducible refine Below.alloc ?_ ?_ _); rotate_left; focus (first | omega | (simp; done) | (simp; omega))) | ((with_reducible refine Below.trans ?_ (Below.mono hb3 ?_)); rotate_left; focus (first | omega | (simp; done) | (simp; omega))))), by omega⟩
          case measure => simp [intOf]; omega
        | false =>
          have hxl : x < n := by simp at hd; omega
          clear hd
          go_wp2_with (at_builtin; refine wpInts_push rfl _ _ 24 rfl 3 _ Try.underlying24 infoI rfl w.heap.size a' cap' o rfl HM'.out hsz (by (repeat (first | with_reducible assumption | with_reducible exact Below.refl _ _ | with_reducible refine Below.drew ?_ | with_reducible refine belowDrewN ?_ _ | ((with_reducible refine Below.setCell ?_ ?_ _); rotate_left; focus (first | omega | (simp; done) | (simp; omega))) | ((with_reducible refine Below.alloc ?_ ?_ _); rotate_left; focus (first | omega | (simp; done) | (simp; omega)))))) x rfl (by omega) ?_)
          intro a3 cap3 w3 hm3 hb3 hz3
          have HM3 := Lib.hid hm3; clear hm3
          go_wp2_with fail
          go_roundw
          case rel => exact ⟨k + 1, a3, cap3, by omega, by go_num, by simp [HFIN.out], by simp [HFIN.out], by rw [HFIN.out]; exact HM3.out, by (repeat (first | with_reducible assumption | with_reducible exact Below.refl _ _ | with_reducible refine Below.drew ?_ | with_reducible refine belowDrewN ?_ _ | ((with_reducible refine Below.setCell ?_ ?_ _); rotate_left; focus (first | omega | (simp; done) | (simp; omega))) | ((with_reducible refine Below.alloc ?_ ?_ _); rotate_left; focus (first | omega | (simp; done) | (simp; omega))) | ((with_reducible refine Below.trans ?_ (Below.mono hb3 ?_)); rotate_left; focus (first | omega | (simp; done) | (simp; omega))))), by omega⟩
          case measure => simp [intOf]; omega
    · have hk2 : k = l.length := by omega
      subst hk2
      rw [List.take_length] at *
      have hput : put n l = if (putSt n l).2 = true then (putSt n l).1 else (putSt n l).1 ++ [n] := rfl
      generalize hgs : putSt n l = st at *
      obtain ⟨o, dn⟩ := st
      simp only at hnt hm' hput
      have HM' := Lib.hid hm'; clear hm'; have HGS := Lib.hid hgs; clear hgs
      cases dn with
      | true =>
        rw [if_pos rfl] at hput
        have HPUT := Lib.hid hput; clear hput
        go_wp2_with fail
        go_ret
        rw [HPUT.out]
        exact ⟨_, _, rfl, HM'.out, hb⟩
      | false =>
        rw [if_neg (by decide)] at hput
        have HPUT := Lib.hid hput; clear hput
        go_wp2_with (at_builtin; refine wpInts_push rfl _ _ 24 rfl 3 _ Try.underlying24 infoI rfl w.heap.size a' cap' o rfl HM'.out hsz (by (repeat (first | with_reducible assumption | with_reducible exact Below.refl _ _ | with_reducible refine Below.drew ?_ | with_reducible refine belowDrewN ?_ _ | ((with_reducible refine Below.setCell ?_ ?_ _); rotate_left; focus (first | omega | (simp; done) | (simp; omega))) | ((with_reducible refine Below.alloc ?_ ?_ _); rotate_left; focus (first | omega | (simp; done) | (simp; omega)))))) n rfl (by omega) ?_)
        intro a3 cap3 w3 hm3 hb3 hz3
        have HM3 := Lib.hid hm3; clear hm3
        go_wp2_with fail
        go_ret
        rw [HPUT.out]
        exact ⟨_, _, by simp, HM3.out, by (repeat (first | with_reducible assumption | with_reducible exact Below.refl _ _ | with_reducible refine Below.drew ?_ | with_reducible refine belowDrewN ?_ _ | ((with_reducible refine Below.setCell ?_ ?_ _); rotate_left; focus (first | omega | (simp; done) | (simp; omega))) | ((with_reducible refine Below.alloc ?_ ?_ _); rotate_left; focus (first | omega | (simp; done) | (simp; omega))) | ((with_reducible refine Below.trans ?_ (Below.mono hb3 ?_)); rotate_left; focus (first | omega | (simp; done) | (simp; omega)))))⟩
end Go.Proofs.Ytghbnehocggnnaa

/-
  Walks: WithScope, FlippedScope. No condition.
-/
set_option linter.unusedVariables false
set_option linter.unusedSimpArgs false
set_option maxRecDepth 100000
namespace Go.Proofs.Ytghbnehocggnnaa
open Go.RowKit

theorem RetInts.mono {l : List Int} {w w1 : World} {e : Ending} {w' : World} (h : RetInts l w1 e w') (hb : Below w.heap.size w w1) : RetInts l w e w' := by
  obtain ⟨a, c, rfl, hm, hb1⟩ := h
  exact ⟨a, c, rfl, hm.mono hb.size, hb.trans (hb1.mono hb.size)⟩

def dropN (n : Int) (l : List Int) : List Int := l.filter fun x => decide (¬ x = n)
theorem dropN_length (n : Int) (l : List Int) : (dropN n l).length ≤ l.length := List.length_filter_le ..
theorem dropN_take (n : Int) (l : List Int) (k : Nat) : (dropN n (l.take k)).length ≤ k := Nat.le_trans (dropN_length _ _) (by simp; omega)
theorem dropN_yes {n : Int} {l : List Int} {k : Nat} {x : Int} (hx : l[k]? = some x) (h : ¬ x = n) : dropN n (l.take (k + 1)) = dropN n (l.take k) ++ [x] := by
  rw [take_snoc hx, dropN, dropN, List.filter_append]; simp [h]
theorem dropN_no {n : Int} {l : List Int} {k : Nat} {x : Int} (hx : l[k]? = some x) (h : x = n) : dropN n (l.take (k + 1)) = dropN n (l.take k) := by
  rw [take_snoc hx, dropN, dropN, List.filter_append]; simp [h]
def flipL (l : List Int) (n : Int) : List Int := if hasB l n = true then dropN n l else put n l
def flipS (l : List Int) (n : Int) : List Int := if ssB l = true ∧ ¬ kindS n = 0 then flipL l n else l
theorem flipL_length (l : List Int) (n : Int) : (flipL l n).length ≤ 2 * l.length + 1 := by
  unfold flipL; split
  · have := dropN_length n l; omega
  · exact put_length n l
theorem flipS_length (l : List Int) (n : Int) : (flipS l n).length ≤ 2 * l.length + 1 := by
  unfold flipS; split
  · exact flipL_length l n
  · omega

theorem iWithout_calls (a : Option Addr) (cap : Nat) (l : List Int) (n : Int) (w : World) (h : (M.sl a cap 1 3 (intM l)).In w) (hB : l.length ≤ 4000000) :
    Calls Try.prog 115 #[.slice a l.length cap, .int .i64 n] w (RetInts (dropN n l) w) := by
  have hl := Ints.len h
  have H := Lib.hid h; clear h
  go_enter Try.func115, Try.ntmps115
  go_wp2_with fail
  go_loopw [5, 10] (fun t i wr => ∃ (k : Nat) (a' : Option Addr) (cap' : Nat), k ≤ l.length ∧ i = .int .i64 k ∧ t = .slice a' (dropN n (l.take k)).length cap' ∧ (M.sl a' cap' 1 3 (intM (dropN n (l.take k)))).Mine wr w.heap.size ∧ Below w.heap.size w wr ∧ w.heap.size ≤ wr.heap.size) (fun _ i _ => l.length - (intOf i).toNat)
  case atStart => exact ⟨0, _, _, Nat.zero_le _, rfl, rfl, Ints.nil _ _, by (repeat (first | with_reducible assumption | with_reducible exact Below.refl _ _ | with_reducible refine Below.drew ?_ | with_reducible refine belowDrewN ?_ _ | ((with_reducible refine Below.setCell ?_ ?_ _); rotate_left; focus (first | omega | (simp; done) | (simp; omega))) | ((with_reducible refine Below.alloc ?_ ?_ _); rotate_left; focus (first | omega | (simp; done) | (simp; omega))))), by simp⟩
  case round =>
    obtain ⟨k, a', cap', hk, rfl, rfl, hm', hb, hsz⟩ := hrel
    have hnt := dropN_take n l k
    by_cases hlt : k < l.length
    · obtain ⟨b, off, x, rfl, hx, hc⟩ := Ints.elem (H.out.below hb) k hlt
      by_cases hq : x = n
      · have hfin := dropN_no (n := n) hx hq
        have HX := Lib.hid hx; clear hx; have HM' := Lib.hid hm'; clear hm'; have HFIN := Lib.hid hfin; clear hfin
        go_wp2_with fail
        go_roundw
        case rel => exact ⟨k + 1, a', cap', by omega, by go_num, by simp [HFIN.out], by rw [HFIN.out]; exact HM'.out, hb, hsz⟩
        case measure => simp [intOf]; omega
      · have hfin := dropN_yes (n := n) hx hq
        have HX := Lib.hid hx; clear hx; have HM' := Lib.hid hm'; clear hm'; have HFIN := Lib.hid hfin; clear hfin
        go_wp2_with (at_builtin; refine wpInts_push rfl _ _ 24 rfl 3 _ Try.underlying24 infoI rfl w.heap.size a' cap' (dropN n (l.take k)) rfl HM'.out hsz (by (repeat (first | with_reducible assumption | with_reducible exact Below.refl _ _ | with_reducible refine Below.drew ?_ | with_reducible refine belowDrewN ?_ _ | ((with_reducible refine Below.setCell ?_ ?_ _); rotate_left; focus (first | omega | (simp; done) | (simp; omega))) | ((with_reducible refine Below.alloc ?_ ?_ _); rotate_left; focus (first | omega | (simp; done) | (simp; omega)))))) x rfl (by omega) ?_)
        intro a3 cap3 w3 hm3 hb3 hz3
        have HM3 := Lib.hid hm3; clear hm3
        go_wp2_with fail
        go_roundw
        case rel => exact ⟨k + 1, a3, cap3, by omega, by go_num, by simp [HFIN.out], by rw [HFIN.out]; exact HM3.out, by (repeat (first | with_reducible assumption | with_reducible exact Below.refl _ _ | with_reducible refine Below.drew ?_ | with_reducible refine belowDrewN ?_ _ | ((with_reducible refine Below.setCell ?_ ?_ _); rotate_left; focus (first | omega | (simp; done) | (simp; omega))) | ((with_reducible refine Below.alloc ?_ ?_ _); rotate_left; focus (first | omega | (simp; done) | (simp; omega))) | ((with_reducible refine Below.trans ?_ (Below.mono hb3 ?_)); rotate_left; focus (first | omega | (simp; done) | (simp; omega))))), by omega⟩
        case measure => simp [intOf]; omega
    · have hk2 : k = l.length := by omega
      subst hk2
      rw [List.take_length] at *
      have HM' := Lib.hid hm'; clear hm'
      go_wp2_with fail
      go_ret
      exact ⟨_, _, rfl, HM'.out, hb⟩
theorem iFlippedScope_calls (a : Option Addr) (cap : Nat) (l : List Int) (n : Int) (w : World) (h : (M.sl a cap 1 3 (intM l)).In w) (hB : l.length ≤ 4000000) :
    Calls Try.prog 99 #[.slice a l.length cap, .int .i64 n] w (RetInts (flipS l n) w) := by
  have H := Lib.hid h; clear h
  go_enter Try.func99, Try.ntmps99
  go_wp2_with fail
  refine (iIsScopeSet_calls a cap l _ H.out).mono ?_
  rintro e w1 ⟨rfl, hb1⟩
  obtain ⟨hc1, hf1⟩ := bcell hb1; have hz1 := hb1.size; (try simp only [World.size_alloc, World.size_setCell, World.size_drew, sizeDrewN] at hz1 hc1 hf1)
  cases hs : ssB l with
  | false =>
    go_wp2_with fail
    refine (icopyInts_calls a cap l _ (H.out.below (by (repeat (first | with_reducible assumption | with_reducible exact Below.refl _ _ | with_reducible refine Below.drew ?_ | with_reducible refine belowDrewN ?_ _ | ((with_reducible refine Below.setCell ?_ ?_ _); rotate_left; focus (first | omega | (simp; done) | (simp; omega))) | ((with_reducible refine Below.alloc ?_ ?_ _); rotate_left; focus (first | omega | (simp; done) | (simp; omega))) | ((with_reducible refine Below.trans ?_ (Below.mono hb1 ?_)); rotate_left; focus (first | omega | (simp; done) | (simp; omega))))))) (by omega)).mono ?_
    rintro e w2 ⟨a2, c2, rfl, hm2, hb2⟩
    obtain ⟨hc2, hf2⟩ := bcell hb2; have hz2 := hb2.size; (try simp only [World.size_alloc, World.size_setCell, World.size_drew, sizeDrewN] at hz2 hc2 hf2)
    have HM2 := Lib.hid hm2; clear hm2
    go_wp2_with fail
    go_ret
    rw [show flipS l n = l by simp [flipS, hs]]
    exact ⟨_, _, rfl, HM2.out.mono hz1, by (repeat (first | with_reducible assumption | with_reducible exact Below.refl _ _ | with_reducible refine Below.drew ?_ | with_reducible refine belowDrewN ?_ _ | ((with_reducible refine Below.setCell ?_ ?_ _); rotate_left; focus (first | omega | (simp; done) | (simp; omega))) | ((with_reducible refine Below.alloc ?_ ?_ _); rotate_left; focus (first | omega | (simp; done) | (simp; omega))) | ((with_reducible refine Below.trans ?_ (Below.mono hb1 ?_)); rotate_left; focus (first | omega | (simp; done) | (simp; omega))) | ((with_reducible refine Below.trans ?_ (Below.mono hb2 ?_)); rotate_left; focus (first | omega | (simp; done) | (simp; omega)))))⟩
  | true =>
    go_wp2_with fail
    refine (iKindOfScope_ret n _).mono ?_
    rintro e w2 ⟨rfl, hb2⟩
    obtain ⟨hc2, hf2⟩ := bcell hb2; have hz2 := hb2.size; (try simp only [World.size_alloc, World.size_setCell, World.size_drew, sizeDrewN] at hz2 hc2 hf2)
    by_cases hk : kindS n = 0
    · go_wp2_with fail
      refine (icopyInts_calls a cap l _ (H.out.below (by (repeat (first | with_reducible assumption | with_reducible exact Below.refl _ _ | with_reducible refine Below.drew ?_ | with_reducible refine belowDrewN ?_ _ | ((with_reducible refine Below.setCell ?_ ?_ _); rotate_left; focus (first | omega | (simp; done) | (simp; omega))) | ((with_reducible refine Below.alloc ?_ ?_ _); rotate_left; focus (first | omega | (simp; done) | (simp; omega))) | ((with_reducible refine Below.trans ?_ (Below.mono hb1 ?_)); rotate_left; focus (first | omega | (simp; done) | (simp; omega))) | ((with_reducible refine Below.trans ?_ (Below.mono hb2 ?_)); rotate_left; focus (first | omega | (simp; done) | (simp; omega))))))) (by omega)).mono ?_
      rintro e w3 ⟨a2, c2, rfl, hm2, hb3⟩
      obtain ⟨hc3, hf3⟩ := bcell hb3; have hz3 := hb3.size; (try simp only [World.size_alloc, World.size_setCell, World.size_drew, sizeDrewN] at hz3 hc3 hf3)
      have HM2 := Lib.hid hm2; clear hm2
      go_wp2_with fail
      go_ret
      rw [show flipS l n = l by simp [flipS, hk]]
      exact ⟨_, _, rfl, HM2.out.mono (by omega), by (repeat (first | with_reducible assumption | with_reducible exact Below.refl _ _ | with_reducible refine Below.drew ?_ | with_reducible refine belowDrewN ?_ _ | ((with_reducible refine Below.setCell ?_ ?_ _); rotate_left; focus (first | omega | (simp; done) | (simp; omega))) | ((with_reducible refine Below.alloc ?_ ?_ _); rotate_left; focus (first | omega | (simp; done) | (simp; omega))) | ((with_reducible refine Below.trans ?_ (Below.mono hb1 ?_)); rotate_left; focus (first | omega | (simp; done) | (simp; omega))) | ((with_reducible refine Below.trans ?_ (Below.mono hb2 ?_)); rotate_left; focus (first | omega | (simp; done) | (simp; omega))) | ((with_reducible refine Below.trans ?_ (Below.mono hb3 ?_)); rotate_left; focus (first | omega | (simp; done) | (simp; omega)))))⟩
    · go_wp2_with fail
      refine (iHasScope_calls a cap l n _ (H.out.below (by (repeat (first | with_reducible assumption | with_reducible exact Below.refl _ _ | with_reducible refine Below.drew ?_ | with_reducible refine belowDrewN ?_ _ | ((with_reducible refine Below.setCell ?_ ?_ _); rotate_left; focus (first | omega | (simp; done) | (simp; omega))) | ((with_reducible refine Below.alloc ?_ ?_ _); rotate_left; focus (first | omega | (simp; done) | (simp; omega))) | ((with_reducible refine Below.trans ?_ (Below.mono hb1 ?_)); rotate_left; focus (first | omega | (simp; done) | (simp; omega))) | ((with_reducible refine Below.trans ?_ (Below.mono hb2 ?_)); rotate_left; focus (first | omega | (simp; done) | (simp; omega)))))))).mono ?_
      rintro e w3 ⟨rfl, rfl⟩
      cases hh : hasB l n with
      | false =>
        go_wp2_with fail
        refine (iPut_calls a cap l n _ (H.out.below (by (repeat (first | with_reducible assumption | with_reducible exact Below.refl _ _ | with_reducible refine Below.drew ?_ | with_reducible refine belowDrewN ?_ _ | ((with_reducible refine Below.setCell ?_ ?_ _); rotate_left; focus (first | omega | (simp; done) | (simp; omega))) | ((with_reducible refine Below.alloc ?_ ?_ _); rotate_left; focus (first | omega | (simp; done) | (simp; omega))) | ((with_reducible refine Below.trans ?_ (Below.mono hb1 ?_)); rotate_left; focus (first | omega | (simp; done) | (simp; omega))) | ((with_reducible refine Below.trans ?_ (Below.mono hb2 ?_)); rotate_left; focus (first | omega | (simp; done) | (simp; omega))))))) (by omega)).mono ?_
        rintro e w3 ⟨a2, c2, rfl, hm2, hb3⟩
        obtain ⟨hc3, hf3⟩ := bcell hb3; have hz3 := hb3.size; (try simp only [World.size_alloc, World.size_setCell, World.size_drew, sizeDrewN] at hz3 hc3 hf3)
        have HM2 := Lib.hid hm2; clear hm2
        go_wp2_with fail
        go_ret
        rw [show flipS l n = put n l by simp [flipS, hs, hk, flipL, hh]]
        exact ⟨_, _, rfl, HM2.out.mono (by omega), by (repeat (first | with_reducible assumption | with_reducible exact Below.refl _ _ | with_reducible refine Below.drew ?_ | with_reducible refine belowDrewN ?_ _ | ((with_reducible refine Below.setCell ?_ ?_ _); rotate_left; focus (first | omega | (simp; done) | (simp; omega))) | ((with_reducible refine Below.alloc ?_ ?_ _); rotate_left; focus (first | omega | (simp; done) | (simp; omega))) | ((with_reducible refine Below.trans ?_ (Below.mono hb1 ?_)); rotate_left; focus (first | omega | (simp; done) | (simp; omega))) | ((with_reducible refine Below.trans ?_ (Below.mono hb2 ?_)); rotate_left; focus (first | omega | (simp; done) | (simp; omega))) | ((with_reducible refine Below.trans ?_ (Below.mono hb3 ?_)); rotate_left; focus (first | omega | (simp; done) | (simp; omega)))))⟩
      | true =>
        go_wp2_with fail
        refine (iWithout_calls a cap l n _ (H.out.below (by (repeat (first | with_reducible assumption | with_reducible exact Below.refl _ _ | with_reducible refine Below.drew ?_ | with_reducible refine belowDrewN ?_ _ | ((with_reducible refine Below.setCell ?_ ?_ _); rotate_left; focus (first | omega | (simp; done) | (simp; omega))) | ((with_reducible refine Below.alloc ?_ ?_ _); rotate_left; focus (first | omega | (simp; done) | (simp; omega))) | ((with_reducible refine Below.trans ?_ (Below.mono hb1 ?_)); rotate_left; focus (first | omega | (simp; done) | (simp; omega))) | ((with_reducible refine Below.trans ?_ (Below.mono hb2 ?_)); rotate_left; focus (first | omega | (simp; done) | (simp; omega))))))) (by omega)).mono ?_
        rintro e w3 ⟨a2, c2, rfl, hm2, hb3⟩
        obtain ⟨hc3, hf3⟩ := bcell hb3; have hz3 := hb3.size; (try simp only [World.size_alloc, World.size_setCell, World.size_drew, sizeDrewN] at hz3 hc3 hf3)
        have HM2 := Lib.hid hm2; clear hm2
        go_wp2_with fail
        go_ret
        rw [show flipS l n = dropN n l by simp [flipS, hs, hk, flipL, hh]]
        exact ⟨_, _, rfl, HM2.out.mono (by omega), by (repeat (first | with_reducible assumption | with_reducible exact Below.refl _ _ | with_reducible refine Below.drew ?_ | with_reducible refine belowDrewN ?_ _ | ((with_reducible refine Below.setCell ?_ ?_ _); rotate_left; focus (first | omega | (simp; done) | (simp; omega))) | ((with_reducible refine Below.alloc ?_ ?_ _); rotate_left; focus (first | omega | (simp; done) | (simp; omega))) | ((with_reducible refine Below.trans ?_ (Below.mono hb1 ?_)); rotate_left; focus (first | omega | (simp; done) | (simp; omega))) | ((with_reducible refine Below.trans ?_ (Below.mono hb2 ?_)); rotate_left; focus (first | omega | (simp; done) | (simp; omega))) | ((with_reducible refine Below.trans ?_ (Below.mono hb3 ?_)); rotate_left; focus (first | omega | (simp; done) | (simp; omega)))))⟩
end Go.Proofs.Ytghbnehocggnnaa

/-
  Walks: the cursor made; sets of scopes drawn. No condition.
-/
set_option linter.unusedVariables false
set_option linter.unusedSimpArgs false
set_option maxRecDepth 100000
namespace Go.Proofs.Ytghbnehocggnnaa
open Go.RowKit

def RetCur (a : Option Addr) (cap : Nat) (l : List Int) (w : World) (e : Ending) (w' : World) : Prop :=
  ∃ pb, e = .returned (.pointer (some ⟨pb, 0, none⟩)) ∧ w.heap.size ≤ pb ∧ Cur pb a cap l w' ∧ Below w.heap.size w w'
theorem l01New_calls (a : Option Addr) (cap : Nat) (l : List Int) (w : World) (hin : (M.sl a cap 1 5 (u8M l)).In w) (hu : ∀ z ∈ l, 0 ≤ z ∧ z ≤ 255) (hlen : l.length ≤ 1048576) :
    Calls Try.prog 47 #[.slice a l.length cap] w (RetCur a cap l w) := by
  have hl := U8s.len hin
  have HIN := Lib.hid hin; clear hin; have HU := Lib.hid hu; clear hu
  go_enter Try.func47, Try.ntmps47
  go_wp2_with fail
  go_loop [3, 4] (fun t i => ∃ (k : Nat) (h : Int), k ≤ l.length ∧ i = .int .i64 k ∧ t = .int .i64 h ∧ 0 ≤ h ∧ h ≤ 1073741823) (fun _ i => l.length - (intOf i).toNat)
  case atStart => exact ⟨0, 3220 + l.length, Nat.zero_le _, rfl, rfl, by omega, by omega⟩
  case round =>
    obtain ⟨k, h, hk, rfl, rfl, h0, h1⟩ := hrel
    by_cases hlt : k < l.length
    · by_cases h4 : (k : Int) < 4000
      · obtain ⟨b, off, z, rfl, hz, hc⟩ := U8s.elem HIN.out k hlt
        have hzr := HU.out z (List.mem_of_getElem? hz)
        have hzw : wrap64 z = z := by unfold wrap64; omega
        have HZ := Lib.hid hz; clear hz
        go_wp2_with fail
        go_round
        case rel => exact ⟨k + 1, _, by omega, by go_num, rfl, (and30 _).1, (and30 _).2⟩
        case measure => simp [intOf]; omega
      · have hlt' : (k : Int) < (l.length : Int) := by omega
        go_wp2_with fail
        go_ret
        refine ⟨w.heap.size, rfl, Nat.le_refl _, ⟨0, h, ?_, ?_, ?_, ?_, ?_, Nat.zero_le _, HIN.out.below (by (repeat (first | with_reducible assumption | with_reducible exact Below.refl _ _ | with_reducible refine Below.drew ?_ | with_reducible refine belowDrewN ?_ _ | ((with_reducible refine Below.setCell ?_ ?_ _); rotate_left; focus (first | omega | (simp; done) | (simp; omega))) | ((with_reducible refine Below.alloc ?_ ?_ _); rotate_left; focus (first | omega | (simp; done) | (simp; omega)))))), ?_, HU.out⟩, by (repeat (first | with_reducible assumption | with_reducible exact Below.refl _ _ | with_reducible refine Below.drew ?_ | with_reducible refine belowDrewN ?_ _ | ((with_reducible refine Below.setCell ?_ ?_ _); rotate_left; focus (first | omega | (simp; done) | (simp; omega))) | ((with_reducible refine Below.alloc ?_ ?_ _); rotate_left; focus (first | omega | (simp; done) | (simp; omega)))))⟩
        · simp [go_sem]
        · simp [go_sem]
        · simp [go_sem]
        · simp [go_sem]
        · simp [go_sem]
        · intro hpos b hb
          obtain ⟨b', off', z, rfl, _, hc⟩ := U8s.elem HIN.out 0 hpos
          simp [addrBlocks] at hb
          subst hb
          exact World.block_lt_of_cell? w _ hc
    · have hlt' : ¬ (k : Int) < (l.length : Int) := by omega
      go_wp2_with fail
      go_ret
      refine ⟨w.heap.size, rfl, Nat.le_refl _, ⟨0, h, ?_, ?_, ?_, ?_, ?_, Nat.zero_le _, HIN.out.below (by (repeat (first | with_reducible assumption | with_reducible exact Below.refl _ _ | with_reducible refine Below.drew ?_ | with_reducible refine belowDrewN ?_ _ | ((with_reducible refine Below.setCell ?_ ?_ _); rotate_left; focus (first | omega | (simp; done) | (simp; omega))) | ((with_reducible refine Below.alloc ?_ ?_ _); rotate_left; focus (first | omega | (simp; done) | (simp; omega)))))), ?_, HU.out⟩, by (repeat (first | with_reducible assumption | with_reducible exact Below.refl _ _ | with_reducible refine Below.drew ?_ | with_reducible refine belowDrewN ?_ _ | ((with_reducible refine Below.setCell ?_ ?_ _); rotate_left; focus (first | omega | (simp; done) | (simp; omega))) | ((with_reducible refine Below.alloc ?_ ?_ _); rotate_left; focus (first | omega | (simp; done) | (simp; omega)))))⟩
      · simp [go_sem]
      · simp [go_sem]
      · simp [go_sem]
      · simp [go_sem]
      · simp [go_sem]
      · intro hpos b hb
        obtain ⟨b', off', z, rfl, _, hc⟩ := U8s.elem HIN.out 0 hpos
        simp [addrBlocks] at hb
        subst hb
        exact World.block_lt_of_cell? w _ hc
theorem putSt_mem (n : Int) : ∀ (l : List Int) (st : List Int × Bool), ∀ z ∈ (l.foldl (putStep n) st).1, z = n ∨ z ∈ l ∨ z ∈ st.1
  | [], st => fun z hz => .inr (.inr hz)
  | y :: r, st => fun z hz => by
    rcases putSt_mem n r (putStep n st y) z hz with h | h | h
    · exact .inl h
    · exact .inr (.inl (List.mem_cons_of_mem _ h))
    · unfold putStep at h
      split at h
      · simp only [List.mem_append, List.mem_singleton] at h
        rcases h with h | h
        · split at h
          · rcases List.mem_append.1 h with h | h
            · exact .inr (.inr h)
            · simp at h; exact .inl h
          · exact .inr (.inr h)
        · subst h; exact .inr (.inl (List.mem_cons_self ..))
      · rcases List.mem_append.1 h with h | h
        · exact .inr (.inr h)
        · simp at h; subst h; exact .inr (.inl (List.mem_cons_self ..))
theorem put_mem {n : Int} {l : List Int} {z : Int} (h : z ∈ put n l) : z = n ∨ z ∈ l := by
  unfold put at h
  split at h
  · rcases putSt_mem n l ([], false) z h with h | h | h
    · exact .inl h
    · exact .inr h
    · cases h
  · rcases List.mem_append.1 h with h | h
    · rcases putSt_mem n l ([], false) z h with h | h | h
      · exact .inl h
      · exact .inr h
      · cases h
    · simp at h; exact .inl h
def Small (L : List Int) : Prop := ∀ z ∈ L, -1 ≤ z ∧ z ≤ 100000
theorem Small.nil : Small [] := fun z h => by cases h
theorem Small.put {L : List Int} (h : Small L) {x : Int} (h0 : 0 ≤ x) (h1 : x ≤ 8) : Small (put (1 + x) L) := fun z hz => by
  rcases put_mem hz with rfl | hz
  · omega
  · exact h z hz
/-- a list of numbers drawn -/
def RetSet (m : Nat) (pb : Nat) (a : Option Addr) (cap : Nat) (l : List Int) (w : World) (e : Ending) (w' : World) : Prop :=
  ∃ (L : List Int) (a' : Option Addr) (cap' : Nat), e = .returned (.slice a' L.length cap') ∧ L.length ≤ m ∧ Small L ∧ (M.sl a' cap' 1 3 (intM L)).Mine w' w.heap.size ∧ Cur pb a cap l w' ∧ OnlyIn pb (pb + 1) w w'
theorem l2Set_calls (pb : Nat) (a : Option Addr) (cap : Nat) (l : List Int) (w : World) (hc : Cur pb a cap l w) :
    Calls Try.prog 90 #[.pointer (some ⟨pb, 0, none⟩)] w (RetSet 7 pb a cap l w) := by
  have hpl := hc.lt
  have HC := Lib.hid hc; clear hc
  go_enter Try.func90, Try.ntmps90
  go_wp2_with fail
  refine (l01Below_calls 4 pb a cap l _ (HC.out.below (by (repeat (first | with_reducible assumption | with_reducible exact Below.refl _ _ | with_reducible refine Below.drew ?_ | with_reducible refine belowDrewN ?_ _ | ((with_reducible refine Below.setCell ?_ ?_ _); rotate_left; focus (first | omega | (simp; done) | (simp; omega))) | ((with_reducible refine Below.alloc ?_ ?_ _); rotate_left; focus (first | omega | (simp; done) | (simp; omega))))))) (by decide) (by decide)).mono ?_
  rintro e w1 ⟨x, rfl, hx0, hx1, hc1, ho1⟩
  obtain ⟨n0, rfl⟩ := Int.eq_ofNat_of_zero_le hx0
  have hz1 := ho1.size
  simp only [World.size_alloc] at hz1
  have hm1 : (M.sl (some ⟨w.heap.size, 0, none⟩) 0 1 3 (intM [])).Mine w1 w.heap.size := (Ints.lit w w.heap.size (Nat.le_refl _)).keep (fun b h1 h2 => ho1.block b h2 (.inr (by omega)))
  have hoo : OnlyIn pb (pb + 1) w w1 := ((OnlyIn.refl _ _ _).new _).trans ho1
  have hn3 : n0 ≤ 3 := by omega
  have hpw : (([] : List Int).length + 1) * 2 ^ n0 ≤ 8 := by
    have : n0 = 0 ∨ n0 = 1 ∨ n0 = 2 ∨ n0 = 3 := by omega
    rcases this with rfl | rfl | rfl | rfl <;> decide
  have HC1 := Lib.hid hc1; clear hc1; have HO1 := Lib.hid ho1; clear ho1; have HM1 := Lib.hid hm1; clear hm1; have HOO := Lib.hid hoo; clear hoo
  go_wp2_with fail
  go_loopw [3, 4] (fun t i wr => ∃ (L : List Int) (a' : Option Addr) (cap' n : Nat), t = .slice a' L.length cap' ∧ i = .int .i64 n ∧ n ≤ 3 ∧ (L.length + 1) * 2 ^ n ≤ 8 ∧ Small L ∧ (M.sl a' cap' 1 3 (intM L)).Mine wr w.heap.size ∧ Cur pb a cap l wr ∧ OnlyIn pb (pb + 1) w wr ∧ w.heap.size ≤ wr.heap.size) (fun _ i _ => (intOf i).toNat)
  case atStart => exact ⟨[], _, _, n0, rfl, rfl, hn3, hpw, Small.nil, HM1.out, HC1.out, HOO.out, by omega⟩
  case round =>
    obtain ⟨L, a', cap', n, rfl, rfl, hn, hLn, hLs, hm, hcr, hor, hsz⟩ := hrel
    have HLS := Lib.hid hLs; clear hLs
    cases n with
    | zero =>
      simp at hLn
      have HM := Lib.hid hm; clear hm; have HCR := Lib.hid hcr; clear hcr; have HOR := Lib.hid hor; clear hor
      go_wp2_with fail
      go_ret
      exact ⟨L, a', cap', rfl, hLn, HLS.out, HM.out, HCR.out, HOR.out⟩
    | succ n =>
      have hpos : 0 < ((n + 1 : Nat) : Int) := by omega
      have hL8 : L.length ≤ 8 := by
        have : 1 ≤ 2 ^ (n + 1) := Nat.one_le_two_pow
        have := Nat.le_mul_of_pos_right (L.length + 1) (show 0 < 2 ^ (n + 1) by omega)
        omega
      have hlen := Ints.len hm.in_
      have HM := Lib.hid hm; clear hm; have HCR := Lib.hid hcr; clear hcr; have HOR := Lib.hid hor; clear hor
      go_wp2_with fail
      refine (l01Below_calls 9 pb a cap l _ HCR.out (by decide) (by decide)).mono ?_
      rintro e w2 ⟨x, rfl, hx0, hx1, hc2, ho2⟩
      have hz2 := ho2.size
      have hm2 := HM.out.keep (fun b h1 h2 => ho2.block b h2 (.inr (by omega)))
      have HC2 := Lib.hid hc2; clear hc2; have HO2 := Lib.hid ho2; clear ho2; have HM2 := Lib.hid hm2; clear hm2
      go_wp2_with fail
      refine (sPut_calls a' cap' L (1 + x) _ HM2.out.in_ (by omega)).mono ?_
      rintro e w3 ⟨a3, cap3, rfl, hm3, hb3⟩
      have hz3 := hb3.size
      have hput := put_length (1 + x) L
      have hL3 : ((put (1 + x) L).length + 1) * 2 ^ n ≤ 8 := by
        refine Nat.le_trans (Nat.mul_le_mul_right _ (show (put (1 + x) L).length + 1 ≤ (L.length + 1) * 2 by omega)) ?_
        rw [Nat.mul_assoc, ← Nat.pow_succ']
        exact hLn
      have hm3' := hm3.mono (show w.heap.size ≤ w2.heap.size by omega)
      have hc3 := HC2.out.below hb3
      have ho3 := (HOR.out.trans HO2.out).trans (OnlyIn.of_below (lo := pb) (hi := pb + 1) hb3)
      have HM3 := Lib.hid hm3; clear hm3; have HM3' := Lib.hid hm3'; clear hm3'; have HC3 := Lib.hid hc3; clear hc3; have HO3 := Lib.hid ho3; clear ho3; have HB3 := Lib.hid hb3; clear hb3
      go_wp2_with fail
      go_roundw
      case rel => exact ⟨put (1 + x) L, a3, cap3, n, rfl, by go_num, by omega, hL3, HLS.out.put hx0 (by omega), HM3'.out, HC3.out, HO3.out, by omega⟩
      case measure => first | (simp [intOf]; done) | (simp [intOf]; omega)
theorem l2AnySet_calls (pb : Nat) (a : Option Addr) (cap : Nat) (l : List Int) (w : World) (hc : Cur pb a cap l w) :
    Calls Try.prog 94 #[.pointer (some ⟨pb, 0, none⟩)] w (RetSet 8 pb a cap l w) := by
  have hpl := hc.lt
  have HC := Lib.hid hc; clear hc
  go_enter Try.func94, Try.ntmps94
  go_wp2_with fail
  refine (l2Set_calls pb a cap l _ HC.out).mono ?_
  rintro e w1 ⟨L, a1, cap1, rfl, hL, hLs, hm1, hc1, ho1⟩
  have HLS := Lib.hid hLs; clear hLs
  have hz1 := ho1.size
  have hlen := Ints.len hm1.in_
  have HC1 := Lib.hid hc1; clear hc1; have HM1 := Lib.hid hm1; clear hm1
  go_wp2_with fail
  refine (l01Once_calls 6 pb a cap l _ HC1.out (by decide) (by decide)).mono ?_
  rintro e w2 ⟨bb, rfl, hc2, ho2⟩
  have hz2 := ho2.size
  have hm2 := HM1.out.keep (fun b h1 h2 => ho2.block b h2 (.inr (by omega)))
  have ho12 := ho1.trans ho2
  have HC2 := Lib.hid hc2; clear hc2; have HO2 := Lib.hid ho2; clear ho2; have HM2 := Lib.hid hm2; clear hm2; have HO12 := Lib.hid ho12; clear ho12; have HO1 := Lib.hid ho1; clear ho1
  cases bb with
  | false =>
    go_wp2_with fail
    go_ret
    exact ⟨L, a1, cap1, rfl, by omega, HLS.out, HM2.out, HC2.out, HO12.out⟩
  | true =>
    go_wp2_with fail
    refine (l01Int_calls (some ⟨w2.heap.size, 0, none⟩) 5 [0, 1, -1, 99999, 100000] pb a cap l _ (by decide) (M.Mine.new (xs := intM [0, 1, -1, 99999, 100000]) (lo := w2.heap.size) rfl (Nat.le_refl _) (by rw [intM_cells]; rfl) (by decide) (fun y hy => by obtain ⟨v, rfl, _⟩ := intM_one _ y hy; rfl) (by simp [intM_length, maxLen]) ⟨OwnL_iff.2 fun y hy => by obtain ⟨v, rfl, h⟩ := intM_one _ y hy; exact h, by rw [intM_blocks]; exact List.nodup_nil⟩).in_ (by simp [addrBlocks]; omega) (HC2.out.below (by (repeat (first | with_reducible assumption | with_reducible exact Below.refl _ _ | with_reducible refine Below.drew ?_ | with_reducible refine belowDrewN ?_ _ | ((with_reducible refine Below.setCell ?_ ?_ _); rotate_left; focus (first | omega | (simp; done) | (simp; omega))) | ((with_reducible refine Below.alloc ?_ ?_ _); rotate_left; focus (first | omega | (simp; done) | (simp; omega)))))))).mono ?_
    rintro e w3 ⟨x, rfl, hx, hc3, ho3⟩
    have hz3 := ho3.size
    simp only [World.size_alloc] at hz3
    have ho3' : OnlyIn pb (pb + 1) w2 w3 := ((OnlyIn.refl _ _ _).new _).trans ho3
    have hm3 := HM2.out.keep (w' := w3) (fun b h1 h2 => ho3'.block b h2 (.inr (by omega)))
    have ho13 := HO12.out.trans ho3'
    have HC3 := Lib.hid hc3; clear hc3; have HO3 := Lib.hid ho3; clear ho3; have HO3' := Lib.hid ho3'; clear ho3'; have HM3 := Lib.hid hm3; clear hm3; have HO13 := Lib.hid ho13; clear ho13; have HX := Lib.hid hx; clear hx
    go_wp2_with (at_builtin; refine wpInts_push (wr := w3) (w1 := w3) rfl _ _ 24 rfl 3 _ Try.underlying24 infoI rfl w.heap.size a1 cap1 L rfl HM3.out (by omega) (Below.refl _ _) x rfl (by omega) ?_)
    intro a4 cap4 w4 hm4 hb4 hz4
    have hc4 := HC3.out.belowB hb4 hpl
    have ho4 := HO13.out.thenBelow hb4
    have HM4 := Lib.hid hm4; clear hm4; have HC4 := Lib.hid hc4; clear hc4; have HO4 := Lib.hid ho4; clear ho4
    go_wp2_with fail
    go_ret
    exact ⟨L ++ [x], a4, cap4, by simp, by simp; omega, (fun z hz => by rcases List.mem_append.1 hz with hz | hz; exact HLS.out z hz; simp at hz; subst hz; have h := HX.out; simp at h; omega), HM4.out, HC4.out, HO4.out⟩
/-- a list of numbers and a number drawn -/
def RetSetN (w : World) (e : Ending) (w' : World) : Prop :=
  ∃ (L : List Int) (a' : Option Addr) (cap' : Nat) (n : Int), e = .returned (.tuple #[.slice a' L.length cap', .int .i64 n]) ∧ L.length ≤ 8 ∧ 0 ≤ n ∧ n ≤ 9 ∧ (M.sl a' cap' 1 3 (intM L)).Mine w' w.heap.size ∧ Below w.heap.size w w'
end Go.Proofs.Ytghbnehocggnnaa

/-
  An element of one's own row whose inner rows have been made anew; pieces of syntax with other sets of scopes. No condition.
-/
set_option linter.unusedVariables false
set_option linter.unusedSimpArgs false
set_option maxRecDepth 100000
namespace Go.Proofs.Ytghbnehocggnnaa
open Go.RowKit

theorem Only.thenN {bs cs : List Nat} {a b c : World} (h : Only bs a b) (k : Only cs b c) (hs : ∀ x ∈ cs, x ∈ bs ∨ a.heap.size ≤ x) : Only bs a c :=
  ⟨k.os.trans h.os, k.tape.trans h.tape, k.output.trans h.output, Nat.le_trans h.size k.size, fun i hi hn => (k.block i (Nat.lt_of_lt_of_le hi h.size) fun hc => by rcases hs i hc with h1 | h1; exact hn h1; omega).trans (h.block i hi hn)⟩
theorem Only.ofIn {lo hi : Nat} {bs : List Nat} {w w' : World} (h : OnlyIn lo hi w w') (hs : ∀ x, lo ≤ x → x < hi → x ∈ bs) : Only bs w w' :=
  ⟨h.os, h.tape, h.output, h.size, fun k hk hn => h.block k hk (by rcases Nat.lt_or_ge k lo with h1 | h1; exact .inl h1; rcases Nat.lt_or_ge k hi with h2 | h2; exact absurd (hs k h1 h2) hn; exact .inr h2)⟩
theorem M.Mine.keep2 {w w' : World} {lo : Nat} {m : M} (h : m.Mine w lo) (hw : ∀ b ∈ m.blocks, w'.heap[b]? = w.heap[b]?) : m.Mine w' lo := ⟨M.Own.frame m h.own hw, h.dup⟩
theorem setCells_Only (g : Nat) {bs : List Nat} (hg : g ∈ bs) {a : World} : ∀ (us : List Value) (w : World) (o : Nat), Only bs a w → Only bs a (setCells w g o us)
  | [], _, _, h => h
  | u :: us, w, o, h => setCells_Only g hg us _ _ (h.setCell (p := ⟨g, o, none⟩) hg u)
/-- Element k's inner rows are others now, its own cells are not. -/
theorem M.Mine.setSubN {w w' : World} {lo g cap sz : Nat} {e : TypeId} {xs : List M} (h : (M.sl (some ⟨g, 0, none⟩) cap sz e xs).Mine w lo) (k : Nat) (hk : k < xs.length) (m : M)
    (hmc : m.cells = (xs[k]).cells) (hm : m.Mine w' lo) (hmb : ∀ b ∈ m.blocks, b ∈ (xs[k]).blocks ∨ w.heap.size ≤ b) {bs : List Nat} (ho : Only bs w w') (hbs : ∀ b ∈ bs, b ∈ (xs[k]).blocks ∨ b < lo) :
    (M.sl (some ⟨g, 0, none⟩) cap sz e (xs.set k m)).Mine w' lo := by
  obtain ⟨g1, hg1, hgl, hgw⟩ := h.addr (by omega)
  simp only [Option.some.injEq, Addr.mk.injEq, and_true] at hg1
  subst hg1
  obtain ⟨⟨⟨hrow, hs, hu⟩, hx⟩, hd⟩ := h
  simp only [M.blocks] at hd
  rw [List.nodup_append] at hd
  obtain ⟨hd1, hd2, hd3⟩ := hd
  have hng : ∀ b ∈ M.blocksL xs, b ≠ g := fun b hb he => hd3 g (by simp [addrBlocks]) b hb he.symm
  have hmem : ∀ b ∈ (xs[k]).blocks, b ∈ M.blocksL xs := fun b hb => mem_blocksL.2 ⟨_, List.getElem_mem hk, hb⟩
  have hxlt := M.OwnL.lt xs hx
  have hd2' := hd2
  rw [blocksL_split xs k hk, List.nodup_append] at hd2'
  obtain ⟨hp1, hp2, hp3⟩ := hd2'
  rw [List.nodup_append] at hp2
  obtain ⟨hq1, hq2, hq3⟩ := hp2
  refine ⟨⟨⟨?_, hs, ?_⟩, ?_⟩, ?_⟩
  · rw [cellsL_set_same xs k m hk hmc, List.length_set]
    refine ownsRow_frame hrow fun b hb => ?_
    simp [addrBlocks] at hb
    subst hb
    refine ho.block _ hgw fun hb => ?_
    rcases hbs _ hb with h1 | h1
    · exact hng _ (hmem _ h1) rfl
    · omega
  · intro x hx2
    rcases List.mem_or_eq_of_mem_set hx2 with h1 | rfl
    · exact hu x h1
    · rw [hmc]; exact hu _ (List.getElem_mem hk)
  · rw [List.set_eq_take_append_cons_drop, if_pos hk]
    rw [M.OwnL_append]
    have hx' := hx
    rw [← List.take_append_drop k xs, List.drop_eq_getElem_cons hk, M.OwnL_append] at hx'
    obtain ⟨ha, _, hc⟩ := hx'
    refine ⟨M.OwnL.frame _ ha fun b hb => ?_, hm.own, M.OwnL.frame _ hc fun b hb => ?_⟩
    · have hl := hxlt b (by rw [blocksL_split xs k hk]; simp [hb])
      refine ho.block b hl.2 fun hn => ?_
      rcases hbs b hn with h1 | h1
      · exact hp3 b hb b (by simp [h1]) rfl
      · omega
    · have hl := hxlt b (by rw [blocksL_split xs k hk]; simp [hb])
      refine ho.block b hl.2 fun hn => ?_
      rcases hbs b hn with h1 | h1
      · exact hq3 b h1 b hb rfl
      · omega
  · simp only [M.blocks]
    rw [List.nodup_append]
    refine ⟨hd1, blocksL_nodup_set xs k m hd2 hm.dup fun b hb => ?_, fun b hb b' hb' he => ?_⟩
    · rcases hmb b hb with h1 | h1
      · exact .inl fun _ => h1
      · exact .inr fun h2 => by have := (hxlt b h2).2; omega
    · simp [addrBlocks] at hb
      subst hb
      obtain ⟨y, hy, hby⟩ := mem_blocksL.1 hb'
      rcases List.mem_or_eq_of_mem_set hy with h1 | rfl
      · exact hng b' (mem_blocksL.2 ⟨y, h1, hby⟩) he.symm
      · rcases hmb b' hby with h1 | h1
        · exact hng b' (hmem _ h1) he.symm
        · omega
def synM (e : TypeId) (k n : Int) (s : ByteArray) (xa : Option Addr) (xc : Nat) (x : List Int) (a : Option Addr) (cap : Nat) (ms : List M) : M := .ag [.c (.int .i64 k), .c (.int .i64 n), .c (.string s), .sl xa xc 1 3 (intM x), .sl a cap 5 e ms]
theorem synM_blocks (e : TypeId) (k n : Int) (s : ByteArray) (xa : Option Addr) (xc : Nat) (x : List Int) (a : Option Addr) (cap : Nat) (ms : List M) : (synM e k n s xa xc x a cap ms).blocks = addrBlocks xa ++ (M.sl a cap 5 e ms).blocks := by
  simp [synM, M.blocks, M.blocksL, intM_blocks]
theorem synM_own {e : TypeId} {k n : Int} {s : ByteArray} {xa : Option Addr} {xc : Nat} {x : List Int} {a : Option Addr} {cap : Nat} {ms : List M} {w : World} {lo : Nat} (h : (synM e k n s xa xc x a cap ms).Mine w lo) : (SynOwn e xa xc x a cap ms).Mine w lo :=
  ⟨h.own.2.2.2, by simpa [synM, SynOwn, M.blocks, M.blocksL] using h.dup⟩
theorem SynOwn_blocks (e : TypeId) (xa : Option Addr) (xc : Nat) (x : List Int) (a : Option Addr) (cap : Nat) (ms : List M) : (SynOwn e xa xc x a cap ms).blocks = addrBlocks xa ++ (M.sl a cap 5 e ms).blocks := by
  simp [SynOwn, M.blocks, M.blocksL, intM_blocks]
theorem SynOwn_dis' {e : TypeId} {xa : Option Addr} {xc : Nat} {x : List Int} {a : Option Addr} {cap : Nat} {ms : List M} {w : World} {lo : Nat} (h : (SynOwn e xa xc x a cap ms).Mine w lo) : ∀ b ∈ (M.sl a cap 5 e ms).blocks, b ∉ addrBlocks xa := by
  intro b hb hn
  have := h.dup
  simp only [SynOwn, M.blocks, M.blocksL, List.append_nil, intM_blocks] at this
  exact (List.nodup_append.1 this).2.2 b hn b (by simpa [M.blocks] using hb) rfl
/-- Element j, a piece of syntax, is written anew behind a call that made its inner rows anew. -/
theorem M.Mine.mixElem {w w' : World} {lo g cap pb j : Nat} {e : TypeId} {xaE : Option Addr} {xcE : Nat} {xE : List Int} {ns : List M} (h : (SynOwn e xaE xcE xE (some ⟨g, 0, none⟩) cap ns).Mine w lo) (hj : j < ns.length)
    {k1 n1 : Int} {s1 : ByteArray} {xa1 : Option Addr} {xc1 : Nat} {x1 : List Int} {a1 : Option Addr} {cap1 : Nat} {ms1 : List M} (hx : ns[j] = synM e k1 n1 s1 xa1 xc1 x1 a1 cap1 ms1)
    {xa2 : Option Addr} {xc2 : Nat} {x2 : List Int} {ms2 : List M} (h2 : (SynOwn e xa2 xc2 x2 a1 cap1 ms2).Mine w' lo) (hl2 : ms2.length = ms1.length) (ho : Only (pb :: (M.sl a1 cap1 5 e ms1).blocks) w w') (hp : pb < lo)
    (hb : ∀ b ∈ (M.sl a1 cap1 5 e ms2).blocks, b ∈ (M.sl a1 cap1 5 e ms1).blocks ∨ w.heap.size ≤ b) (hb' : ∀ b ∈ addrBlocks xa2, b ∈ addrBlocks xa1 ∨ w.heap.size ≤ b) :
    (SynOwn e xaE xcE xE (some ⟨g, 0, none⟩) cap (ns.set j (synM e k1 n1 s1 xa2 xc2 x2 a1 cap1 ms2))).Mine (setCells w' g (j * 5) (synM e k1 n1 s1 xa2 xc2 x2 a1 cap1 ms2).cells) lo ∧
      (∀ b ∈ (M.sl (some ⟨g, 0, none⟩) cap 5 e (ns.set j (synM e k1 n1 s1 xa2 xc2 x2 a1 cap1 ms2))).blocks, b ∈ (M.sl (some ⟨g, 0, none⟩) cap 5 e ns).blocks ∨ w.heap.size ≤ b) := by
  have hms := SynOwn_ms h
  have hxE := SynOwn_x h
  have hdis := SynOwn_dis' h
  obtain ⟨g1, hg1, hgl, hgw⟩ := hms.addr (by omega)
  simp only [Option.some.injEq, Addr.mk.injEq, and_true] at hg1
  subst hg1
  have hin := hms.inner j hj
  have hsz := ho.size
  -- the element as it is behind the call
  have hel : (synM e k1 n1 s1 xa1 xc1 x1 a1 cap1 ms2).cells = (ns[j]).cells := by rw [hx]; simp [synM, M.cells, M.cellsL, hl2]
  rw [hx] at hin
  have hso := synM_own hin
  have hd1 := SynOwn_dis' hso
  have hlt1 := hin.lt
  have hx1 : (M.sl xa1 xc1 1 3 (intM x1)).Mine w' lo := (SynOwn_x hso).only ho fun b hb hn => by
    have hb2 : b ∈ addrBlocks xa1 := by simpa [M.blocks, intM_blocks] using hb
    rcases List.mem_cons.1 hn with rfl | hn
    · have := (hlt1 b (by rw [synM_blocks]; simp [hb2])).1; omega
    · exact hd1 b hn hb2
  have hm2 := SynOwn_ms h2
  have hmid : (synM e k1 n1 s1 xa1 xc1 x1 a1 cap1 ms2).Mine w' lo := by
    refine ⟨⟨rfl, rfl, rfl, hx1.own, hm2.own, trivial⟩, ?_⟩
    rw [synM_blocks]
    refine List.nodup_append.2 ⟨by have := hx1.dup; simpa [M.blocks, intM_blocks] using this, hm2.dup, fun b hb1 b' hb2 he => ?_⟩
    subst he
    rcases hb b hb2 with h3 | h3
    · exact hd1 b h3 hb1
    · have := (hlt1 b (by rw [synM_blocks]; simp [hb1])).2; omega
  have hrow := hms.setSubN j hj (synM e k1 n1 s1 xa1 xc1 x1 a1 cap1 ms2) hel hmid (fun b hb1 => by
    rw [hx, synM_blocks]; rw [synM_blocks] at hb1
    rcases List.mem_append.1 hb1 with h3 | h3
    · exact .inl (by simp [h3])
    · rcases hb b h3 with h4 | h4
      · exact .inl (by simp [h4])
      · exact .inr h4) ho (fun b hb1 => by
    rw [hx, synM_blocks]
    rcases List.mem_cons.1 hb1 with rfl | h3
    · exact .inr hp
    · exact .inl (by simp [h3]))
  have hfin : (synM e k1 n1 s1 xa2 xc2 x2 a1 cap1 ms2).Mine w' lo := by
    refine ⟨⟨rfl, rfl, rfl, (SynOwn_x h2).own, hm2.own, trivial⟩, ?_⟩
    rw [synM_blocks]
    have := h2.dup
    rwa [SynOwn_blocks] at this
  have hlenS : j < (ns.set j (synM e k1 n1 s1 xa1 xc1 x1 a1 cap1 ms2)).length := by simpa using hj
  have hold : ∀ b ∈ M.blocksL (ns.set j (synM e k1 n1 s1 xa1 xc1 x1 a1 cap1 ms2)), b ∈ (synM e k1 n1 s1 xa1 xc1 x1 a1 cap1 ms2).blocks ∨ b ∈ M.blocksL ns := fun b hb1 => by
    obtain ⟨y, hy, hby⟩ := mem_blocksL.1 hb1
    rcases List.mem_or_eq_of_mem_set hy with h1 | rfl
    · exact .inr (mem_blocksL.2 ⟨y, h1, hby⟩)
    · exact .inl hby
  have hnslt : ∀ b ∈ M.blocksL ns, b < w.heap.size := fun b hb1 => (hms.lt b (by simp [M.blocks, hb1])).2
  have hd2 := SynOwn_dis' h2
  have hset := hrow.setElem j hlenS (synM e k1 n1 s1 xa2 xc2 x2 a1 cap1 ms2) (by simp [synM, M.cells, M.cellsL]) hfin (fun b hb1 => by
    rw [List.getElem_set_self, synM_blocks]
    rw [synM_blocks] at hb1
    have hgn : g ∉ M.blocksL (ns.set j (synM e k1 n1 s1 xa1 xc1 x1 a1 cap1 ms2)) := fun hn => by
      have := hrow.dup
      simp only [M.blocks, addrBlocks] at this
      exact (List.nodup_append.1 this).2.2 g (by simp) g hn rfl
    have hgm : ∀ c ∈ (synM e k1 n1 s1 xa1 xc1 x1 a1 cap1 ms2).blocks, c ∈ M.blocksL (ns.set j (synM e k1 n1 s1 xa1 xc1 x1 a1 cap1 ms2)) := fun c hc => mem_blocksL.2 ⟨_, List.mem_set hj _, hc⟩
    rcases List.mem_append.1 hb1 with h3 | h3
    · rcases hb' b h3 with h4 | h4
      · exact ⟨fun he => hgn (he ▸ hgm b (by rw [synM_blocks]; simp [h4])), .inl (by simp [h4])⟩
      · refine ⟨by omega, .inr fun hn => ?_⟩
        rcases hold b hn with h5 | h5
        · rw [synM_blocks] at h5
          rcases List.mem_append.1 h5 with h6 | h6
          · have := (hlt1 b (by rw [synM_blocks]; simp [h6])).2; omega
          · exact hd2 b h6 h3
        · have := hnslt b h5; omega
    · exact ⟨fun he => hgn (he ▸ hgm b (by rw [synM_blocks]; simp [h3])), .inl (by simp [h3])⟩)
  rw [List.set_set] at hset
  have hbl : ∀ b ∈ (M.sl (some ⟨g, 0, none⟩) cap 5 e (ns.set j (synM e k1 n1 s1 xa2 xc2 x2 a1 cap1 ms2))).blocks, b ∈ (M.sl (some ⟨g, 0, none⟩) cap 5 e ns).blocks ∨ w.heap.size ≤ b := fun b hb1 => by
    simp only [M.blocks] at hb1 ⊢
    rcases List.mem_append.1 hb1 with h3 | h3
    · exact .inl (by simp [h3])
    · obtain ⟨y, hy, hby⟩ := mem_blocksL.1 h3
      rcases List.mem_or_eq_of_mem_set hy with h1 | rfl
      · exact .inl (by rw [List.mem_append]; exact .inr (mem_blocksL.2 ⟨y, h1, hby⟩))
      · rw [synM_blocks] at hby
        have hmj : ∀ c ∈ (synM e k1 n1 s1 xa1 xc1 x1 a1 cap1 ms1).blocks, c ∈ addrBlocks (some (⟨g, 0, none⟩ : Addr)) ++ M.blocksL ns := fun c hc => by rw [List.mem_append]; exact .inr (mem_blocksL.2 ⟨_, List.getElem_mem hj, by rw [hx]; exact hc⟩)
        rcases List.mem_append.1 hby with h5 | h5
        · rcases hb' b h5 with h6 | h6
          · exact .inl (hmj b (by rw [synM_blocks]; simp [h6]))
          · exact .inr h6
        · rcases hb b h5 with h6 | h6
          · exact .inl (hmj b (by rw [synM_blocks]; simp [h6]))
          · exact .inr h6
  refine ⟨?_, hbl⟩
  -- the row of scopes beside it
  have hxE' : (M.sl xaE xcE 1 3 (intM xE)).Mine (setCells w' g (j * 5) (synM e k1 n1 s1 xa2 xc2 x2 a1 cap1 ms2).cells) lo := by
    refine ⟨M.Own.frame _ hxE.own fun b hb1 => ?_, hxE.dup⟩
    have hb2 : b ∈ addrBlocks xaE := by simpa [M.blocks, intM_blocks] using hb1
    have hlt := hxE.lt b hb1
    have hbg : b ≠ g := fun he => hdis g (by simp [M.blocks, addrBlocks]) (he ▸ hb2)
    rw [setCells_other g b hbg]
    refine ho.block b hlt.2 fun hn => ?_
    rcases List.mem_cons.1 hn with rfl | hn
    · omega
    · refine hdis b ?_ hb2
      simp only [M.blocks]
      rw [List.mem_append]
      exact .inr (mem_blocksL.2 ⟨_, List.getElem_mem hj, by rw [hx, synM_blocks]; simp [hn]⟩)
  refine ⟨⟨hxE'.own, hset.own, trivial⟩, ?_⟩
  rw [SynOwn_blocks]
  refine List.nodup_append.2 ⟨by have := hxE'.dup; simpa [M.blocks, intM_blocks] using this, hset.dup, fun b hb1 b' hb2 he => ?_⟩
  subst he
  have hlt := hxE.lt b (by simpa [M.blocks, intM_blocks] using hb1)
  rcases hbl b hb2 with h3 | h3
  · exact hdis b h3 hb1
  · omega
end Go.Proofs.Ytghbnehocggnnaa

/-
  The cells of one datum, of one piece of syntax, of one binding, in a block of their own. No condition.
-/
set_option linter.unusedVariables false
set_option linter.unusedSimpArgs false
namespace Go.Proofs.Ytghbnehocggnnaa
open Go.RowKit

/-- a datum's cells at block b -/
structure DBox (b : Nat) (k n : Int) (s : ByteArray) (v : Value) (w : World) : Prop where
  c0 : w.cell? ⟨b, 0, none⟩ = some (.int .i64 k)
  c1 : w.cell? ⟨b, 1, none⟩ = some (.int .i64 n)
  c2 : w.cell? ⟨b, 2, none⟩ = some (.string s)
  c3 : w.cell? ⟨b, 3, none⟩ = some v
  f0 : w.frozen? ⟨b, 0, none⟩ = false
  f1 : w.frozen? ⟨b, 1, none⟩ = false
  f2 : w.frozen? ⟨b, 2, none⟩ = false
  f3 : w.frozen? ⟨b, 3, none⟩ = false
theorem cellNew {w : World} {a : Addr} {v : Value} {o : Obj} (h : w.cell? a = some v) : (w.alloc o).cell? a = some v := by
  rw [World.cell?_of_block (heapNew w o a.block (World.block_lt_of_cell? w a h))]; exact h
theorem cellFar {w : World} {b o g i : Nat} {v u : Value} (h : b ≠ g) (hc : w.cell? ⟨b, o, none⟩ = some v) : (w.setCell ⟨g, i, none⟩ u).cell? ⟨b, o, none⟩ = some v := by
  rw [World.cell?_of_block (a := ⟨b, o, none⟩) (heapSet w ⟨g, i, none⟩ u b h)]; exact hc
theorem far5 {w : World} {b o g i0 i1 i2 i3 i4 : Nat} {v u0 u1 u2 u3 u4 : Value} (h : b ≠ g) (hc : w.cell? ⟨b, o, none⟩ = some v) :
    (((((w.setCell ⟨g, i0, none⟩ u0).setCell ⟨g, i1, none⟩ u1).setCell ⟨g, i2, none⟩ u2).setCell ⟨g, i3, none⟩ u3).setCell ⟨g, i4, none⟩ u4).cell? ⟨b, o, none⟩ = some v :=
  cellFar h (cellFar h (cellFar h (cellFar h (cellFar h hc))))
theorem cellSet_ne {w : World} {b i j : Nat} (v : Value) (h : i ≠ j) : (w.setCell ⟨b, j, none⟩ v).cell? ⟨b, i, none⟩ = w.cell? ⟨b, i, none⟩ := by
  have : (⟨b, i, none⟩ : Addr) ≠ ⟨b, j, none⟩ := by simp [h]
  simp [go_sem, this, h]
theorem frozenSet {w : World} {a c : Addr} (v : Value) : (w.setCell a v).frozen? c = w.frozen? c := by
  simp [go_sem]
theorem DBox.lt {b : Nat} {k n : Int} {s : ByteArray} {v : Value} {w : World} (h : DBox b k n s v w) : b < w.heap.size := World.block_lt_of_cell? w _ h.c0
theorem DBox.of {b : Nat} {k n : Int} {s : ByteArray} {v : Value} {w w' : World} (h : DBox b k n s v w) (hk : w'.heap[b]? = w.heap[b]?) : DBox b k n s v w' :=
  ⟨(World.cell?_of_block hk).trans h.c0, (World.cell?_of_block hk).trans h.c1, (World.cell?_of_block hk).trans h.c2, (World.cell?_of_block hk).trans h.c3,
   (World.frozen?_of_block hk).trans h.f0, (World.frozen?_of_block hk).trans h.f1, (World.frozen?_of_block hk).trans h.f2, (World.frozen?_of_block hk).trans h.f3⟩
theorem DBox.only {b lo hi : Nat} {k n : Int} {s : ByteArray} {v : Value} {w w' : World} (h : DBox b k n s v w) (o : OnlyIn lo hi w w') (hb : b < lo ∨ hi ≤ b) : DBox b k n s v w' := h.of (o.block b h.lt hb)
theorem DBox.below {b B : Nat} {k n : Int} {s : ByteArray} {v : Value} {w w' : World} (h : DBox b k n s v w) (o : Below B w w') (hb : b < B) : DBox b k n s v w' := h.of (o.block b hb)
theorem DBox.far {b : Nat} {k n : Int} {s : ByteArray} {v : Value} {w : World} (h : DBox b k n s v w) {a : Addr} (u : Value) (hb : b ≠ a.block) : DBox b k n s v (w.setCell a u) := h.of (heapSet _ _ _ _ hb)
theorem DBox.new (k n : Int) (s : ByteArray) (v : Value) (w : World) : DBox w.heap.size k n s v (w.alloc (.cells #[.int .i64 k, .int .i64 n, .string s, v] 52)) := by
  constructor <;> simp [go_sem]
theorem DBox.set3 {b : Nat} {k n : Int} {s : ByteArray} {v : Value} {w : World} (h : DBox b k n s v w) (u : Value) : DBox b k n s u (w.setCell ⟨b, 3, none⟩ u) :=
  ⟨(cellSet_ne u (by decide)).trans h.c0, (cellSet_ne u (by decide)).trans h.c1, (cellSet_ne u (by decide)).trans h.c2, by rw [cell?_setCell_eq, h.c3]; rfl,
   (frozenSet u).trans h.f0, (frozenSet u).trans h.f1, (frozenSet u).trans h.f2, (frozenSet u).trans h.f3⟩
theorem DBox.set2 {b : Nat} {k n : Int} {s : ByteArray} {v : Value} {w : World} (h : DBox b k n s v w) (u : ByteArray) : DBox b k n u v (w.setCell ⟨b, 2, none⟩ (.string u)) :=
  ⟨(cellSet_ne _ (by decide)).trans h.c0, (cellSet_ne _ (by decide)).trans h.c1, by rw [cell?_setCell_eq, h.c2]; rfl, (cellSet_ne _ (by decide)).trans h.c3,
   (frozenSet _).trans h.f0, (frozenSet _).trans h.f1, (frozenSet _).trans h.f2, (frozenSet _).trans h.f3⟩

/-- a piece of syntax's cells at block b -/
structure SBox (b : Nat) (k n : Int) (s : ByteArray) (x v : Value) (w : World) : Prop where
  c0 : w.cell? ⟨b, 0, none⟩ = some (.int .i64 k)
  c1 : w.cell? ⟨b, 1, none⟩ = some (.int .i64 n)
  c2 : w.cell? ⟨b, 2, none⟩ = some (.string s)
  c3 : w.cell? ⟨b, 3, none⟩ = some x
  c4 : w.cell? ⟨b, 4, none⟩ = some v
  f0 : w.frozen? ⟨b, 0, none⟩ = false
  f1 : w.frozen? ⟨b, 1, none⟩ = false
  f2 : w.frozen? ⟨b, 2, none⟩ = false
  f3 : w.frozen? ⟨b, 3, none⟩ = false
  f4 : w.frozen? ⟨b, 4, none⟩ = false
theorem SBox.lt {b : Nat} {k n : Int} {s : ByteArray} {x v : Value} {w : World} (h : SBox b k n s x v w) : b < w.heap.size := World.block_lt_of_cell? w _ h.c0
theorem SBox.of {b : Nat} {k n : Int} {s : ByteArray} {x v : Value} {w w' : World} (h : SBox b k n s x v w) (hk : w'.heap[b]? = w.heap[b]?) : SBox b k n s x v w' :=
  ⟨(World.cell?_of_block hk).trans h.c0, (World.cell?_of_block hk).trans h.c1, (World.cell?_of_block hk).trans h.c2, (World.cell?_of_block hk).trans h.c3, (World.cell?_of_block hk).trans h.c4,
   (World.frozen?_of_block hk).trans h.f0, (World.frozen?_of_block hk).trans h.f1, (World.frozen?_of_block hk).trans h.f2, (World.frozen?_of_block hk).trans h.f3, (World.frozen?_of_block hk).trans h.f4⟩
theorem SBox.only {b lo hi : Nat} {k n : Int} {s : ByteArray} {x v : Value} {w w' : World} (h : SBox b k n s x v w) (o : OnlyIn lo hi w w') (hb : b < lo ∨ hi ≤ b) : SBox b k n s x v w' := h.of (o.block b h.lt hb)
theorem SBox.below {b B : Nat} {k n : Int} {s : ByteArray} {x v : Value} {w w' : World} (h : SBox b k n s x v w) (o : Below B w w') (hb : b < B) : SBox b k n s x v w' := h.of (o.block b hb)
theorem SBox.far {b : Nat} {k n : Int} {s : ByteArray} {x v : Value} {w : World} (h : SBox b k n s x v w) {a : Addr} (u : Value) (hb : b ≠ a.block) : SBox b k n s x v (w.setCell a u) := h.of (heapSet _ _ _ _ hb)
theorem SBox.new (k n : Int) (s : ByteArray) (x v : Value) (w : World) : SBox w.heap.size k n s x v (w.alloc (.cells #[.int .i64 k, .int .i64 n, .string s, x, v] 27)) := by
  constructor <;> simp [go_sem]
theorem SBox.set5 {b : Nat} {k n : Int} {s : ByteArray} {x v : Value} {w : World} (h : SBox b k n s x v w) (k' n' : Int) (s' : ByteArray) (x' v' : Value) :
    SBox b k' n' s' x' v' (((((w.setCell ⟨b, 0, none⟩ (.int .i64 k')).setCell ⟨b, 1, none⟩ (.int .i64 n')).setCell ⟨b, 2, none⟩ (.string s')).setCell ⟨b, 3, none⟩ x').setCell ⟨b, 4, none⟩ v') := by
  have here : ∀ (W : World) (i : Nat) (u y : Value), W.cell? ⟨b, i, none⟩ = some y → (W.setCell ⟨b, i, none⟩ u).cell? ⟨b, i, none⟩ = some u := fun W i u y hy => by rw [cell?_setCell_eq, hy]; rfl
  have far : ∀ (W : World) (i j : Nat) (u y : Value), i ≠ j → W.cell? ⟨b, i, none⟩ = some y → (W.setCell ⟨b, j, none⟩ u).cell? ⟨b, i, none⟩ = some y := fun W i j u y hij hy => (cellSet_ne u hij).trans hy
  constructor
  · exact far _ _ _ _ _ (by decide) (far _ _ _ _ _ (by decide) (far _ _ _ _ _ (by decide) (far _ _ _ _ _ (by decide) (here _ _ _ _ h.c0))))
  · exact far _ _ _ _ _ (by decide) (far _ _ _ _ _ (by decide) (far _ _ _ _ _ (by decide) (here _ _ _ _ (far _ _ _ _ _ (by decide) h.c1))))
  · exact far _ _ _ _ _ (by decide) (far _ _ _ _ _ (by decide) (here _ _ _ _ (far _ _ _ _ _ (by decide) (far _ _ _ _ _ (by decide) h.c2))))
  · exact far _ _ _ _ _ (by decide) (here _ _ _ _ (far _ _ _ _ _ (by decide) (far _ _ _ _ _ (by decide) (far _ _ _ _ _ (by decide) h.c3))))
  · exact here _ _ _ _ (far _ _ _ _ _ (by decide) (far _ _ _ _ _ (by decide) (far _ _ _ _ _ (by decide) (far _ _ _ _ _ (by decide) h.c4))))
  all_goals simp only [frozenSet]
  · exact h.f0
  · exact h.f1
  · exact h.f2
  · exact h.f3
  · exact h.f4
theorem SBox.set4 {b : Nat} {k n : Int} {s : ByteArray} {x v : Value} {w : World} (h : SBox b k n s x v w) (u : Value) : SBox b k n s x u (w.setCell ⟨b, 4, none⟩ u) :=
  ⟨(cellSet_ne u (by decide)).trans h.c0, (cellSet_ne u (by decide)).trans h.c1, (cellSet_ne u (by decide)).trans h.c2, (cellSet_ne u (by decide)).trans h.c3, by rw [cell?_setCell_eq, h.c4]; rfl,
   (frozenSet u).trans h.f0, (frozenSet u).trans h.f1, (frozenSet u).trans h.f2, (frozenSet u).trans h.f3, (frozenSet u).trans h.f4⟩
theorem SBox.set3 {b : Nat} {k n : Int} {s : ByteArray} {x v : Value} {w : World} (h : SBox b k n s x v w) (u : Value) : SBox b k n s u v (w.setCell ⟨b, 3, none⟩ u) :=
  ⟨(cellSet_ne u (by decide)).trans h.c0, (cellSet_ne u (by decide)).trans h.c1, (cellSet_ne u (by decide)).trans h.c2, by rw [cell?_setCell_eq, h.c3]; rfl, (cellSet_ne u (by decide)).trans h.c4,
   (frozenSet u).trans h.f0, (frozenSet u).trans h.f1, (frozenSet u).trans h.f2, (frozenSet u).trans h.f3, (frozenSet u).trans h.f4⟩
/-- a binding's cells at block b -/
structure BBox (b : Nat) (s : ByteArray) (x : Value) (k n : Int) (w : World) : Prop where
  c0 : w.cell? ⟨b, 0, none⟩ = some (.string s)
  c1 : w.cell? ⟨b, 1, none⟩ = some x
  c2 : w.cell? ⟨b, 2, none⟩ = some (.int .i64 k)
  c3 : w.cell? ⟨b, 3, none⟩ = some (.int .i64 n)
  f0 : w.frozen? ⟨b, 0, none⟩ = false
  f1 : w.frozen? ⟨b, 1, none⟩ = false
  f2 : w.frozen? ⟨b, 2, none⟩ = false
  f3 : w.frozen? ⟨b, 3, none⟩ = false
theorem BBox.lt {b : Nat} {k n : Int} {s : ByteArray} {x : Value} {w : World} (h : BBox b s x k n w) : b < w.heap.size := World.block_lt_of_cell? w _ h.c0
theorem BBox.of {b : Nat} {k n : Int} {s : ByteArray} {x : Value} {w w' : World} (h : BBox b s x k n w) (hk : w'.heap[b]? = w.heap[b]?) : BBox b s x k n w' :=
  ⟨(World.cell?_of_block hk).trans h.c0, (World.cell?_of_block hk).trans h.c1, (World.cell?_of_block hk).trans h.c2, (World.cell?_of_block hk).trans h.c3,
   (World.frozen?_of_block hk).trans h.f0, (World.frozen?_of_block hk).trans h.f1, (World.frozen?_of_block hk).trans h.f2, (World.frozen?_of_block hk).trans h.f3⟩
theorem BBox.only {b lo hi : Nat} {k n : Int} {s : ByteArray} {x : Value} {w w' : World} (h : BBox b s x k n w) (o : OnlyIn lo hi w w') (hb : b < lo ∨ hi ≤ b) : BBox b s x k n w' := h.of (o.block b h.lt hb)
theorem BBox.below {b B : Nat} {k n : Int} {s : ByteArray} {x : Value} {w w' : World} (h : BBox b s x k n w) (o : Below B w w') (hb : b < B) : BBox b s x k n w' := h.of (o.block b hb)
theorem BBox.far {b : Nat} {k n : Int} {s : ByteArray} {x : Value} {w : World} (h : BBox b s x k n w) {a : Addr} (u : Value) (hb : b ≠ a.block) : BBox b s x k n (w.setCell a u) := h.of (heapSet _ _ _ _ hb)
theorem BBox.new (s : ByteArray) (x : Value) (k n : Int) (w : World) : BBox w.heap.size s x k n (w.alloc (.cells #[.string s, x, .int .i64 k, .int .i64 n] 33)) := by
  constructor <;> simp [go_sem]
end Go.Proofs.Ytghbnehocggnnaa

/-
  Walks: scopes drawn into a piece of syntax, in place. No condition. (printed by wip/tools/mkmix.py)
-/

set_option linter.unusedVariables false
set_option linter.unusedSimpArgs false
set_option maxRecDepth 100000
namespace Go.Proofs.Ytghbnehocggnnaa
open Go.RowKit

mutual
def Mix : Syn → Syn → Prop
  | .mk k n s x ds, .mk k' n' s' x' ds' => k' = k ∧ n' = n ∧ s' = s ∧ (x' = x ∨ x'.length ≤ 7 ∧ Small x') ∧ MixL ds ds'
def MixL : List Syn → List Syn → Prop
  | [], ds' => ds' = []
  | d :: r, ds' => ∃ d' r', ds' = d' :: r' ∧ Mix d d' ∧ MixL r r'
end
theorem MixL.length : ∀ {ds es : List Syn}, MixL ds es → es.length = ds.length
  | [], _, h => by simp [MixL] at h; simp [h]
  | d :: r, es, h => by
    obtain ⟨d', r', rfl, _, h2⟩ := h
    simp [MixL.length h2]
theorem MixL.snoc {d d' : Syn} (hd : Mix d d') : ∀ {ds es : List Syn}, MixL ds es → MixL (ds ++ [d]) (es ++ [d'])
  | [], _, h => by simp [MixL] at h; subst h; exact ⟨d', [], rfl, hd, rfl⟩
  | x :: r, es, h => by
    obtain ⟨y, r', rfl, h1, h2⟩ := h
    exact ⟨y, r' ++ [d'], rfl, h1, MixL.snoc hd h2⟩
def RetMix (k n : Int) (s : ByteArray) (x : List Int) (ds : List Syn) (xa : Option Addr) (a : Option Addr) (cap : Nat) (ms : List M) (pb : Nat) (ca : Option Addr) (cc : Nat) (l : List Int) (lo : Nat) (w : World) (e : Ending) (w' : World) : Prop :=
  ∃ x' xa' xc' ds' ms', e = .returned (.agg #[.int .i64 k, .int .i64 n, .string s, .slice xa' x'.length xc', .slice a ms'.length cap]) ∧ ms'.length = ms.length ∧ (x' = x ∨ x'.length ≤ 7 ∧ Small x') ∧ MixL ds ds' ∧ Syn.IsL 27 ds' ms' ∧
    (SynOwn 27 xa' xc' x' a cap ms').Mine w' lo ∧ Cur pb ca cc l w' ∧ Only (pb :: (M.sl a cap 5 27 ms).blocks) w w' ∧
    (∀ b ∈ (M.sl a cap 5 27 ms').blocks, b ∈ (M.sl a cap 5 27 ms).blocks ∨ w.heap.size ≤ b) ∧ (∀ b ∈ addrBlocks xa', b ∈ addrBlocks xa ∨ w.heap.size ≤ b)
def MixSs (ds : List Syn) : Prop := ∀ (k n : Int) (s : ByteArray) (x : List Int) (xa : Option Addr) (xc : Nat) (a : Option Addr) (cap : Nat) (ms : List M) (pb : Nat) (ca : Option Addr) (cc : Nat) (l : List Int) (lo : Nat) (w : World),
    Syn.IsL 27 ds ms → (SynOwn 27 xa xc x a cap ms).Mine w lo → Cur pb ca cc l w → pb < lo → lo ≤ w.heap.size →
    Calls Try.prog 114 #[.pointer (some ⟨pb, 0, none⟩), .agg #[.int .i64 k, .int .i64 n, .string s, .slice xa x.length xc, .slice a ms.length cap]] w (RetMix k n s x ds xa a cap ms pb ca cc l lo w)
theorem SynOwn_swapX {e : TypeId} {xa xa' : Option Addr} {xc xc' : Nat} {x x' : List Int} {a : Option Addr} {cap : Nat} {ms : List M} {w' : World} {lo c : Nat} (h : (SynOwn e xa xc x a cap ms).Mine w' lo) (h2 : (M.sl xa' xc' 1 3 (intM x')).Mine w' c) (hl : lo ≤ c) (hb : ∀ b ∈ (M.sl a cap 5 e ms).blocks, b < c) : (SynOwn e xa' xc' x' a cap ms).Mine w' lo :=
  ⟨⟨(h2.mono hl).own, (SynOwn_ms h).own, trivial⟩, by
    rw [SynOwn_blocks]
    refine List.nodup_append.2 ⟨by have := h2.dup; simpa [M.blocks, intM_blocks] using this, (SynOwn_ms h).dup, fun b hb1 b' hb2 he => ?_⟩
    subst he
    have := (h2.lt b (by simpa [M.blocks, intM_blocks] using hb1)).1
    have := hb b hb2
    omega⟩
theorem synM_cells (e : TypeId) (k n : Int) (s : ByteArray) (xa : Option Addr) (xc : Nat) (x : List Int) (a : Option Addr) (cap : Nat) (ms : List M) : (synM e k n s xa xc x a cap ms).cells = [.int .i64 k, .int .i64 n, .string s, .slice xa x.length xc, .slice a ms.length cap] := by
  simp [synM, M.cells, M.cellsL, intM_length]
theorem setCells5 (w : World) (g o : Nat) (u0 u1 u2 u3 u4 : Value) : setCells w g o [u0, u1, u2, u3, u4] = (((((w.setCell ⟨g, o, none⟩ u0).setCell ⟨g, o + 1, none⟩ u1).setCell ⟨g, o + 2, none⟩ u2).setCell ⟨g, o + 3, none⟩ u3).setCell ⟨g, o + 4, none⟩ u4) := rfl
set_option maxHeartbeats 16000000 in
theorem l2Mixed_calls : ∀ ds, MixSs ds := by
  refine Syn.inductL fun ds ih => ?_
  intro k n s x xa xc a cap ms pb ca cc l lo w hi hm hc hpl hlo
  have hpw := hc.lt
  have hln := hi.length
  have hcapm := (SynOwn_ms hm).in_.len
  have hxl := Ints.len (SynOwn_x hm).in_
  have hblk : ∀ b ∈ (M.sl a cap 5 27 ms).blocks, b < w.heap.size := fun b hb => ((SynOwn_ms hm).lt b hb).2
  by_cases hk : k = 1
  · subst hk
    have IH := Lib.hid ih; clear ih; have HI := Lib.hid hi; clear hi; have HM := Lib.hid hm; clear hm; have HC := Lib.hid hc; clear hc; have HLN := Lib.hid hln; clear hln; have HBLK := Lib.hid hblk; clear hblk
    go_enter Try.func114, Try.ntmps114
    go_wp2_with fail
    refine (l01Once_calls 2 pb ca cc l _ (HC.out.below (by (repeat (first | with_reducible assumption | with_reducible exact Below.refl _ _ | with_reducible refine Below.drew ?_ | with_reducible refine belowDrewN ?_ _ | ((with_reducible refine Below.setCell ?_ ?_ _); rotate_left; focus (first | omega | (simp; done) | (simp; omega))) | ((with_reducible refine Below.alloc ?_ ?_ _); rotate_left; focus (first | omega | (simp; done) | (simp; omega))))))) (by decide) (by decide)).mono ?_
    rintro e w1 ⟨bb, rfl, hc1, ho1⟩
    have hz1 := ho1.size
    simp only [World.size_alloc] at hz1
    have hq1 : SBox w.heap.size 1 n s (.slice xa x.length xc) (.slice a ms.length cap) w1 := (((SBox.new 1 n s _ _ w).of (heapNew _ _ _ (by simp))).only ho1 (.inr (by omega)))
    have hr1 : SBox (w.heap.size + 1) 0 0 ⟨#[]⟩ (.slice none 0 0) (.slice none 0 0) w1 := by
      have := SBox.new 0 0 ⟨#[]⟩ (.slice none 0 0) (.slice none 0 0) (w.alloc (.cells #[.int .i64 1, .int .i64 n, .string s, .slice xa x.length xc, .slice a ms.length cap] 27))
      rw [World.size_alloc] at this
      exact this.only ho1 (.inr (by omega))
    have ho1' : Only [pb] w w1 := ((Only.refl _ w).alloc _ |>.alloc _).thenN (Only.ofIn ho1 (fun x h1 h2 => by simp; omega)) (fun x hx => .inl hx)
    have hm1 := HM.out.only ho1' (fun b hb hn => by have := (HM.out.lt b hb).1; simp at hn; omega)
    have HC1 := Lib.hid hc1; clear hc1; have HO1 := Lib.hid ho1; clear ho1; have HQ1 := Lib.hid hq1; clear hq1; have HR1 := Lib.hid hr1; clear hr1; have HO1' := Lib.hid ho1'; clear ho1'; have HM1 := Lib.hid hm1; clear hm1
    cases bb with
    | false =>
      obtain ⟨⟨q0, q1, q2, q3, q4, e0, e1, e2, e3, e4⟩, ⟨r0, r1, r2, r3, r4, g0, g1, g2, g3, g4⟩⟩ := And.intro HQ1.out HR1.out
      go_wp2_with fail
      go_loopw [19] (fun i wr => ∃ (j : Nat) (ns : List M) (pre : List Syn), j ≤ ms.length ∧ i = .int .i64 j ∧ ns.length = ms.length ∧ MixL (ds.take j) pre ∧ Syn.IsL 27 (pre ++ ds.drop j) ns ∧ (SynOwn 27 xa xc x a cap ns).Mine wr lo ∧
        (∀ b ∈ (M.sl a cap 5 27 ns).blocks, b ∈ (M.sl a cap 5 27 ms).blocks ∨ w.heap.size + 1 + 1 ≤ b) ∧ Cur pb ca cc l wr ∧ SBox w.heap.size 1 n s (.slice xa x.length xc) (.slice a ms.length cap) wr ∧ SBox (w.heap.size + 1) 0 0 ⟨#[]⟩ (.slice none 0 0) (.slice none 0 0) wr ∧ Only (pb :: (M.sl a cap 5 27 ms).blocks) w wr ∧ w.heap.size + 1 + 1 ≤ wr.heap.size) (fun i _ => ms.length - (intOf i).toNat)
      case atStart => exact ⟨0, ms, [], Nat.zero_le _, rfl, rfl, rfl, HI.out, HM1.out, fun b hb => .inl hb, HC1.out, HQ1.out, HR1.out, (HO1'.out).mono (fun x hx => by simp at hx; simp [hx]), HR1.out.lt⟩
      case round =>
        (try clear q0 q1 q2 q3 q4 e0 e1 e2 e3 e4)
        (try clear r0 r1 r2 r3 r4 g0 g1 g2 g3 g4)
        obtain ⟨j, ns, pre, hj, rfl, hnl, hmx, hi', hm', hbl, hcr, hq, hr, ho, hsz⟩ := hrel
        obtain ⟨q0, q1, q2, q3, q4, e0, e1, e2, e3, e4⟩ := hq
        obtain ⟨r0, r1, r2, r3, r4, g0, g1, g2, g3, g4⟩ := hr
        by_cases hlt : j < ms.length
        · have hjd : j < ds.length := by have := HLN.out; omega
          have hjn : j < ns.length := by omega
          have hpl1 := hmx.length
          rw [List.length_take, Nat.min_eq_left (by omega)] at hpl1
          have hdj : ds[j]? = some ds[j] := List.getElem?_eq_getElem hjd
          have hmem : ds[j] ∈ ds := List.getElem_mem hjd
          have hg := hi'.get j (by rw [List.length_append, List.length_drop]; omega) hjn
          have hge : (pre ++ ds.drop j)[j]'(by rw [List.length_append, List.length_drop]; omega) = ds[j] := by
            rw [List.getElem_append_right (by omega)]
            simp [hpl1]
          rw [hge] at hg
          generalize hd1 : ds[j] = d1 at *
          obtain ⟨k1, n1, s1, x1, ds1⟩ := d1
          obtain ⟨xa1, xc1, a1, cap1, ms1, hmj, hi1⟩ := hg
          obtain ⟨g, rfl, hlg, hgw⟩ := (SynOwn_ms hm').addr (by omega)
          obtain ⟨⟨v0, t0⟩, f0⟩ := (SynOwn_ms hm').row (j * 5) (by omega)
          obtain ⟨⟨v1, t1⟩, f1⟩ := (SynOwn_ms hm').row (j * 5 + 1) (by omega)
          obtain ⟨⟨v2, t2⟩, f2⟩ := (SynOwn_ms hm').row (j * 5 + 2) (by omega)
          obtain ⟨⟨v3, t3⟩, f3⟩ := (SynOwn_ms hm').row (j * 5 + 3) (by omega)
          obtain ⟨⟨v4, t4⟩, f4⟩ := (SynOwn_ms hm').row (j * 5 + 4) (by omega)
          clear t0 t1 t2 t3 t4
          obtain ⟨bb, oo, hg0, hel⟩ := (SynOwn_ms hm').in_.elem (by omega)
          obtain ⟨rfl, rfl⟩ : g = bb ∧ oo = 0 := by simp only [Option.some.injEq, Addr.mk.injEq, and_true] at hg0; exact ⟨hg0.1, hg0.2.symm⟩
          have c0 := hel j hjn 0 (.int .i64 k1) (by rw [hmj]; rfl)
          have c1 := hel j hjn 1 (.int .i64 n1) (by rw [hmj]; rfl)
          have c2 := hel j hjn 2 (.string s1) (by rw [hmj]; rfl)
          have c3 := hel j hjn 3 (.slice xa1 (intM x1).length xc1) (by rw [hmj]; rfl)
          have c4 := hel j hjn 4 (.slice a1 ms1.length cap1) (by rw [hmj]; rfl)
          simp only [Nat.zero_add, Nat.add_zero, intM_length] at c0 c1 c2 c3 c4
          clear hel hg0
          have hin := (SynOwn_ms hm').inner j hjn
          rw [hmj] at hin
          have hso : (SynOwn 27 xa1 xc1 x1 a1 cap1 ms1).Mine wr.drew lo := (synM_own (k := k1) (n := n1) (s := s1) hin).keep (fun b _ _ => rfl)
          have hcd : Cur pb ca cc l wr.drew := hcr.below ((Below.refl _ _).drew)
          have hmd : (SynOwn 27 xa xc x (some ⟨g, 0, none⟩) cap ns).Mine wr.drew lo := hm'.keep (fun b _ _ => rfl)
          have hsubr : ∀ b ∈ (M.sl a1 cap1 5 27 ms1).blocks, b ∈ (M.sl (some ⟨g, 0, none⟩) cap 5 27 ns).blocks := fun b hb => by
            simp only [M.blocks]
            rw [List.mem_append]
            exact .inr (mem_blocksL.2 ⟨_, List.getElem_mem hjn, by rw [hmj]; simp only [M.blocks, M.blocksL, List.append_nil, List.nil_append] at hb ⊢; simp [hb]⟩)
          have hgn : g ∉ (M.sl a1 cap1 5 27 ms1).blocks := fun hb => by
            have hd := (SynOwn_ms hm').dup
            simp only [M.blocks, addrBlocks] at hd
            exact (List.nodup_append.1 hd).2.2 g (by simp) g (mem_blocksL.2 ⟨_, List.getElem_mem hjn, by rw [hmj]; simp only [M.blocks, M.blocksL, List.append_nil, List.nil_append] at hb ⊢; simp [hb]⟩) rfl
          have hgo : g ∈ (M.sl (some ⟨g, 0, none⟩) cap 5 27 ms).blocks := by simp [M.blocks, addrBlocks]
          have hgp : g ≠ pb := by omega
          have hgW : g < w.heap.size := HBLK.out g hgo
          have hbox : ∀ b, (b = w.heap.size ∨ b = w.heap.size + 1) → b ∉ pb :: (M.sl a1 cap1 5 27 ms1).blocks := fun b hb hn => by
            rcases List.mem_cons.1 hn with h1 | h1
            · omega
            · rcases hbl b (hsubr b h1) with h2 | h2
              · have := HBLK.out b h2; omega
              · omega
          have hlod : lo ≤ wr.drew.heap.size := by rw [World.size_drew]; omega
          clear hge
          have hcall := IH.out k1 n1 s1 x1 ds1 hmem k1 n1 s1 x1 xa1 xc1 a1 cap1 ms1 pb ca cc l lo wr.drew hi1 hso hcd hpl hlod
          have HCALL := Lib.hid hcall; clear hcall; have HMX := Lib.hid hmx; clear hmx; have HI' := Lib.hid hi'; clear hi'; have HM' := Lib.hid hm'; clear hm'; have HBL := Lib.hid hbl; clear hbl; have HCR := Lib.hid hcr; clear hcr; have HO := Lib.hid ho; clear ho; have HDJ := Lib.hid hdj; clear hdj; have HMEM := Lib.hid hmem; clear hmem; have HMJ := Lib.hid hmj; clear hmj; have HI1 := Lib.hid hi1; clear hi1; have HIN := Lib.hid hin; clear hin; have HSO := Lib.hid hso; clear hso; have HCD := Lib.hid hcd; clear hcd; have HMD := Lib.hid hmd; clear hmd; have HSUBR := Lib.hid hsubr; clear hsubr; have HGN := Lib.hid hgn; clear hgn; have HGO := Lib.hid hgo; clear hgo; have HBOX := Lib.hid hbox; clear hbox; have HPL1 := Lib.hid hpl1; clear hpl1; have HNL := Lib.hid hnl; clear hnl; have HD1 := Lib.hid hd1; clear hd1; have HLOD := Lib.hid hlod; clear hlod
          go_wp2_with fail
          go_region_law (first
            | (go_simp; go_at_call 114; (with_reducible refine HCALL.out.mono ?_); rintro e w5 ⟨x2, xa2, xc2, ds2, ms2, rfl, hl2, hx2, hmx2, hi2, hm2, hc2', ho2', hb2, hb2'⟩; have hgk : w5.heap[g]? = wr.heap[g]? := (ho2'.block g hgw (by intro hn; rcases List.mem_cons.1 hn with h1 | h1; exact hgp h1; exact HGN.out h1)); have hqk : w5.heap[w.heap.size]? = wr.heap[w.heap.size]? := (ho2'.block _ (by simp; omega) (HBOX.out _ (.inl rfl))); have d0 := (World.cell?_of_block (a := ⟨g, j * 5, none⟩) hgk).trans c0; have d1 := (World.cell?_of_block (a := ⟨g, j * 5 + 1, none⟩) hgk).trans c1; have d2 := (World.cell?_of_block (a := ⟨g, j * 5 + 2, none⟩) hgk).trans c2; have d3 := (World.cell?_of_block (a := ⟨g, j * 5 + 3, none⟩) hgk).trans c3; have d4 := (World.cell?_of_block (a := ⟨g, j * 5 + 4, none⟩) hgk).trans c4; have k0 := (World.frozen?_of_block (a := ⟨g, j * 5, none⟩) hgk).trans f0; have k1' := (World.frozen?_of_block (a := ⟨g, j * 5 + 1, none⟩) hgk).trans f1; have k2' := (World.frozen?_of_block (a := ⟨g, j * 5 + 2, none⟩) hgk).trans f2; have k3' := (World.frozen?_of_block (a := ⟨g, j * 5 + 3, none⟩) hgk).trans f3; have k4' := (World.frozen?_of_block (a := ⟨g, j * 5 + 4, none⟩) hgk).trans f4; have q4c := (World.cell?_of_block (a := ⟨w.heap.size, 4, none⟩) hqk).trans q4; have HX2 := Lib.hid hx2; have HMX2 := Lib.hid hmx2; have HI2 := Lib.hid hi2; have HM2' := Lib.hid hm2; have HC2' := Lib.hid hc2'; have HO2' := Lib.hid ho2'; have HB2 := Lib.hid hb2; have HB2' := Lib.hid hb2'; have HL2 := Lib.hid hl2; clear hx2 hmx2 hi2 hm2 hc2' ho2' hb2 hb2' hl2))
          all_goals
            obtain ⟨hfin, hfb⟩ := M.Mine.mixElem HMD.out hjn (k1 := k1) (n1 := n1) (s1 := s1) HMJ.out HM2'.out HL2.out HO2'.out hpl HB2.out HB2'.out
            have hO5 : Only (pb :: (M.sl (some ⟨g, 0, none⟩) cap 5 27 ms).blocks) w w5 := HO.out.thenN (c := w5) ((Only.refl _ wr).drewN 1 |>.thenN HO2'.out (fun x hx => .inl hx)) (fun x hx => by
              rcases List.mem_cons.1 hx with h1 | h1
              · exact .inl (by simp [h1])
              · rcases HBL.out x (HSUBR.out x h1) with h2 | h2
                · exact .inl (List.mem_cons_of_mem _ h2)
                · exact .inr (by omega))
            have hO6 := setCells_Only g (List.mem_cons_of_mem pb HGO.out) (synM 27 k1 n1 s1 xa2 xc2 x2 a1 cap1 ms2).cells w5 (j * 5) hO5
            have hz5 := HO2'.out.size
            rw [World.size_drew] at hz5
            have hcF : Cur pb ca cc l (setCells w5 g (j * 5) (synM 27 k1 n1 s1 xa2 xc2 x2 a1 cap1 ms2).cells) := HC2'.out.belowB (B := lo) ((setCells_Only g (bs := [g]) (by simp) _ _ _ (Only.refl _ w5)).below (by omega) (by simp; omega)) hpl
            have hqF : SBox w.heap.size 1 n s (.slice xa x.length xc) (.slice (some ⟨g, 0, none⟩) ms.length cap) (setCells w5 g (j * 5) (synM 27 k1 n1 s1 xa2 xc2 x2 a1 cap1 ms2).cells) := (SBox.of ⟨q0, q1, q2, q3, q4, e0, e1, e2, e3, e4⟩ (HO2'.out.block _ (by simp; omega) (HBOX.out _ (.inl rfl)))).of (setCells_other g _ (by omega) _ _ _)
            have hrF : SBox (w.heap.size + 1) 0 0 ⟨#[]⟩ (.slice none 0 0) (.slice none 0 0) (setCells w5 g (j * 5) (synM 27 k1 n1 s1 xa2 xc2 x2 a1 cap1 ms2).cells) := (SBox.of ⟨r0, r1, r2, r3, r4, g0, g1, g2, g3, g4⟩ (HO2'.out.block _ (by simp; omega) (HBOX.out _ (.inr rfl)))).of (setCells_other g _ (by omega) _ _ _)
            have hmF : MixL (ds.take (j + 1)) (pre ++ [.mk k1 n1 s1 x2 ds2]) := by
              rw [take_snoc HDJ.out]; exact MixL.snoc (d := .mk k1 n1 s1 x1 ds1) (d' := .mk k1 n1 s1 x2 ds2) ⟨rfl, rfl, rfl, HX2.out, HMX2.out⟩ HMX.out
            have hiF : Syn.IsL 27 ((pre ++ [.mk k1 n1 s1 x2 ds2]) ++ ds.drop (j + 1)) (ns.set j (synM 27 k1 n1 s1 xa2 xc2 x2 a1 cap1 ms2)) := by
              have h := HI'.out.set j (d := .mk k1 n1 s1 x2 ds2) (m := synM 27 k1 n1 s1 xa2 xc2 x2 a1 cap1 ms2) ⟨xa2, xc2, a1, cap1, ms2, rfl, HI2.out⟩
              rwa [List.set_append, if_neg (by have := HPL1.out; omega), HPL1.out, Nat.sub_self, List.drop_eq_getElem_cons hjd, List.set_cons_zero, ← List.singleton_append, ← List.append_assoc] at h
            have hbF : ∀ b ∈ (M.sl (some ⟨g, 0, none⟩) cap 5 27 (ns.set j (synM 27 k1 n1 s1 xa2 xc2 x2 a1 cap1 ms2))).blocks, b ∈ (M.sl (some ⟨g, 0, none⟩) cap 5 27 ms).blocks ∨ w.heap.size + 1 + 1 ≤ b := fun b hb => by
              rcases hfb b hb with h1 | h1
              · exact HBL.out b h1
              · rw [World.size_drew] at h1; exact .inr (by omega)
            have hnF : (ns.set j (synM 27 k1 n1 s1 xa2 xc2 x2 a1 cap1 ms2)).length = ms.length := by rw [List.length_set]; exact HNL.out
            have hzF : w.heap.size + 1 + 1 ≤ (setCells w5 g (j * 5) (synM 27 k1 n1 s1 xa2 xc2 x2 a1 cap1 ms2).cells).heap.size := by rw [setCells_size]; omega
            rw [synM_cells, setCells5] at hfin hO6 hcF hqF hrF hzF
            have HFIN := Lib.hid hfin; clear hfin; have HFB := Lib.hid hfb; clear hfb; have HO5 := Lib.hid hO5; clear hO5; have HO6 := Lib.hid hO6; clear hO6; have HCF := Lib.hid hcF; clear hcF; have HQF := Lib.hid hqF; clear hqF; have HRF := Lib.hid hrF; clear hrF; have HMF := Lib.hid hmF; clear hmF; have HIF := Lib.hid hiF; clear hiF; have HBF := Lib.hid hbF; clear hbF; have HNF := Lib.hid hnF; clear hnF; have HZF := Lib.hid hzF; clear hzF
            go_wp2_with fail
            go_roundw
            case rel => exact ⟨j + 1, ns.set j (synM 27 k1 n1 s1 xa2 xc2 x2 a1 cap1 ms2), pre ++ [.mk k1 n1 s1 x2 ds2], by omega, by go_num, HNF.out, HMF.out, HIF.out, HFIN.out, HBF.out, HCF.out, HQF.out, HRF.out, HO6.out, HZF.out⟩
            case measure => simp [intOf]; omega
        · have hj2 : j = ms.length := by omega
          subst hj2
          have hdl := HLN.out
          rw [hdl, List.take_length] at hmx
          rw [hdl, List.drop_length, List.append_nil] at hi'
          clear hdl
          have hxnew : ∀ b ∈ addrBlocks xa, b ∈ addrBlocks xa ∨ w.heap.size + 1 + 1 ≤ b := (fun b hb => .inl hb)
          have hret : RetMix 1 n s x ds xa a cap ms pb ca cc l lo w (.returned (.agg #[.int .i64 1, .int .i64 n, .string s, .slice xa x.length xc, .slice a ms.length cap])) (setCells wr (w.heap.size + 1) 0 [.int .i64 1, .int .i64 n, .string s, .slice xa x.length xc, .slice a ms.length cap]) := by
            refine ⟨x, xa, xc, pre, ns, by rw [hnl], hnl, (.inl rfl), hmx, hi', ?_, ?_, ?_, ?_, ?_⟩
            · exact hm'.keep2 (fun b hb => by
                refine setCells_other (w.heap.size + 1) b (fun he => ?_) _ wr 0
                subst he
                rw [SynOwn_blocks] at hb
                rcases List.mem_append.1 hb with h1 | h1
                · rcases hxnew _ h1 with h2 | h2
                  · have := (HM.out.lt (w.heap.size + 1) (by rw [SynOwn_blocks, List.mem_append]; exact .inl h2)).2; omega
                  · omega
                · rcases hbl _ h1 with h2 | h2
                  · have := HBLK.out _ h2; omega
                  · omega)
            · exact hcr.belowB (B := w.heap.size) ((setCells_Only (w.heap.size + 1) (bs := [w.heap.size + 1]) (by simp) [.int .i64 1, .int .i64 n, .string s, .slice xa x.length xc, .slice a ms.length cap] wr 0 (Only.refl _ wr)).below (by omega) (by simp)) hpw
            · exact ho.thenN (setCells_Only (w.heap.size + 1) (bs := [w.heap.size + 1]) (by simp) [.int .i64 1, .int .i64 n, .string s, .slice xa x.length xc, .slice a ms.length cap] wr 0 (Only.refl _ wr)) (fun x hx => by simp at hx; subst hx; exact .inr (by omega))
            · exact fun b hb => by
                rcases hbl b hb with h1 | h1
                · exact .inl h1
                · exact .inr (by omega)
            · exact fun b hb => by
                rcases hxnew b hb with h1 | h1
                · exact .inl h1
                · exact .inr (by omega)
          simp only [setCells, Nat.zero_add, Nat.reduceAdd] at hret
          clear hxnew
          have HRET := Lib.hid hret; clear hret; have HMX := Lib.hid hmx; clear hmx; have HI' := Lib.hid hi'; clear hi'; have HM' := Lib.hid hm'; clear hm'; have HBL := Lib.hid hbl; clear hbl; have HCR := Lib.hid hcr; clear hcr; have HO := Lib.hid ho; clear ho; have HNL := Lib.hid hnl; clear hnl
          go_wp2_with fail
          refine bodyPost_ret (v := .agg #[.int .i64 1, .int .i64 n, .string s, .slice xa x.length xc, .slice a ms.length cap]) (by simp [results, Try.results114, go_sem, q0, q1, q2, q3, q4, r0, r1, r2, r3, r4]) rfl ?_
          exact HRET.out
    | true =>
      obtain ⟨⟨q0, q1, q2, q3, q4, e0, e1, e2, e3, e4⟩, ⟨r0, r1, r2, r3, r4, g0, g1, g2, g3, g4⟩⟩ := And.intro HQ1.out HR1.out
      go_wp2_with fail
      refine (l2Set_calls pb ca cc l _ HC1.out).mono ?_
      rintro e w2 ⟨L, la, lc, rfl, hL, hLs, hmL, hc2, ho2⟩
      have hz2 := ho2.size
      have hLl := Ints.len hmL.in_
      have hq2 : SBox w.heap.size 1 n s (.slice xa x.length xc) (.slice a ms.length cap) w2 := HQ1.out.only ho2 (.inr (by omega))
      have hr2 : SBox (w.heap.size + 1) 0 0 ⟨#[]⟩ (.slice none 0 0) (.slice none 0 0) w2 := HR1.out.only ho2 (.inr (by omega))
      have ho2' : Only [pb] w w2 := HO1'.out.thenN (Only.ofIn ho2 (fun x h1 h2 => by simp; omega)) (fun x hx => .inl hx)
      have hm2 := HM1.out.only (Only.ofIn (bs := [pb]) ho2 (fun x h1 h2 => by simp; omega)) (fun b hb hn => by have := (HM1.out.lt b hb).1; simp at hn; omega)
      have hmx : (SynOwn 27 la lc L a cap ms).Mine w2 lo := SynOwn_swapX hm2 hmL (by omega) (fun b hb => by have := HBLK.out b hb; omega)
      have hmL' := hmL.lt
      clear q0 q1 q2 q3 q4 e0 e1 e2 e3 e4 r0 r1 r2 r3 r4 g0 g1 g2 g3 g4
      obtain ⟨q0, q1, q2, q3, q4, e0, e1, e2, e3, e4⟩ := hq2
      have hq2 : SBox w.heap.size 1 n s (.slice xa x.length xc) (.slice a ms.length cap) w2 := ⟨q0, q1, q2, q3, q4, e0, e1, e2, e3, e4⟩
      have hq3 : SBox w.heap.size 1 n s (.slice la L.length lc) (.slice a ms.length cap) (w2.setCell ⟨w.heap.size, 3, none⟩ (.slice la L.length lc)) := hq2.set3 _
      have hr3 := hr2.far (a := ⟨w.heap.size, 3, none⟩) (.slice la L.length lc) (by simp)
      have hm3 : (SynOwn 27 la lc L a cap ms).Mine (w2.setCell ⟨w.heap.size, 3, none⟩ (.slice la L.length lc)) lo := hmx.keep2 (fun b hb => heapSet _ _ _ _ (by
        intro he
        rw [SynOwn_blocks] at hb
        simp only at he
        rcases List.mem_append.1 hb with h1 | h1
        · have := (hmL' b (by simpa [M.blocks, intM_blocks] using h1)).1; omega
        · have := HBLK.out b h1; omega))
      have hc3 : Cur pb ca cc l (w2.setCell ⟨w.heap.size, 3, none⟩ (.slice la L.length lc)) := hc2.belowB (B := w.heap.size) (Below.setCell (Below.refl _ _) (by simp) _) hpw
      have ho3 : Only [pb] w (w2.setCell ⟨w.heap.size, 3, none⟩ (.slice la L.length lc)) := ho2'.thenN ((Only.refl [w.heap.size] w2).setCell (p := ⟨w.heap.size, 3, none⟩) (by simp) _) (fun x hx => by simp at hx; subst hx; exact .inr (Nat.le_refl _))
      have hxn : ∀ b ∈ addrBlocks la, b ∈ addrBlocks xa ∨ w.heap.size + 1 + 1 ≤ b := fun b hb => .inr (by have := (hmL' b (by simpa [M.blocks, intM_blocks] using hb)).1; omega)
      have hxo : (L = x ∨ L.length ≤ 7 ∧ Small L) := .inr ⟨hL, hLs⟩
      clear hmL hmL' hm2 hmx hr2
      have HC2 := Lib.hid hc2; clear hc2; have HO2 := Lib.hid ho2; clear ho2; have HQ2 := Lib.hid hq2; clear hq2; have HQ3 := Lib.hid hq3; clear hq3; have HR3 := Lib.hid hr3; clear hr3; have HM3 := Lib.hid hm3; clear hm3; have HC3 := Lib.hid hc3; clear hc3; have HO3 := Lib.hid ho3; clear ho3; have HXN := Lib.hid hxn; clear hxn; have HXO := Lib.hid hxo; clear hxo; have HLS := Lib.hid hLs; clear hLs; have HO2' := Lib.hid ho2'; clear ho2'
      clear hL
      go_wp2_with fail
      go_loopw [19] (fun i wr => ∃ (j : Nat) (ns : List M) (pre : List Syn), j ≤ ms.length ∧ i = .int .i64 j ∧ ns.length = ms.length ∧ MixL (ds.take j) pre ∧ Syn.IsL 27 (pre ++ ds.drop j) ns ∧ (SynOwn 27 la lc L a cap ns).Mine wr lo ∧
        (∀ b ∈ (M.sl a cap 5 27 ns).blocks, b ∈ (M.sl a cap 5 27 ms).blocks ∨ w.heap.size + 1 + 1 ≤ b) ∧ Cur pb ca cc l wr ∧ SBox w.heap.size 1 n s (.slice la L.length lc) (.slice a ms.length cap) wr ∧ SBox (w.heap.size + 1) 0 0 ⟨#[]⟩ (.slice none 0 0) (.slice none 0 0) wr ∧ Only (pb :: (M.sl a cap 5 27 ms).blocks) w wr ∧ w.heap.size + 1 + 1 ≤ wr.heap.size) (fun i _ => ms.length - (intOf i).toNat)
      case atStart => exact ⟨0, ms, [], Nat.zero_le _, rfl, rfl, rfl, HI.out, HM3.out, fun b hb => .inl hb, HC3.out, HQ3.out, HR3.out, (HO3.out).mono (fun x hx => by simp at hx; simp [hx]), HR3.out.lt⟩
      case round =>
        (try clear q0 q1 q2 q3 q4 e0 e1 e2 e3 e4)
        (try clear r0 r1 r2 r3 r4 g0 g1 g2 g3 g4)
        obtain ⟨j, ns, pre, hj, rfl, hnl, hmx, hi', hm', hbl, hcr, hq, hr, ho, hsz⟩ := hrel
        obtain ⟨q0, q1, q2, q3, q4, e0, e1, e2, e3, e4⟩ := hq
        obtain ⟨r0, r1, r2, r3, r4, g0, g1, g2, g3, g4⟩ := hr
        by_cases hlt : j < ms.length
        · have hjd : j < ds.length := by have := HLN.out; omega
          have hjn : j < ns.length := by omega
          have hpl1 := hmx.length
          rw [List.length_take, Nat.min_eq_left (by omega)] at hpl1
          have hdj : ds[j]? = some ds[j] := List.getElem?_eq_getElem hjd
          have hmem : ds[j] ∈ ds := List.getElem_mem hjd
          have hg := hi'.get j (by rw [List.length_append, List.length_drop]; omega) hjn
          have hge : (pre ++ ds.drop j)[j]'(by rw [List.length_append, List.length_drop]; omega) = ds[j] := by
            rw [List.getElem_append_right (by omega)]
            simp [hpl1]
          rw [hge] at hg
          generalize hd1 : ds[j] = d1 at *
          obtain ⟨k1, n1, s1, x1, ds1⟩ := d1
          obtain ⟨xa1, xc1, a1, cap1, ms1, hmj, hi1⟩ := hg
          obtain ⟨g, rfl, hlg, hgw⟩ := (SynOwn_ms hm').addr (by omega)
          obtain ⟨⟨v0, t0⟩, f0⟩ := (SynOwn_ms hm').row (j * 5) (by omega)
          obtain ⟨⟨v1, t1⟩, f1⟩ := (SynOwn_ms hm').row (j * 5 + 1) (by omega)
          obtain ⟨⟨v2, t2⟩, f2⟩ := (SynOwn_ms hm').row (j * 5 + 2) (by omega)
          obtain ⟨⟨v3, t3⟩, f3⟩ := (SynOwn_ms hm').row (j * 5 + 3) (by omega)
          obtain ⟨⟨v4, t4⟩, f4⟩ := (SynOwn_ms hm').row (j * 5 + 4) (by omega)
          clear t0 t1 t2 t3 t4
          obtain ⟨bb, oo, hg0, hel⟩ := (SynOwn_ms hm').in_.elem (by omega)
          obtain ⟨rfl, rfl⟩ : g = bb ∧ oo = 0 := by simp only [Option.some.injEq, Addr.mk.injEq, and_true] at hg0; exact ⟨hg0.1, hg0.2.symm⟩
          have c0 := hel j hjn 0 (.int .i64 k1) (by rw [hmj]; rfl)
          have c1 := hel j hjn 1 (.int .i64 n1) (by rw [hmj]; rfl)
          have c2 := hel j hjn 2 (.string s1) (by rw [hmj]; rfl)
          have c3 := hel j hjn 3 (.slice xa1 (intM x1).length xc1) (by rw [hmj]; rfl)
          have c4 := hel j hjn 4 (.slice a1 ms1.length cap1) (by rw [hmj]; rfl)
          simp only [Nat.zero_add, Nat.add_zero, intM_length] at c0 c1 c2 c3 c4
          clear hel hg0
          have hin := (SynOwn_ms hm').inner j hjn
          rw [hmj] at hin
          have hso : (SynOwn 27 xa1 xc1 x1 a1 cap1 ms1).Mine wr.drew lo := (synM_own (k := k1) (n := n1) (s := s1) hin).keep (fun b _ _ => rfl)
          have hcd : Cur pb ca cc l wr.drew := hcr.below ((Below.refl _ _).drew)
          have hmd : (SynOwn 27 la lc L (some ⟨g, 0, none⟩) cap ns).Mine wr.drew lo := hm'.keep (fun b _ _ => rfl)
          have hsubr : ∀ b ∈ (M.sl a1 cap1 5 27 ms1).blocks, b ∈ (M.sl (some ⟨g, 0, none⟩) cap 5 27 ns).blocks := fun b hb => by
            simp only [M.blocks]
            rw [List.mem_append]
            exact .inr (mem_blocksL.2 ⟨_, List.getElem_mem hjn, by rw [hmj]; simp only [M.blocks, M.blocksL, List.append_nil, List.nil_append] at hb ⊢; simp [hb]⟩)
          have hgn : g ∉ (M.sl a1 cap1 5 27 ms1).blocks := fun hb => by
            have hd := (SynOwn_ms hm').dup
            simp only [M.blocks, addrBlocks] at hd
            exact (List.nodup_append.1 hd).2.2 g (by simp) g (mem_blocksL.2 ⟨_, List.getElem_mem hjn, by rw [hmj]; simp only [M.blocks, M.blocksL, List.append_nil, List.nil_append] at hb ⊢; simp [hb]⟩) rfl
          have hgo : g ∈ (M.sl (some ⟨g, 0, none⟩) cap 5 27 ms).blocks := by simp [M.blocks, addrBlocks]
          have hgp : g ≠ pb := by omega
          have hgW : g < w.heap.size := HBLK.out g hgo
          have hbox : ∀ b, (b = w.heap.size ∨ b = w.heap.size + 1) → b ∉ pb :: (M.sl a1 cap1 5 27 ms1).blocks := fun b hb hn => by
            rcases List.mem_cons.1 hn with h1 | h1
            · omega
            · rcases hbl b (hsubr b h1) with h2 | h2
              · have := HBLK.out b h2; omega
              · omega
          have hlod : lo ≤ wr.drew.heap.size := by rw [World.size_drew]; omega
          clear hge
          have hcall := IH.out k1 n1 s1 x1 ds1 hmem k1 n1 s1 x1 xa1 xc1 a1 cap1 ms1 pb ca cc l lo wr.drew hi1 hso hcd hpl hlod
          have HCALL := Lib.hid hcall; clear hcall; have HMX := Lib.hid hmx; clear hmx; have HI' := Lib.hid hi'; clear hi'; have HM' := Lib.hid hm'; clear hm'; have HBL := Lib.hid hbl; clear hbl; have HCR := Lib.hid hcr; clear hcr; have HO := Lib.hid ho; clear ho; have HDJ := Lib.hid hdj; clear hdj; have HMEM := Lib.hid hmem; clear hmem; have HMJ := Lib.hid hmj; clear hmj; have HI1 := Lib.hid hi1; clear hi1; have HIN := Lib.hid hin; clear hin; have HSO := Lib.hid hso; clear hso; have HCD := Lib.hid hcd; clear hcd; have HMD := Lib.hid hmd; clear hmd; have HSUBR := Lib.hid hsubr; clear hsubr; have HGN := Lib.hid hgn; clear hgn; have HGO := Lib.hid hgo; clear hgo; have HBOX := Lib.hid hbox; clear hbox; have HPL1 := Lib.hid hpl1; clear hpl1; have HNL := Lib.hid hnl; clear hnl; have HD1 := Lib.hid hd1; clear hd1; have HLOD := Lib.hid hlod; clear hlod
          go_wp2_with fail
          go_region_law (first
            | (go_simp; go_at_call 114; (with_reducible refine HCALL.out.mono ?_); rintro e w5 ⟨x2, xa2, xc2, ds2, ms2, rfl, hl2, hx2, hmx2, hi2, hm2, hc2', ho2', hb2, hb2'⟩; have hgk : w5.heap[g]? = wr.heap[g]? := (ho2'.block g hgw (by intro hn; rcases List.mem_cons.1 hn with h1 | h1; exact hgp h1; exact HGN.out h1)); have hqk : w5.heap[w.heap.size]? = wr.heap[w.heap.size]? := (ho2'.block _ (by simp; omega) (HBOX.out _ (.inl rfl))); have d0 := (World.cell?_of_block (a := ⟨g, j * 5, none⟩) hgk).trans c0; have d1 := (World.cell?_of_block (a := ⟨g, j * 5 + 1, none⟩) hgk).trans c1; have d2 := (World.cell?_of_block (a := ⟨g, j * 5 + 2, none⟩) hgk).trans c2; have d3 := (World.cell?_of_block (a := ⟨g, j * 5 + 3, none⟩) hgk).trans c3; have d4 := (World.cell?_of_block (a := ⟨g, j * 5 + 4, none⟩) hgk).trans c4; have k0 := (World.frozen?_of_block (a := ⟨g, j * 5, none⟩) hgk).trans f0; have k1' := (World.frozen?_of_block (a := ⟨g, j * 5 + 1, none⟩) hgk).trans f1; have k2' := (World.frozen?_of_block (a := ⟨g, j * 5 + 2, none⟩) hgk).trans f2; have k3' := (World.frozen?_of_block (a := ⟨g, j * 5 + 3, none⟩) hgk).trans f3; have k4' := (World.frozen?_of_block (a := ⟨g, j * 5 + 4, none⟩) hgk).trans f4; have q4c := (World.cell?_of_block (a := ⟨w.heap.size, 4, none⟩) hqk).trans q4; have HX2 := Lib.hid hx2; have HMX2 := Lib.hid hmx2; have HI2 := Lib.hid hi2; have HM2' := Lib.hid hm2; have HC2' := Lib.hid hc2'; have HO2' := Lib.hid ho2'; have HB2 := Lib.hid hb2; have HB2' := Lib.hid hb2'; have HL2 := Lib.hid hl2; clear hx2 hmx2 hi2 hm2 hc2' ho2' hb2 hb2' hl2))
          all_goals
            obtain ⟨hfin, hfb⟩ := M.Mine.mixElem HMD.out hjn (k1 := k1) (n1 := n1) (s1 := s1) HMJ.out HM2'.out HL2.out HO2'.out hpl HB2.out HB2'.out
            have hO5 : Only (pb :: (M.sl (some ⟨g, 0, none⟩) cap 5 27 ms).blocks) w w5 := HO.out.thenN (c := w5) ((Only.refl _ wr).drewN 1 |>.thenN HO2'.out (fun x hx => .inl hx)) (fun x hx => by
              rcases List.mem_cons.1 hx with h1 | h1
              · exact .inl (by simp [h1])
              · rcases HBL.out x (HSUBR.out x h1) with h2 | h2
                · exact .inl (List.mem_cons_of_mem _ h2)
                · exact .inr (by omega))
            have hO6 := setCells_Only g (List.mem_cons_of_mem pb HGO.out) (synM 27 k1 n1 s1 xa2 xc2 x2 a1 cap1 ms2).cells w5 (j * 5) hO5
            have hz5 := HO2'.out.size
            rw [World.size_drew] at hz5
            have hcF : Cur pb ca cc l (setCells w5 g (j * 5) (synM 27 k1 n1 s1 xa2 xc2 x2 a1 cap1 ms2).cells) := HC2'.out.belowB (B := lo) ((setCells_Only g (bs := [g]) (by simp) _ _ _ (Only.refl _ w5)).below (by omega) (by simp; omega)) hpl
            have hqF : SBox w.heap.size 1 n s (.slice la L.length lc) (.slice (some ⟨g, 0, none⟩) ms.length cap) (setCells w5 g (j * 5) (synM 27 k1 n1 s1 xa2 xc2 x2 a1 cap1 ms2).cells) := (SBox.of ⟨q0, q1, q2, q3, q4, e0, e1, e2, e3, e4⟩ (HO2'.out.block _ (by simp; omega) (HBOX.out _ (.inl rfl)))).of (setCells_other g _ (by omega) _ _ _)
            have hrF : SBox (w.heap.size + 1) 0 0 ⟨#[]⟩ (.slice none 0 0) (.slice none 0 0) (setCells w5 g (j * 5) (synM 27 k1 n1 s1 xa2 xc2 x2 a1 cap1 ms2).cells) := (SBox.of ⟨r0, r1, r2, r3, r4, g0, g1, g2, g3, g4⟩ (HO2'.out.block _ (by simp; omega) (HBOX.out _ (.inr rfl)))).of (setCells_other g _ (by omega) _ _ _)
            have hmF : MixL (ds.take (j + 1)) (pre ++ [.mk k1 n1 s1 x2 ds2]) := by
              rw [take_snoc HDJ.out]; exact MixL.snoc (d := .mk k1 n1 s1 x1 ds1) (d' := .mk k1 n1 s1 x2 ds2) ⟨rfl, rfl, rfl, HX2.out, HMX2.out⟩ HMX.out
            have hiF : Syn.IsL 27 ((pre ++ [.mk k1 n1 s1 x2 ds2]) ++ ds.drop (j + 1)) (ns.set j (synM 27 k1 n1 s1 xa2 xc2 x2 a1 cap1 ms2)) := by
              have h := HI'.out.set j (d := .mk k1 n1 s1 x2 ds2) (m := synM 27 k1 n1 s1 xa2 xc2 x2 a1 cap1 ms2) ⟨xa2, xc2, a1, cap1, ms2, rfl, HI2.out⟩
              rwa [List.set_append, if_neg (by have := HPL1.out; omega), HPL1.out, Nat.sub_self, List.drop_eq_getElem_cons hjd, List.set_cons_zero, ← List.singleton_append, ← List.append_assoc] at h
            have hbF : ∀ b ∈ (M.sl (some ⟨g, 0, none⟩) cap 5 27 (ns.set j (synM 27 k1 n1 s1 xa2 xc2 x2 a1 cap1 ms2))).blocks, b ∈ (M.sl (some ⟨g, 0, none⟩) cap 5 27 ms).blocks ∨ w.heap.size + 1 + 1 ≤ b := fun b hb => by
              rcases hfb b hb with h1 | h1
              · exact HBL.out b h1
              · rw [World.size_drew] at h1; exact .inr (by omega)
            have hnF : (ns.set j (synM 27 k1 n1 s1 xa2 xc2 x2 a1 cap1 ms2)).length = ms.length := by rw [List.length_set]; exact HNL.out
            have hzF : w.heap.size + 1 + 1 ≤ (setCells w5 g (j * 5) (synM 27 k1 n1 s1 xa2 xc2 x2 a1 cap1 ms2).cells).heap.size := by rw [setCells_size]; omega
            rw [synM_cells, setCells5] at hfin hO6 hcF hqF hrF hzF
            have HFIN := Lib.hid hfin; clear hfin; have HFB := Lib.hid hfb; clear hfb; have HO5 := Lib.hid hO5; clear hO5; have HO6 := Lib.hid hO6; clear hO6; have HCF := Lib.hid hcF; clear hcF; have HQF := Lib.hid hqF; clear hqF; have HRF := Lib.hid hrF; clear hrF; have HMF := Lib.hid hmF; clear hmF; have HIF := Lib.hid hiF; clear hiF; have HBF := Lib.hid hbF; clear hbF; have HNF := Lib.hid hnF; clear hnF; have HZF := Lib.hid hzF; clear hzF
            go_wp2_with fail
            go_roundw
            case rel => exact ⟨j + 1, ns.set j (synM 27 k1 n1 s1 xa2 xc2 x2 a1 cap1 ms2), pre ++ [.mk k1 n1 s1 x2 ds2], by omega, by go_num, HNF.out, HMF.out, HIF.out, HFIN.out, HBF.out, HCF.out, HQF.out, HRF.out, HO6.out, HZF.out⟩
            case measure => simp [intOf]; omega
        · have hj2 : j = ms.length := by omega
          subst hj2
          have hdl := HLN.out
          rw [hdl, List.take_length] at hmx
          rw [hdl, List.drop_length, List.append_nil] at hi'
          clear hdl
          have hxnew : ∀ b ∈ addrBlocks la, b ∈ addrBlocks xa ∨ w.heap.size + 1 + 1 ≤ b := HXN.out
          have hret : RetMix 1 n s x ds xa a cap ms pb ca cc l lo w (.returned (.agg #[.int .i64 1, .int .i64 n, .string s, .slice la L.length lc, .slice a ms.length cap])) (setCells wr (w.heap.size + 1) 0 [.int .i64 1, .int .i64 n, .string s, .slice la L.length lc, .slice a ms.length cap]) := by
            refine ⟨L, la, lc, pre, ns, by rw [hnl], hnl, HXO.out, hmx, hi', ?_, ?_, ?_, ?_, ?_⟩
            · exact hm'.keep2 (fun b hb => by
                refine setCells_other (w.heap.size + 1) b (fun he => ?_) _ wr 0
                subst he
                rw [SynOwn_blocks] at hb
                rcases List.mem_append.1 hb with h1 | h1
                · rcases hxnew _ h1 with h2 | h2
                  · have := (HM.out.lt (w.heap.size + 1) (by rw [SynOwn_blocks, List.mem_append]; exact .inl h2)).2; omega
                  · omega
                · rcases hbl _ h1 with h2 | h2
                  · have := HBLK.out _ h2; omega
                  · omega)
            · exact hcr.belowB (B := w.heap.size) ((setCells_Only (w.heap.size + 1) (bs := [w.heap.size + 1]) (by simp) [.int .i64 1, .int .i64 n, .string s, .slice la L.length lc, .slice a ms.length cap] wr 0 (Only.refl _ wr)).below (by omega) (by simp)) hpw
            · exact ho.thenN (setCells_Only (w.heap.size + 1) (bs := [w.heap.size + 1]) (by simp) [.int .i64 1, .int .i64 n, .string s, .slice la L.length lc, .slice a ms.length cap] wr 0 (Only.refl _ wr)) (fun x hx => by simp at hx; subst hx; exact .inr (by omega))
            · exact fun b hb => by
                rcases hbl b hb with h1 | h1
                · exact .inl h1
                · exact .inr (by omega)
            · exact fun b hb => by
                rcases hxnew b hb with h1 | h1
                · exact .inl h1
                · exact .inr (by omega)
          simp only [setCells, Nat.zero_add, Nat.reduceAdd] at hret
          clear hxnew
          have HRET := Lib.hid hret; clear hret; have HMX := Lib.hid hmx; clear hmx; have HI' := Lib.hid hi'; clear hi'; have HM' := Lib.hid hm'; clear hm'; have HBL := Lib.hid hbl; clear hbl; have HCR := Lib.hid hcr; clear hcr; have HO := Lib.hid ho; clear ho; have HNL := Lib.hid hnl; clear hnl
          go_wp2_with fail
          refine bodyPost_ret (v := .agg #[.int .i64 1, .int .i64 n, .string s, .slice la L.length lc, .slice a ms.length cap]) (by simp [results, Try.results114, go_sem, q0, q1, q2, q3, q4, r0, r1, r2, r3, r4]) rfl ?_
          exact HRET.out
  · have hkk : (k == 1) = false := by simp [hk]
    have hq1 : SBox w.heap.size k n s (.slice xa x.length xc) (.slice a ms.length cap) ((w.alloc (.cells #[.int .i64 k, .int .i64 n, .string s, .slice xa x.length xc, .slice a ms.length cap] 27)).alloc (.cells #[.int .i64 0, .int .i64 0, .string ⟨#[]⟩, .slice none 0 0, .slice none 0 0] 27)) := (SBox.new k n s _ _ w).of (heapNew _ _ _ (by simp))
    have hr1 : SBox (w.heap.size + 1) 0 0 ⟨#[]⟩ (.slice none 0 0) (.slice none 0 0) ((w.alloc (.cells #[.int .i64 k, .int .i64 n, .string s, .slice xa x.length xc, .slice a ms.length cap] 27)).alloc (.cells #[.int .i64 0, .int .i64 0, .string ⟨#[]⟩, .slice none 0 0, .slice none 0 0] 27)) := by
      have := SBox.new 0 0 ⟨#[]⟩ (.slice none 0 0) (.slice none 0 0) (w.alloc (.cells #[.int .i64 k, .int .i64 n, .string s, .slice xa x.length xc, .slice a ms.length cap] 27))
      rw [World.size_alloc] at this
      exact this
    have ho1' : Only [pb] w ((w.alloc (.cells #[.int .i64 k, .int .i64 n, .string s, .slice xa x.length xc, .slice a ms.length cap] 27)).alloc (.cells #[.int .i64 0, .int .i64 0, .string ⟨#[]⟩, .slice none 0 0, .slice none 0 0] 27)) := (Only.refl _ w).alloc _ |>.alloc _
    have hm1 := hm.only ho1' (fun b hb hn => by have := (hm.lt b hb).1; simp at hn; omega)
    have hc1 := hc.below (w' := ((w.alloc (.cells #[.int .i64 k, .int .i64 n, .string s, .slice xa x.length xc, .slice a ms.length cap] 27)).alloc (.cells #[.int .i64 0, .int .i64 0, .string ⟨#[]⟩, .slice none 0 0, .slice none 0 0] 27))) (by (repeat (first | with_reducible assumption | with_reducible exact Below.refl _ _ | with_reducible refine Below.drew ?_ | with_reducible refine belowDrewN ?_ _ | ((with_reducible refine Below.setCell ?_ ?_ _); rotate_left; focus (first | omega | (simp; done) | (simp; omega))) | ((with_reducible refine Below.alloc ?_ ?_ _); rotate_left; focus (first | omega | (simp; done) | (simp; omega))))))
    have IH := Lib.hid ih; clear ih; have HI := Lib.hid hi; clear hi; have HM := Lib.hid hm; clear hm; have HC := Lib.hid hc; clear hc; have HLN := Lib.hid hln; clear hln; have HBLK := Lib.hid hblk; clear hblk; have HQ1 := Lib.hid hq1; clear hq1; have HR1 := Lib.hid hr1; clear hr1; have HO1' := Lib.hid ho1'; clear ho1'; have HM1 := Lib.hid hm1; clear hm1; have HC1 := Lib.hid hc1; clear hc1; have HK := Lib.hid hk; clear hk
    go_enter Try.func114, Try.ntmps114
    go_wp2_with fail
    go_loopw [19] (fun i wr => ∃ (j : Nat) (ns : List M) (pre : List Syn), j ≤ ms.length ∧ i = .int .i64 j ∧ ns.length = ms.length ∧ MixL (ds.take j) pre ∧ Syn.IsL 27 (pre ++ ds.drop j) ns ∧ (SynOwn 27 xa xc x a cap ns).Mine wr lo ∧
      (∀ b ∈ (M.sl a cap 5 27 ns).blocks, b ∈ (M.sl a cap 5 27 ms).blocks ∨ w.heap.size + 1 + 1 ≤ b) ∧ Cur pb ca cc l wr ∧ SBox w.heap.size k n s (.slice xa x.length xc) (.slice a ms.length cap) wr ∧ SBox (w.heap.size + 1) 0 0 ⟨#[]⟩ (.slice none 0 0) (.slice none 0 0) wr ∧ Only (pb :: (M.sl a cap 5 27 ms).blocks) w wr ∧ w.heap.size + 1 + 1 ≤ wr.heap.size) (fun i _ => ms.length - (intOf i).toNat)
    case atStart => exact ⟨0, ms, [], Nat.zero_le _, rfl, rfl, rfl, HI.out, HM1.out, fun b hb => .inl hb, HC1.out, HQ1.out, HR1.out, (HO1'.out).mono (fun x hx => by simp at hx; simp [hx]), HR1.out.lt⟩
    case round =>
      (try clear q0 q1 q2 q3 q4 e0 e1 e2 e3 e4)
      (try clear r0 r1 r2 r3 r4 g0 g1 g2 g3 g4)
      obtain ⟨j, ns, pre, hj, rfl, hnl, hmx, hi', hm', hbl, hcr, hq, hr, ho, hsz⟩ := hrel
      obtain ⟨q0, q1, q2, q3, q4, e0, e1, e2, e3, e4⟩ := hq
      obtain ⟨r0, r1, r2, r3, r4, g0, g1, g2, g3, g4⟩ := hr
      by_cases hlt : j < ms.length
      · have hjd : j < ds.length := by have := HLN.out; omega
        have hjn : j < ns.length := by omega
        have hpl1 := hmx.length
        rw [List.length_take, Nat.min_eq_left (by omega)] at hpl1
        have hdj : ds[j]? = some ds[j] := List.getElem?_eq_getElem hjd
        have hmem : ds[j] ∈ ds := List.getElem_mem hjd
        have hg := hi'.get j (by rw [List.length_append, List.length_drop]; omega) hjn
        have hge : (pre ++ ds.drop j)[j]'(by rw [List.length_append, List.length_drop]; omega) = ds[j] := by
          rw [List.getElem_append_right (by omega)]
          simp [hpl1]
        rw [hge] at hg
        generalize hd1 : ds[j] = d1 at *
        obtain ⟨k1, n1, s1, x1, ds1⟩ := d1
        obtain ⟨xa1, xc1, a1, cap1, ms1, hmj, hi1⟩ := hg
        obtain ⟨g, rfl, hlg, hgw⟩ := (SynOwn_ms hm').addr (by omega)
        obtain ⟨⟨v0, t0⟩, f0⟩ := (SynOwn_ms hm').row (j * 5) (by omega)
        obtain ⟨⟨v1, t1⟩, f1⟩ := (SynOwn_ms hm').row (j * 5 + 1) (by omega)
        obtain ⟨⟨v2, t2⟩, f2⟩ := (SynOwn_ms hm').row (j * 5 + 2) (by omega)
        obtain ⟨⟨v3, t3⟩, f3⟩ := (SynOwn_ms hm').row (j * 5 + 3) (by omega)
        obtain ⟨⟨v4, t4⟩, f4⟩ := (SynOwn_ms hm').row (j * 5 + 4) (by omega)
        clear t0 t1 t2 t3 t4
        obtain ⟨bb, oo, hg0, hel⟩ := (SynOwn_ms hm').in_.elem (by omega)
        obtain ⟨rfl, rfl⟩ : g = bb ∧ oo = 0 := by simp only [Option.some.injEq, Addr.mk.injEq, and_true] at hg0; exact ⟨hg0.1, hg0.2.symm⟩
        have c0 := hel j hjn 0 (.int .i64 k1) (by rw [hmj]; rfl)
        have c1 := hel j hjn 1 (.int .i64 n1) (by rw [hmj]; rfl)
        have c2 := hel j hjn 2 (.string s1) (by rw [hmj]; rfl)
        have c3 := hel j hjn 3 (.slice xa1 (intM x1).length xc1) (by rw [hmj]; rfl)
        have c4 := hel j hjn 4 (.slice a1 ms1.length cap1) (by rw [hmj]; rfl)
        simp only [Nat.zero_add, Nat.add_zero, intM_length] at c0 c1 c2 c3 c4
        clear hel hg0
        have hin := (SynOwn_ms hm').inner j hjn
        rw [hmj] at hin
        have hso : (SynOwn 27 xa1 xc1 x1 a1 cap1 ms1).Mine wr.drew lo := (synM_own (k := k1) (n := n1) (s := s1) hin).keep (fun b _ _ => rfl)
        have hcd : Cur pb ca cc l wr.drew := hcr.below ((Below.refl _ _).drew)
        have hmd : (SynOwn 27 xa xc x (some ⟨g, 0, none⟩) cap ns).Mine wr.drew lo := hm'.keep (fun b _ _ => rfl)
        have hsubr : ∀ b ∈ (M.sl a1 cap1 5 27 ms1).blocks, b ∈ (M.sl (some ⟨g, 0, none⟩) cap 5 27 ns).blocks := fun b hb => by
          simp only [M.blocks]
          rw [List.mem_append]
          exact .inr (mem_blocksL.2 ⟨_, List.getElem_mem hjn, by rw [hmj]; simp only [M.blocks, M.blocksL, List.append_nil, List.nil_append] at hb ⊢; simp [hb]⟩)
        have hgn : g ∉ (M.sl a1 cap1 5 27 ms1).blocks := fun hb => by
          have hd := (SynOwn_ms hm').dup
          simp only [M.blocks, addrBlocks] at hd
          exact (List.nodup_append.1 hd).2.2 g (by simp) g (mem_blocksL.2 ⟨_, List.getElem_mem hjn, by rw [hmj]; simp only [M.blocks, M.blocksL, List.append_nil, List.nil_append] at hb ⊢; simp [hb]⟩) rfl
        have hgo : g ∈ (M.sl (some ⟨g, 0, none⟩) cap 5 27 ms).blocks := by simp [M.blocks, addrBlocks]
        have hgp : g ≠ pb := by omega
        have hgW : g < w.heap.size := HBLK.out g hgo
        have hbox : ∀ b, (b = w.heap.size ∨ b = w.heap.size + 1) → b ∉ pb :: (M.sl a1 cap1 5 27 ms1).blocks := fun b hb hn => by
          rcases List.mem_cons.1 hn with h1 | h1
          · omega
          · rcases hbl b (hsubr b h1) with h2 | h2
            · have := HBLK.out b h2; omega
            · omega
        have hlod : lo ≤ wr.drew.heap.size := by rw [World.size_drew]; omega
        clear hge
        have hcall := IH.out k1 n1 s1 x1 ds1 hmem k1 n1 s1 x1 xa1 xc1 a1 cap1 ms1 pb ca cc l lo wr.drew hi1 hso hcd hpl hlod
        have HCALL := Lib.hid hcall; clear hcall; have HMX := Lib.hid hmx; clear hmx; have HI' := Lib.hid hi'; clear hi'; have HM' := Lib.hid hm'; clear hm'; have HBL := Lib.hid hbl; clear hbl; have HCR := Lib.hid hcr; clear hcr; have HO := Lib.hid ho; clear ho; have HDJ := Lib.hid hdj; clear hdj; have HMEM := Lib.hid hmem; clear hmem; have HMJ := Lib.hid hmj; clear hmj; have HI1 := Lib.hid hi1; clear hi1; have HIN := Lib.hid hin; clear hin; have HSO := Lib.hid hso; clear hso; have HCD := Lib.hid hcd; clear hcd; have HMD := Lib.hid hmd; clear hmd; have HSUBR := Lib.hid hsubr; clear hsubr; have HGN := Lib.hid hgn; clear hgn; have HGO := Lib.hid hgo; clear hgo; have HBOX := Lib.hid hbox; clear hbox; have HPL1 := Lib.hid hpl1; clear hpl1; have HNL := Lib.hid hnl; clear hnl; have HD1 := Lib.hid hd1; clear hd1; have HLOD := Lib.hid hlod; clear hlod
        go_wp2_with fail
        go_region_law (first
          | (go_simp; go_at_call 114; (with_reducible refine HCALL.out.mono ?_); rintro e w5 ⟨x2, xa2, xc2, ds2, ms2, rfl, hl2, hx2, hmx2, hi2, hm2, hc2', ho2', hb2, hb2'⟩; have hgk : w5.heap[g]? = wr.heap[g]? := (ho2'.block g hgw (by intro hn; rcases List.mem_cons.1 hn with h1 | h1; exact hgp h1; exact HGN.out h1)); have hqk : w5.heap[w.heap.size]? = wr.heap[w.heap.size]? := (ho2'.block _ (by simp; omega) (HBOX.out _ (.inl rfl))); have d0 := (World.cell?_of_block (a := ⟨g, j * 5, none⟩) hgk).trans c0; have d1 := (World.cell?_of_block (a := ⟨g, j * 5 + 1, none⟩) hgk).trans c1; have d2 := (World.cell?_of_block (a := ⟨g, j * 5 + 2, none⟩) hgk).trans c2; have d3 := (World.cell?_of_block (a := ⟨g, j * 5 + 3, none⟩) hgk).trans c3; have d4 := (World.cell?_of_block (a := ⟨g, j * 5 + 4, none⟩) hgk).trans c4; have k0 := (World.frozen?_of_block (a := ⟨g, j * 5, none⟩) hgk).trans f0; have k1' := (World.frozen?_of_block (a := ⟨g, j * 5 + 1, none⟩) hgk).trans f1; have k2' := (World.frozen?_of_block (a := ⟨g, j * 5 + 2, none⟩) hgk).trans f2; have k3' := (World.frozen?_of_block (a := ⟨g, j * 5 + 3, none⟩) hgk).trans f3; have k4' := (World.frozen?_of_block (a := ⟨g, j * 5 + 4, none⟩) hgk).trans f4; have q4c := (World.cell?_of_block (a := ⟨w.heap.size, 4, none⟩) hqk).trans q4; have HX2 := Lib.hid hx2; have HMX2 := Lib.hid hmx2; have HI2 := Lib.hid hi2; have HM2' := Lib.hid hm2; have HC2' := Lib.hid hc2'; have HO2' := Lib.hid ho2'; have HB2 := Lib.hid hb2; have HB2' := Lib.hid hb2'; have HL2 := Lib.hid hl2; clear hx2 hmx2 hi2 hm2 hc2' ho2' hb2 hb2' hl2))
        all_goals
          obtain ⟨hfin, hfb⟩ := M.Mine.mixElem HMD.out hjn (k1 := k1) (n1 := n1) (s1 := s1) HMJ.out HM2'.out HL2.out HO2'.out hpl HB2.out HB2'.out
          have hO5 : Only (pb :: (M.sl (some ⟨g, 0, none⟩) cap 5 27 ms).blocks) w w5 := HO.out.thenN (c := w5) ((Only.refl _ wr).drewN 1 |>.thenN HO2'.out (fun x hx => .inl hx)) (fun x hx => by
            rcases List.mem_cons.1 hx with h1 | h1
            · exact .inl (by simp [h1])
            · rcases HBL.out x (HSUBR.out x h1) with h2 | h2
              · exact .inl (List.mem_cons_of_mem _ h2)
              · exact .inr (by omega))
          have hO6 := setCells_Only g (List.mem_cons_of_mem pb HGO.out) (synM 27 k1 n1 s1 xa2 xc2 x2 a1 cap1 ms2).cells w5 (j * 5) hO5
          have hz5 := HO2'.out.size
          rw [World.size_drew] at hz5
          have hcF : Cur pb ca cc l (setCells w5 g (j * 5) (synM 27 k1 n1 s1 xa2 xc2 x2 a1 cap1 ms2).cells) := HC2'.out.belowB (B := lo) ((setCells_Only g (bs := [g]) (by simp) _ _ _ (Only.refl _ w5)).below (by omega) (by simp; omega)) hpl
          have hqF : SBox w.heap.size k n s (.slice xa x.length xc) (.slice (some ⟨g, 0, none⟩) ms.length cap) (setCells w5 g (j * 5) (synM 27 k1 n1 s1 xa2 xc2 x2 a1 cap1 ms2).cells) := (SBox.of ⟨q0, q1, q2, q3, q4, e0, e1, e2, e3, e4⟩ (HO2'.out.block _ (by simp; omega) (HBOX.out _ (.inl rfl)))).of (setCells_other g _ (by omega) _ _ _)
          have hrF : SBox (w.heap.size + 1) 0 0 ⟨#[]⟩ (.slice none 0 0) (.slice none 0 0) (setCells w5 g (j * 5) (synM 27 k1 n1 s1 xa2 xc2 x2 a1 cap1 ms2).cells) := (SBox.of ⟨r0, r1, r2, r3, r4, g0, g1, g2, g3, g4⟩ (HO2'.out.block _ (by simp; omega) (HBOX.out _ (.inr rfl)))).of (setCells_other g _ (by omega) _ _ _)
          have hmF : MixL (ds.take (j + 1)) (pre ++ [.mk k1 n1 s1 x2 ds2]) := by
            rw [take_snoc HDJ.out]; exact MixL.snoc (d := .mk k1 n1 s1 x1 ds1) (d' := .mk k1 n1 s1 x2 ds2) ⟨rfl, rfl, rfl, HX2.out, HMX2.out⟩ HMX.out
          have hiF : Syn.IsL 27 ((pre ++ [.mk k1 n1 s1 x2 ds2]) ++ ds.drop (j + 1)) (ns.set j (synM 27 k1 n1 s1 xa2 xc2 x2 a1 cap1 ms2)) := by
            have h := HI'.out.set j (d := .mk k1 n1 s1 x2 ds2) (m := synM 27 k1 n1 s1 xa2 xc2 x2 a1 cap1 ms2) ⟨xa2, xc2, a1, cap1, ms2, rfl, HI2.out⟩
            rwa [List.set_append, if_neg (by have := HPL1.out; omega), HPL1.out, Nat.sub_self, List.drop_eq_getElem_cons hjd, List.set_cons_zero, ← List.singleton_append, ← List.append_assoc] at h
          have hbF : ∀ b ∈ (M.sl (some ⟨g, 0, none⟩) cap 5 27 (ns.set j (synM 27 k1 n1 s1 xa2 xc2 x2 a1 cap1 ms2))).blocks, b ∈ (M.sl (some ⟨g, 0, none⟩) cap 5 27 ms).blocks ∨ w.heap.size + 1 + 1 ≤ b := fun b hb => by
            rcases hfb b hb with h1 | h1
            · exact HBL.out b h1
            · rw [World.size_drew] at h1; exact .inr (by omega)
          have hnF : (ns.set j (synM 27 k1 n1 s1 xa2 xc2 x2 a1 cap1 ms2)).length = ms.length := by rw [List.length_set]; exact HNL.out
          have hzF : w.heap.size + 1 + 1 ≤ (setCells w5 g (j * 5) (synM 27 k1 n1 s1 xa2 xc2 x2 a1 cap1 ms2).cells).heap.size := by rw [setCells_size]; omega
          rw [synM_cells, setCells5] at hfin hO6 hcF hqF hrF hzF
          have HFIN := Lib.hid hfin; clear hfin; have HFB := Lib.hid hfb; clear hfb; have HO5 := Lib.hid hO5; clear hO5; have HO6 := Lib.hid hO6; clear hO6; have HCF := Lib.hid hcF; clear hcF; have HQF := Lib.hid hqF; clear hqF; have HRF := Lib.hid hrF; clear hrF; have HMF := Lib.hid hmF; clear hmF; have HIF := Lib.hid hiF; clear hiF; have HBF := Lib.hid hbF; clear hbF; have HNF := Lib.hid hnF; clear hnF; have HZF := Lib.hid hzF; clear hzF
          go_wp2_with fail
          go_roundw
          case rel => exact ⟨j + 1, ns.set j (synM 27 k1 n1 s1 xa2 xc2 x2 a1 cap1 ms2), pre ++ [.mk k1 n1 s1 x2 ds2], by omega, by go_num, HNF.out, HMF.out, HIF.out, HFIN.out, HBF.out, HCF.out, HQF.out, HRF.out, HO6.out, HZF.out⟩
          case measure => simp [intOf]; omega
      · have hj2 : j = ms.length := by omega
        subst hj2
        have hdl := HLN.out
        rw [hdl, List.take_length] at hmx
        rw [hdl, List.drop_length, List.append_nil] at hi'
        clear hdl
        have hxnew : ∀ b ∈ addrBlocks xa, b ∈ addrBlocks xa ∨ w.heap.size + 1 + 1 ≤ b := (fun b hb => .inl hb)
        have hret : RetMix k n s x ds xa a cap ms pb ca cc l lo w (.returned (.agg #[.int .i64 k, .int .i64 n, .string s, .slice xa x.length xc, .slice a ms.length cap])) (setCells wr (w.heap.size + 1) 0 [.int .i64 k, .int .i64 n, .string s, .slice xa x.length xc, .slice a ms.length cap]) := by
          refine ⟨x, xa, xc, pre, ns, by rw [hnl], hnl, (.inl rfl), hmx, hi', ?_, ?_, ?_, ?_, ?_⟩
          · exact hm'.keep2 (fun b hb => by
              refine setCells_other (w.heap.size + 1) b (fun he => ?_) _ wr 0
              subst he
              rw [SynOwn_blocks] at hb
              rcases List.mem_append.1 hb with h1 | h1
              · rcases hxnew _ h1 with h2 | h2
                · have := (HM.out.lt (w.heap.size + 1) (by rw [SynOwn_blocks, List.mem_append]; exact .inl h2)).2; omega
                · omega
              · rcases hbl _ h1 with h2 | h2
                · have := HBLK.out _ h2; omega
                · omega)
          · exact hcr.belowB (B := w.heap.size) ((setCells_Only (w.heap.size + 1) (bs := [w.heap.size + 1]) (by simp) [.int .i64 k, .int .i64 n, .string s, .slice xa x.length xc, .slice a ms.length cap] wr 0 (Only.refl _ wr)).below (by omega) (by simp)) hpw
          · exact ho.thenN (setCells_Only (w.heap.size + 1) (bs := [w.heap.size + 1]) (by simp) [.int .i64 k, .int .i64 n, .string s, .slice xa x.length xc, .slice a ms.length cap] wr 0 (Only.refl _ wr)) (fun x hx => by simp at hx; subst hx; exact .inr (by omega))
          · exact fun b hb => by
              rcases hbl b hb with h1 | h1
              · exact .inl h1
              · exact .inr (by omega)
          · exact fun b hb => by
              rcases hxnew b hb with h1 | h1
              · exact .inl h1
              · exact .inr (by omega)
        simp only [setCells, Nat.zero_add, Nat.reduceAdd] at hret
        clear hxnew
        have HRET := Lib.hid hret; clear hret; have HMX := Lib.hid hmx; clear hmx; have HI' := Lib.hid hi'; clear hi'; have HM' := Lib.hid hm'; clear hm'; have HBL := Lib.hid hbl; clear hbl; have HCR := Lib.hid hcr; clear hcr; have HO := Lib.hid ho; clear ho; have HNL := Lib.hid hnl; clear hnl
        go_wp2_with fail
        refine bodyPost_ret (v := .agg #[.int .i64 k, .int .i64 n, .string s, .slice xa x.length xc, .slice a ms.length cap]) (by simp [results, Try.results114, go_sem, q0, q1, q2, q3, q4, r0, r1, r2, r3, r4]) rfl ?_
        exact HRET.out
end Go.Proofs.Ytghbnehocggnnaa

/-
  Walks: what the law marks and finds marked: numbers, texts. No condition.
-/
set_option linter.unusedVariables false
set_option linter.unusedSimpArgs false
set_option maxRecDepth 100000
namespace Go.Proofs.Ytghbnehocggnnaa
open Go.RowKit

def cnt (k : Int) (n : Nat) : List Int := (List.range n).map fun (i : Nat) => k + (i : Int)
theorem cnt_length (k : Int) (n : Nat) : (cnt k n).length = n := by simp [cnt]
theorem cnt_get (k : Int) (n i : Nat) (h : i < n) : (cnt k n)[i]? = some (k + i) := by simp [cnt, h]
theorem cnt_set (k : Int) (l : List Int) (i : Nat) (h : i < l.length) : (cnt k i ++ l.drop i).set i (k + i) = cnt k (i + 1) ++ l.drop (i + 1) := by
  rw [List.set_append, cnt_length, if_neg (by omega), Nat.sub_self, ← List.getElem_cons_drop h, List.set_cons_zero]
  simp [cnt, List.range_succ]

/-- What marking n numbers leaves. -/
def MarkedI (a : Option Addr) (cap n : Nat) (k : Int) (lo : Nat) (w : World) (e : Ending) (w' : World) : Prop :=
  e = .returned (.int .i64 (k + n)) ∧ (M.sl a cap 1 3 (intM (cnt k n))).Mine w' lo ∧ Only (addrBlocks a) w w'

def strM (l : List ByteArray) : List M := l.map fun n => .c (.string n)
theorem strM_length (l : List ByteArray) : (strM l).length = l.length := by simp [strM]
theorem strM_append (l r : List ByteArray) : strM (l ++ r) = strM l ++ strM r := by simp [strM]
theorem strM_blocks (l : List ByteArray) : M.blocksL (strM l) = [] := by
  induction l with
  | nil => rfl
  | cons x r ih => simp only [strM, List.map_cons, M.blocksL, M.blocks, List.nil_append]; exact ih
theorem strM_cells (l : List ByteArray) : M.cellsL (strM l) = l.map Value.string := by
  induction l with
  | nil => rfl
  | cons x r ih => simp only [strM, List.map_cons, M.cellsL, M.cells, List.singleton_append]; exact congrArg _ ih
theorem Strs.elem {w : World} {a : Option Addr} {cap : Nat} {e : TypeId} {l : List ByteArray} (h : (M.sl a cap 1 e (strM l)).In w) (k : Nat) (hk : k < l.length) :
    ∃ b off x, a = some ⟨b, off, none⟩ ∧ l[k]? = some x ∧ w.cell? ⟨b, off + k, none⟩ = some (.string x) := by
  have hk' : k < (strM l).length := by rw [strM_length]; exact hk
  obtain ⟨b, off, ha, hel⟩ := h.elem (by omega)
  refine ⟨b, off, l[k], ha, List.getElem?_eq_getElem hk, ?_⟩
  have := hel k hk' 0 (.string l[k]) (by simp [strM, M.cells])
  simpa using this
theorem Strs.len {w : World} {a : Option Addr} {cap : Nat} {e : TypeId} {l : List ByteArray} (h : (M.sl a cap 1 e (strM l)).In w) : l.length ≤ cap ∧ cap ≤ 9223372036854775807 := by
  have := h.len
  rwa [strM_length] at this
theorem Strs.set {w : World} {lo g cap : Nat} {e : TypeId} {l : List ByteArray} (h : (M.sl (some ⟨g, 0, none⟩) cap 1 e (strM l)).Mine w lo) (k : Nat) (hk : k < l.length) (x : ByteArray) :
    (M.sl (some ⟨g, 0, none⟩) cap 1 e (strM (l.set k x))).Mine (w.setCell ⟨g, k, none⟩ (.string x)) lo := by
  have := h.setElem k (by rw [strM_length]; exact hk) (.c (.string x)) rfl (M.Mine.c rfl) (by simp [M.blocks])
  simp only [M.cells, setCells, Nat.mul_one] at this
  rwa [show strM (l.set k x) = (strM l).set k (.c (.string x)) by simp [strM, List.map_set]]
def eqLS (l r : List ByteArray) : Bool := decide (l = r)
theorem eqLS_iff (l r : List ByteArray) : eqLS l r = true ↔ l = r := by simp [eqLS]

def scnt (k : Int) (n : Nat) : List ByteArray := (List.range n).map fun (i : Nat) => mtx (k + (i : Int))
theorem scnt_length (k : Int) (n : Nat) : (scnt k n).length = n := by simp [scnt]
theorem scnt_get (k : Int) (n i : Nat) (h : i < n) : (scnt k n)[i]? = some (mtx (k + i)) := by simp [scnt, h]
theorem scnt_set (k : Int) (l : List ByteArray) (i : Nat) (h : i < l.length) : (scnt k i ++ l.drop i).set i (mtx (k + i)) = scnt k (i + 1) ++ l.drop (i + 1) := by
  rw [List.set_append, scnt_length, if_neg (by omega), Nat.sub_self, ← List.getElem_cons_drop h, List.set_cons_zero]
  simp [scnt, List.range_succ]
def MarkedS (a : Option Addr) (cap n : Nat) (k : Int) (lo : Nat) (w : World) (e : Ending) (w' : World) : Prop :=
  e = .returned (.int .i64 (k + n)) ∧ (M.sl a cap 1 9 (strM (scnt k n))).Mine w' lo ∧ Only (addrBlocks a) w w'

end Go.Proofs.Ytghbnehocggnnaa

/-
  Lists of texts that a call builds. No condition.
-/
set_option linter.unusedVariables false
set_option linter.unusedSimpArgs false
set_option maxRecDepth 100000
namespace Go.Proofs.Ytghbnehocggnnaa
open Go.RowKit

theorem infoS : (Try.prog.info? 9).map (fun i => (i.zero, i.size, i.bytes)) = some (some (.string ⟨#[]⟩), 1, 16) := by kernel_rfl
theorem strM_snoc (l : List ByteArray) (n : ByteArray) : strM l ++ [.c (.string n)] = strM (l ++ [n]) := by simp [strM]
theorem Strs.nil (w : World) (lo : Nat) : (M.sl none 0 1 9 (strM [])).Mine w lo := M.Mine.nil _ _ _ _ (by decide)
/-- the empty literal '[]string{}' -/
theorem Strs.lit (w : World) (lo : Nat) (h : lo ≤ w.heap.size) : (M.sl (some ⟨w.heap.size, 0, none⟩) 0 1 9 (strM [])).Mine (w.alloc (.cells #[] 9)) lo :=
  M.Mine.new rfl h rfl (by decide) (by simp [strM]) (by simp [maxLen]) ⟨trivial, by simp [strM, M.blocksL]⟩
/-- 'out = append(out, s)' -/
theorem wpStrs_push {P : Program} {wr w1 : World} {ops : Array Oper} {rest : List Oper} {o : Oper} {act : Act} {Q : Exit → Act → World → Prop} (hgd : o.guard = none) (s x : Operand) (t : TypeId)
    (ho : o.op = .call { callee := .builtin .append, args := #[s, x], argTypes := #[t, t] })
    (e : TypeId) (z : Value) (ht : P.underlying t = some (.slice e)) (hinfo : (P.info? e).map (fun i => (i.zero, i.size, i.bytes)) = some (some z, 1, 16)) (hzs : z.cells.size = 1)
    (lo : Nat) (a : Option Addr) (cap : Nat) (xs : List ByteArray) (hs : act.eval s = .slice a xs.length cap) (hrow : (M.sl a cap 1 e (strM xs)).Mine wr lo) (hlo : lo ≤ wr.heap.size) (hb : Below wr.heap.size wr w1)
    (n : ByteArray) (hx : act.eval x = .slice (some ⟨w1.heap.size, 0, none⟩) 1 1) (hB : xs.length ≤ 1000000000)
    (k : ∀ a' cap' w', (M.sl a' cap' 1 e (strM (xs ++ [n]))).Mine w' lo → Below lo w1 w' → w1.heap.size ≤ w'.heap.size → (∀ b, b < w1.heap.size → b ∉ addrBlocks a → w'.heap[b]? = w1.heap[b]?) →
      wpList P ops Q rest (act.put o.dst (.slice a' (xs ++ [n]).length cap')) w') : wpList P ops Q (o :: rest) act (w1.alloc (.cells #[.string n] e)) := by
  refine wpList_push hgd s x t ho e z 1 16 ht hinfo hzs (by decide) lo a cap (strM xs) (by rw [strM_length]; exact hs) hrow hlo hb #[.string n] (.c (.string n)) rfl rfl wr.heap.size (M.Mine.c rfl) (Nat.le_refl _) hx (by rw [strM_length]; unfold maxLen; omega) (by rw [strM_length]; omega) ?_
  intro a' cap' w' h1 h2 h3 h4
  rw [strM_snoc] at h1
  rw [strM_length]
  have := k a' cap' w' h1 h2 h3 h4
  simpa using this
end Go.Proofs.Ytghbnehocggnnaa

/-
  Walks: texts drawn. No condition.
-/
set_option linter.unusedVariables false
set_option linter.unusedSimpArgs false
set_option maxRecDepth 100000
namespace Go.Proofs.Ytghbnehocggnnaa
open Go.RowKit

/-- a short text drawn -/
def DrawnT (pb : Nat) (a : Option Addr) (cap : Nat) (l : List Int) (w : World) (e : Ending) (w' : World) : Prop :=
  ∃ x : ByteArray, e = .returned (.string x) ∧ x.size ≤ 100 ∧ Cur pb a cap l w' ∧ OnlyIn pb (pb + 1) w w'
def Texts (cs : Array Value) : Prop := ∀ v ∈ cs.toList, ∃ s : ByteArray, v = .string s ∧ s.size ≤ 100
theorem l01Pick_lit (cs : Array Value) (n : Nat) (pb : Nat) (a : Option Addr) (cap : Nat) (l : List Int) (w : World) (hc : Cur pb a cap l w) (hn : cs.size = n) (h0 : 0 < n) (h1 : n ≤ 1000) (ht : Texts cs) :
    Calls Try.prog 88 #[.pointer (some ⟨pb, 0, none⟩), .slice (some ⟨w.heap.size, 0, none⟩) n n] (w.alloc (.cells cs 9)) (DrawnT pb a cap l w) := by
  have hp := hc.lt
  have hcell : ∀ k, k < n → ∃ s : ByteArray, (w.alloc (.cells cs 9)).cell? ⟨w.heap.size, k, none⟩ = some (.string s) ∧ s.size ≤ 100 := by
    intro k hk
    obtain ⟨s, hs, hz⟩ := ht cs[k] (by simp)
    refine ⟨s, ?_, hz⟩
    rw [World.cell?_alloc_new]
    rw [← hs]
    simp
  have HC := Lib.hid hc; clear hc; have HCELL := Lib.hid hcell; clear hcell; have HT := Lib.hid ht; clear ht
  go_enter Try.func88, Try.ntmps88
  go_wp2_with fail
  refine (l01Below_calls n pb a cap l _ (HC.out.below (by (repeat (first | with_reducible assumption | with_reducible exact Below.refl _ _ | with_reducible refine Below.drew ?_ | with_reducible refine belowDrewN ?_ _ | ((with_reducible refine Below.setCell ?_ ?_ _); rotate_left; focus (first | omega | (simp; done) | (simp; omega))) | ((with_reducible refine Below.alloc ?_ ?_ _); rotate_left; focus (first | omega | (simp; done) | (simp; omega))))))) (by omega) (by omega)).mono ?_
  rintro e w1 ⟨x, rfl, hx0, hx1, hc1, ho1⟩
  obtain ⟨k, rfl⟩ := Int.eq_ofNat_of_zero_le hx0
  obtain ⟨s, hs, hz⟩ := HCELL.out k (by omega)
  have hkl : k < n := by omega
  have hs1 : w1.cell? ⟨w.heap.size, k, none⟩ = some (.string s) := (World.cell?_of_block (ho1.block w.heap.size (by simp) (.inr (by omega)))).trans hs
  have hoo : OnlyIn pb (pb + 1) w w1 := ((OnlyIn.refl _ _ _).new _).trans ho1
  have HC1 := Lib.hid hc1; clear hc1; have HO1 := Lib.hid ho1; clear ho1; have HOO := Lib.hid hoo; clear hoo; have HS := Lib.hid hs; clear hs
  go_wp2_with fail
  go_ret
  exact ⟨s, rfl, hz, HC1.out, HOO.out⟩
/-- a number of the machine drawn -/
def DrawnN (m : Int) (pb : Nat) (a : Option Addr) (cap : Nat) (l : List Int) (w : World) (e : Ending) (w' : World) : Prop :=
  ∃ x : Int, e = .returned (.int .i64 x) ∧ I64 x ∧ Cur pb a cap l w' ∧ OnlyIn pb (pb + 1) w w'
def Nums (cs : Array Value) : Prop := ∀ v ∈ cs.toList, ∃ s : Int, v = .int .i64 s ∧ I64 s
theorem l01Int_lit (cs : Array Value) (n : Nat) (pb : Nat) (a : Option Addr) (cap : Nat) (l : List Int) (w : World) (hc : Cur pb a cap l w) (hn : cs.size = n) (h0 : 0 < n) (h1 : n ≤ 1000) (ht : Nums cs) :
    Calls Try.prog 102 #[.pointer (some ⟨pb, 0, none⟩), .slice (some ⟨w.heap.size, 0, none⟩) n n] (w.alloc (.cells cs 3)) (DrawnN 0 pb a cap l w) := by
  have hp := hc.lt
  have hcell : ∀ k, k < n → ∃ s : Int, (w.alloc (.cells cs 3)).cell? ⟨w.heap.size, k, none⟩ = some (.int .i64 s) ∧ I64 s := by
    intro k hk
    obtain ⟨s, hs, hz⟩ := ht cs[k] (by simp)
    refine ⟨s, ?_, hz⟩
    rw [World.cell?_alloc_new]
    rw [← hs]
    simp
  have HC := Lib.hid hc; clear hc; have HCELL := Lib.hid hcell; clear hcell; have HT := Lib.hid ht; clear ht
  go_enter Try.func102, Try.ntmps102
  go_wp2_with fail
  refine (l01Below_calls n pb a cap l _ (HC.out.below (by (repeat (first | with_reducible assumption | with_reducible exact Below.refl _ _ | with_reducible refine Below.drew ?_ | with_reducible refine belowDrewN ?_ _ | ((with_reducible refine Below.setCell ?_ ?_ _); rotate_left; focus (first | omega | (simp; done) | (simp; omega))) | ((with_reducible refine Below.alloc ?_ ?_ _); rotate_left; focus (first | omega | (simp; done) | (simp; omega))))))) (by omega) (by omega)).mono ?_
  rintro e w1 ⟨x, rfl, hx0, hx1, hc1, ho1⟩
  obtain ⟨k, rfl⟩ := Int.eq_ofNat_of_zero_le hx0
  obtain ⟨s, hs, hz⟩ := HCELL.out k (by omega)
  have hkl : k < n := by omega
  have hs1 : w1.cell? ⟨w.heap.size, k, none⟩ = some (.int .i64 s) := (World.cell?_of_block (ho1.block w.heap.size (by simp) (.inr (by omega)))).trans hs
  have hoo : OnlyIn pb (pb + 1) w w1 := ((OnlyIn.refl _ _ _).new _).trans ho1
  have HC1 := Lib.hid hc1; clear hc1; have HO1 := Lib.hid ho1; clear ho1; have HOO := Lib.hid hoo; clear hoo; have HS := Lib.hid hs; clear hs; have HZ := Lib.hid hz; clear hz
  go_wp2_with fail
  go_ret
  exact ⟨s, rfl, HZ.out, HC1.out, HOO.out⟩
end Go.Proofs.Ytghbnehocggnnaa

/-
  Walks: the program's measure of a datum. No condition.
-/
set_option linter.unusedVariables false
set_option linter.unusedSimpArgs false
set_option maxRecDepth 100000
namespace Go.Proofs.Ytghbnehocggnnaa
open Go.RowKit

def MsOk (k n : Int) (s : ByteArray) (ds : List Dat) (D C : Int) : Prop := D + Dat.depthL ds ≤ 20 ∧ C + 1 + Dat.countL ds ≤ 600 ∧ (Dat.mk k n s ds).ok
def RetMs (ok : Prop) (C : Int) (m : Nat) (pb : Nat) (w : World) (e : Ending) (w' : World) : Prop :=
  ∃ (b : Bool) (C' : Int), e = .returned (.bool b) ∧ (b = true ↔ ok) ∧ (b = true → C' = C + m) ∧ C ≤ C' ∧ C' ≤ C + m ∧ w'.cell? ⟨pb, 0, none⟩ = some (.int .i64 C') ∧ w'.frozen? ⟨pb, 0, none⟩ = false ∧ OnlyIn pb (pb + 1) w w'
def MsDs (ds : List Dat) : Prop := ∀ (k n : Int) (s : ByteArray) (a : Option Addr) (cap : Nat) (ms : List M) (D : Int) (pb : Nat) (C : Int) (w0 w : World), (Dat.mk k n s ds).wf → Dat.countL ds ≤ 1000000000 → Dat.IsL 52 ds ms → (M.sl a cap 4 52 ms).In w0 →
    Below w0.heap.size w0 w → w0.heap.size ≤ pb → 0 ≤ D → D ≤ 1000000000 → 0 ≤ C → C ≤ 1000000000 → w.cell? ⟨pb, 0, none⟩ = some (.int .i64 C) → w.frozen? ⟨pb, 0, none⟩ = false →
    Calls Try.prog 105 #[.agg #[.int .i64 k, .int .i64 n, .string s, .slice a ms.length cap], .int .i64 D, .pointer (some ⟨pb, 0, none⟩)] w (RetMs (MsOk k n s ds D C) C (1 + Dat.countL ds) pb w)
theorem measure_calls : ∀ ds, MsDs ds := by
  refine Dat.inductL fun ds ih => ?_
  intro k n s a cap ms D pb C w0 w hwf hB hi hin hb0 hpb hD0 hD9 hC0 hC9 hp hpf
  have hl := hi.length
  have hcap := hin.len
  have hpw := World.block_lt_of_cell? w _ hp
  simp only at hpw
  have hs : s.size ≤ 9223372036854775807 := hwf.2.2.1
  have hwl := hwf.2.2.2
  have hok : MsOk k n s ds D C ↔ D + Dat.depthL ds ≤ 20 ∧ C + 1 + Dat.countL ds ≤ 600 ∧ nodeB k n s ms.length = true ∧ ∀ d ∈ ds, d.ok := by unfold MsOk; rw [Dat.ok_mk, ← hl]
  clear hwf
  have ho1 : OnlyIn pb (pb + 1) w (w.setCell ⟨pb, 0, none⟩ (.int .i64 (C + 1))) := (OnlyIn.refl pb (pb + 1) w).set ⟨pb, 0, none⟩ _ (Nat.le_refl _) (Nat.lt_succ_self _)
  by_cases hdeep : 20 < D
  · have hno : ¬ MsOk k n s ds D C := fun h => by have := h.1; omega
    have IH := Lib.hid ih; clear ih; have HIN := Lib.hid hin; clear hin; have HI := Lib.hid hi; clear hi; have HL := Lib.hid hl; clear hl; have HWL := Lib.hid hwl; clear hwl; have HOK := Lib.hid hok; clear hok; have HNO := Lib.hid hno; clear hno
    go_enter Try.func105, Try.ntmps105
    go_wp2_with fail
    go_ret
    refine ⟨false, C + 1, rfl, by simp [HNO.out], by simp, by omega, by omega, ?_, ?_, ?_⟩
    · simp (disch := (first | omega | (simp; omega))) [go_sem, hp]
    · simp (disch := (first | omega | (simp; omega))) [go_sem, hpf]
    · first | exact ho1 | exact ho1.new _
  · by_cases hmany : 600 < C + 1
    · have hno : ¬ MsOk k n s ds D C := fun h => by have := h.2.1; omega
      have IH := Lib.hid ih; clear ih; have HIN := Lib.hid hin; clear hin; have HI := Lib.hid hi; clear hi; have HL := Lib.hid hl; clear hl; have HWL := Lib.hid hwl; clear hwl; have HOK := Lib.hid hok; clear hok; have HNO := Lib.hid hno; clear hno
      go_enter Try.func105, Try.ntmps105
      go_wp2_with fail
      go_ret
      refine ⟨false, C + 1, rfl, by simp [HNO.out], by simp, by omega, by omega, ?_, ?_, ?_⟩
      · simp (disch := (first | omega | (simp; omega))) [go_sem, hp]
      · simp (disch := (first | omega | (simp; omega))) [go_sem, hpf]
      · first | exact ho1 | exact ho1.new _
    · cases hnode : nodeB k n s ms.length with
      | false =>
        have hno : ¬ MsOk k n s ds D C := fun h => by rw [hok, hnode] at h; simp at h
        have IH := Lib.hid ih; clear ih; have HIN := Lib.hid hin; clear hin; have HI := Lib.hid hi; clear hi; have HL := Lib.hid hl; clear hl; have HWL := Lib.hid hwl; clear hwl; have HOK := Lib.hid hok; clear hok; have HNO := Lib.hid hno; clear hno
        go_enter Try.func105, Try.ntmps105
        go_wp2_with fail
        refine (rightNode_calls k n s ms.length _ hs).mono ?_
        rintro e w1 ⟨rfl, rfl⟩
        go_wp2_with fail
        go_ret
        refine ⟨false, C + 1, rfl, by simp [HNO.out], by simp, by omega, by omega, ?_, ?_, ?_⟩
        · simp (disch := (first | omega | (simp; omega))) [go_sem, hp]
        · simp (disch := (first | omega | (simp; omega))) [go_sem, hpf]
        · first | exact ho1 | exact ho1.new _
      | true =>
        have IH := Lib.hid ih; clear ih; have HIN := Lib.hid hin; clear hin; have HI := Lib.hid hi; clear hi; have HL := Lib.hid hl; clear hl; have HWL := Lib.hid hwl; clear hwl; have HOK := Lib.hid hok; clear hok
        go_enter Try.func105, Try.ntmps105
        go_wp2_with fail
        refine (rightNode_calls k n s ms.length _ hs).mono ?_
        rintro e w1 ⟨rfl, rfl⟩
        go_wp2_with fail
        have hs' : (w.setCell ⟨pb, 0, none⟩ (.int .i64 (C + 1))).heap.size = w.heap.size := by simp
        go_loopw [38] (fun i wr => ∃ (j : Nat), j ≤ ms.length ∧ i = .int .i64 j ∧ D + Dat.depthL (ds.take j) ≤ 20 ∧ C + 1 + Dat.countL (ds.take j) ≤ 600 ∧ (∀ x ∈ ds.take j, x.ok) ∧ (wr.cell? ⟨pb, 0, none⟩ = some (.int .i64 (C + 1 + Dat.countL (ds.take j))) ∧ wr.frozen? ⟨pb, 0, none⟩ = false) ∧ OnlyIn pb (pb + 1) w wr ∧ w.heap.size + 1 ≤ wr.heap.size) (fun i _ => ms.length - (intOf i).toNat)
        case atStart =>
          refine ⟨0, Nat.zero_le _, rfl, by simp [Dat.depthL]; omega, by simp [Dat.countL]; omega, by simp, ?_, ho1.new _, by simp⟩
          simp (disch := (first | omega | (simp; omega))) [go_sem, hp, hpf, Dat.countL]
        case round =>
          obtain ⟨j, hj, rfl, hdp, hct, hpre, ⟨q, qf⟩, ho, hsz⟩ := hrel
          have hbz := ho.low hb0 hpb
          by_cases hlt : j < ms.length
          · obtain ⟨b, off, k1, n1, s1, ds1, a1, cap1, ms1, rfl, hd, hi1, hin1, c0, c1, c2, c3⟩ := Dat.elem HIN.out HI.out j hlt
            have hbl := World.block_lt_of_cell? w0 _ c0
            simp only at hbl
            have e0 := (hbz.cell (p := ⟨b, _, none⟩) hbl).trans c0
            have e1 := (hbz.cell (p := ⟨b, _, none⟩) hbl).trans c1
            have e2 := (hbz.cell (p := ⟨b, _, none⟩) hbl).trans c2
            have e3 := (hbz.cell (p := ⟨b, _, none⟩) hbl).trans c3
            clear c0 c1 c2 c3
            obtain ⟨ht, hle⟩ := Dat.countL_le ds j _ hd
            have htd := Dat.depthL_take hd
            have hgd := Dat.depthL_get hd
            have hw1 := Dat.wfL_get HWL.out hd
            have hmem := List.mem_of_getElem? hd
            simp only [Dat.count] at hle ht
            simp only [Dat.depth] at htd hgd
            have hD20 : D ≤ 20 := by omega
            have hbx := hbz.alloc (by first | exact hbz.size | omega) (.cells #[.int .i64 k1, .int .i64 n1, .string s1, .slice a1 ms1.length cap1] 52)
            generalize hCe : C + 1 + (Dat.countL (ds.take j) : Int) = C1 at *
            have hC1 : 0 ≤ C1 := by omega
            have hpr : pb < wr.heap.size := by omega
            have q1 : (wr.alloc (.cells #[.int .i64 k1, .int .i64 n1, .string s1, .slice a1 ms1.length cap1] 52)).cell? ⟨pb, 0, none⟩ = some (.int .i64 C1) := by simp (disch := (first | omega | (simp; omega))) [go_sem, q]
            have q1f : (wr.alloc (.cells #[.int .i64 k1, .int .i64 n1, .string s1, .slice a1 ms1.length cap1] 52)).frozen? ⟨pb, 0, none⟩ = false := by simp (disch := (first | omega | (simp; omega))) [go_sem, qf]
            have HD := Lib.hid hd; clear hd; have HI1 := Lib.hid hi1; clear hi1; have HIN1 := Lib.hid hin1; clear hin1; have HMEM := Lib.hid hmem; clear hmem; have HT := Lib.hid ht; clear ht; have HTD := Lib.hid htd; clear htd; have HGD := Lib.hid hgd; clear hgd; have HW1 := Lib.hid hw1; clear hw1; have HB0 := Lib.hid hb0; clear hb0; have HBZ := Lib.hid hbz; clear hbz; have HO := Lib.hid ho; clear ho; have HBX := Lib.hid hbx; clear hbx; have HPRE := Lib.hid hpre; clear hpre; have HCE := Lib.hid hCe; clear hCe; have Q1 := Lib.hid q1; clear q1; have Q1F := Lib.hid q1f; clear q1f
            go_wp2_with fail
            refine (IH.out k1 n1 s1 ds1 HMEM.out k1 n1 s1 a1 cap1 ms1 (D + 1) pb C1 w0 _ HW1.out (by omega) HI1.out HIN1.out HBX.out hpb (by omega) (by omega) hC1 (by omega) Q1.out Q1F.out).mono ?_
            rintro e w1 ⟨bb, C', rfl, hbb, hbc, hlo, hhi, q', qf', ho2⟩
            have hof := (HO.out.new (.cells #[.int .i64 k1, .int .i64 n1, .string s1, .slice a1 ms1.length cap1] 52)).trans ho2
            have hz2 := ho2.size
            simp only [World.size_alloc] at hz2
            cases bb with
            | true =>
              obtain ⟨m1, m2, m3⟩ := hbb.1 rfl
              have hcc := hbc rfl
              have hpre2 := ok_take HPRE.out HD.out m3
              have hdp2 : D + (Dat.depthL (ds.take (j + 1)) : Int) ≤ 20 := by rw [HTD.out]; omega
              have hct2 : C + 1 + (Dat.countL (ds.take (j + 1)) : Int) = C' := by rw [HT.out, hcc, ← HCE.out]; push_cast; omega
              have HOF := Lib.hid hof; clear hof; have HO2 := Lib.hid ho2; clear ho2; have HPRE2 := Lib.hid hpre2; clear hpre2; have HDP2 := Lib.hid hdp2; clear hdp2; have HBB := Lib.hid hbb; clear hbb; have HBC := Lib.hid hbc; clear hbc; have HCC := Lib.hid hcc; clear hcc; have M3 := Lib.hid m3; clear m3
              go_wp2_with fail
              go_roundw
              case rel => exact ⟨j + 1, by omega, by go_num, HDP2.out, by rw [hct2]; have := HCC.out; omega, HPRE2.out, ⟨by rw [hct2]; exact q', qf'⟩, HOF.out, by omega⟩
              case measure => simp [intOf]; omega
            | false =>
              have hno : ¬ MsOk k n s ds D C := fun h => by
                have h' := HOK.out.1 h
                have : ¬ MsOk k1 n1 s1 ds1 (D + 1) C1 := fun h2 => by have := hbb.2 h2; simp at this
                apply this
                refine ⟨?_, ?_, h'.2.2.2 _ HMEM.out⟩
                · have := HGD.out; omega
                · have := HCE.out; omega
              have hcl : C + ((1 + Dat.countL ds : Nat) : Int) = C + 1 + Dat.countL ds := by push_cast; omega
              have hce := HCE.out
              have HOF := Lib.hid hof; clear hof; have HO2 := Lib.hid ho2; clear ho2; have HBB := Lib.hid hbb; clear hbb; have HBC := Lib.hid hbc; clear hbc; have HNO := Lib.hid hno; clear hno
              go_wp2_with fail
              go_ret
              exact ⟨false, C', rfl, by simp [HNO.out], by simp, by omega, by push_cast at hhi ⊢; omega, q', qf', HOF.out⟩
          · have hk2 : j = ms.length := by omega
            subst hk2
            have hd2 : ds.take ms.length = ds := by rw [HL.out, List.take_length]
            rw [hd2] at q hdp hct hpre
            have hyes : MsOk k n s ds D C := HOK.out.2 ⟨hdp, hct, hnode, hpre⟩
            have HO := Lib.hid ho; clear ho; have HBZ := Lib.hid hbz; clear hbz; have HD2 := Lib.hid hd2; clear hd2; have HYES := Lib.hid hyes; clear hyes; have HPRE := Lib.hid hpre; clear hpre
            go_wp2_with fail
            go_ret
            exact ⟨true, _, rfl, by simp [HYES.out], fun _ => rfl, by push_cast; omega, Int.le_refl _, by rw [q]; congr 2; push_cast; omega, qf, HO.out⟩
end Go.Proofs.Ytghbnehocggnnaa
