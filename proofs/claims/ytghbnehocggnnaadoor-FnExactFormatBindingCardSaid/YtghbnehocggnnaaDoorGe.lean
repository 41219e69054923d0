/-
  Texts set together by wip/tools/merge.py: Syn, Open2, D2, Y2, Mk, G2. No condition beyond those told with each.
-/
import Derived.Test.YtghbnehocggnnaaDoorGd
/-
  Pieces of syntax in memory. No condition.
-/
set_option linter.unusedVariables false
set_option linter.unusedSimpArgs false
namespace Go.Proofs.YtghbnehocggnnaaDoor
open Go.RowKit

inductive Syn where
  | mk (k n : Int) (s : ByteArray) (c : List Int) (ds : List Syn)

mutual
def Syn.Is (e : TypeId) : Syn → M → Prop
  | .mk k n s c ds, m => ∃ ca ccap a cap ms, m = .ag [.c (.int .i64 k), .c (.int .i64 n), .c (.string s), .sl ca ccap 1 3 (intM c), .sl a cap 5 e ms] ∧ Syn.IsL e ds ms
def Syn.IsL (e : TypeId) : List Syn → List M → Prop
  | [], ms => ms = []
  | d :: ds, ms => ∃ m r, ms = m :: r ∧ d.Is e m ∧ Syn.IsL e ds r
end

theorem Syn.IsL.length {e : TypeId} : ∀ {ds : List Syn} {ms : List M}, Syn.IsL e ds ms → ms.length = ds.length
  | [], _, h => by simp [Syn.IsL] at h; simp [h]
  | d :: ds, ms, h => by
    obtain ⟨m, r, rfl, _, h2⟩ := h
    simp [Syn.IsL.length h2]

theorem Syn.IsL.get {e : TypeId} : ∀ {ds : List Syn} {ms : List M}, Syn.IsL e ds ms → ∀ (k : Nat) (hk : k < ds.length) (hk' : k < ms.length), (ds[k]).Is e (ms[k])
  | [], _, h, k, hk, _ => by simp at hk
  | d :: ds, ms, h, k, hk, hk' => by
    obtain ⟨m, r, rfl, h1, h2⟩ := h
    cases k with
    | zero => exact h1
    | succ k => exact Syn.IsL.get h2 k (by simpa using hk) (by simpa using hk')

mutual
def Syn.count : Syn → Nat
  | .mk _ _ _ _ ds => 1 + Syn.countL ds
def Syn.countL : List Syn → Nat
  | [] => 0
  | d :: ds => d.count + Syn.countL ds
end

theorem Syn.countL_append (xs ys : List Syn) : Syn.countL (xs ++ ys) = Syn.countL xs + Syn.countL ys := by
  induction xs with
  | nil => simp [Syn.countL]
  | cons x r ih => simp only [List.cons_append, Syn.countL, ih]; omega
theorem Syn.count_pos (d : Syn) : 0 < d.count := by cases d; simp only [Syn.count]; omega
theorem Syn.countL_get (ds : List Syn) (k : Nat) (hk : k < ds.length) : Syn.countL (ds.take k) + (ds[k]).count + Syn.countL (ds.drop (k + 1)) = Syn.countL ds := by
  conv => rhs; rw [← List.take_append_drop k ds, ← List.getElem_cons_drop hk, Syn.countL_append, Syn.countL]
  omega
theorem Syn.countL_take (ds : List Syn) (k : Nat) (hk : k < ds.length) : Syn.countL (ds.take (k + 1)) = Syn.countL (ds.take k) + (ds[k]).count := by
  rw [List.take_succ_eq_append_getElem hk, Syn.countL_append]; simp [Syn.countL]


/-- element k of a slice of syntax: its five cells, as the walk writes their addresses -/
theorem Syn.elem {w : World} {a : Option Addr} {cap : Nat} {e : TypeId} {ds : List Syn} {ms : List M} (h : (M.sl a cap 5 e ms).In w) (hi : Syn.IsL e ds ms) (k : Nat) (hk : k < ms.length) :
    ∃ b off k1 n1 s1 x1 ds1 xa1 xc1 a1 cap1 ms1, a = some ⟨b, off, none⟩ ∧ ds[k]? = some (.mk k1 n1 s1 x1 ds1) ∧ Syn.IsL e ds1 ms1 ∧ (M.sl xa1 xc1 1 3 (intM x1)).In w ∧ (M.sl a1 cap1 5 e ms1).In w ∧
      w.cell? ⟨b, off + k * 5, none⟩ = some (.int .i64 k1) ∧ w.cell? ⟨b, off + k * 5 + 1, none⟩ = some (.int .i64 n1) ∧
      w.cell? ⟨b, off + k * 5 + 2, none⟩ = some (.string s1) ∧ w.cell? ⟨b, off + k * 5 + 3, none⟩ = some (.slice xa1 x1.length xc1) ∧ w.cell? ⟨b, off + k * 5 + 4, none⟩ = some (.slice a1 ms1.length cap1) := by
  obtain ⟨b, off, ha, hel⟩ := h.elem (by omega)
  have hl := hi.length
  have hg := hi.get k (by omega) hk
  have hs := h.sub k hk
  obtain ⟨k1, n1, s1, x1, ds1, hd⟩ : ∃ k1 n1 s1 x1 ds1, ds[k] = .mk k1 n1 s1 x1 ds1 := by cases ds[k]; exact ⟨_, _, _, _, _, rfl⟩
  rw [hd] at hg
  obtain ⟨xa1, xc1, a1, cap1, ms1, hm, hi1⟩ := hg
  rw [hm] at hs
  refine ⟨b, off, k1, n1, s1, x1, ds1, xa1, xc1, a1, cap1, ms1, ha, by rw [← hd]; exact List.getElem?_eq_getElem (by omega), hi1, hs.2.2.2.1, hs.2.2.2.2.1, ?_, ?_, ?_, ?_, ?_⟩
  · exact hel k hk 0 _ (by rw [hm]; rfl)
  · exact hel k hk 1 _ (by rw [hm]; rfl)
  · exact hel k hk 2 _ (by rw [hm]; rfl)
  · have := hel k hk 3 (.slice xa1 (intM x1).length xc1) (by rw [hm]; rfl)
    rwa [intM_length] at this
  · exact hel k hk 4 _ (by rw [hm]; rfl)

theorem Syn.countL_le (ds : List Syn) (k : Nat) (d : Syn) (h : ds[k]? = some d) : Syn.countL (ds.take (k+1)) = Syn.countL (ds.take k) + d.count ∧ Syn.countL (ds.take k) + d.count ≤ Syn.countL ds := by
  obtain ⟨hk, rfl⟩ := List.getElem?_eq_some_iff.1 h
  have := Syn.countL_get ds k hk
  exact ⟨Syn.countL_take ds k hk, by omega⟩
theorem Syn.length_le (ds : List Syn) : ds.length ≤ Syn.countL ds := by
  induction ds with
  | nil => simp
  | cons d r ih => have := d.count_pos; simp only [Syn.countL, List.length_cons]; omega

theorem Syn.IsL.snoc {e : TypeId} : ∀ {ds : List Syn} {ms : List M} {d : Syn} {m : M}, Syn.IsL e ds ms → d.Is e m → Syn.IsL e (ds ++ [d]) (ms ++ [m])
  | [], ms, d, m, h, hd => by simp [Syn.IsL] at h; subst h; exact ⟨m, [], rfl, hd, rfl⟩
  | x :: ds, ms, d, m, h, hd => by
    obtain ⟨y, r, rfl, h1, h2⟩ := h
    exact ⟨y, r ++ [m], rfl, h1, Syn.IsL.snoc h2 hd⟩
/-- What a function that makes data hands back. -/
def RetSyns (e : TypeId) (ds : List Syn) (w : World) (en : Ending) (w' : World) : Prop :=
  ∃ a cap ms, en = .returned (.slice a ms.length cap) ∧ Syn.IsL e ds ms ∧ (M.sl a cap 5 e ms).Mine w' w.heap.size ∧ Below w.heap.size w w'
/-- A piece of syntax whose two rows are one's own. -/
def SynOwn (e : TypeId) (xa : Option Addr) (xc : Nat) (x : List Int) (a : Option Addr) (cap : Nat) (ms : List M) : M := .ag [.sl xa xc 1 3 (intM x), .sl a cap 5 e ms]
theorem SynIn_mk {e : TypeId} {xa : Option Addr} {xc : Nat} {x : List Int} {a : Option Addr} {cap : Nat} {ms : List M} {w : World} (h : (M.sl xa xc 1 3 (intM x)).In w) (h2 : (M.sl a cap 5 e ms).In w) : (SynOwn e xa xc x a cap ms).In w := ⟨h, h2, trivial⟩
theorem SynIn_x {e : TypeId} {xa : Option Addr} {xc : Nat} {x : List Int} {a : Option Addr} {cap : Nat} {ms : List M} {w : World} (h : (SynOwn e xa xc x a cap ms).In w) : (M.sl xa xc 1 3 (intM x)).In w := And.left h
theorem SynIn_ms {e : TypeId} {xa : Option Addr} {xc : Nat} {x : List Int} {a : Option Addr} {cap : Nat} {ms : List M} {w : World} (h : (SynOwn e xa xc x a cap ms).In w) : (M.sl a cap 5 e ms).In w := And.left (And.right h)
def Syn.k : Syn → Int | .mk k _ _ _ _ => k
def Syn.n : Syn → Int | .mk _ n _ _ _ => n
def Syn.s : Syn → ByteArray | .mk _ _ s _ _ => s
def Syn.x : Syn → List Int | .mk _ _ _ x _ => x
def Syn.ds : Syn → List Syn | .mk _ _ _ _ ds => ds
@[simp] theorem Syn.k_mk (k n : Int) (s : ByteArray) (x : List Int) (ds : List Syn) : (Syn.mk k n s x ds).k = k := rfl
@[simp] theorem Syn.n_mk (k n : Int) (s : ByteArray) (x : List Int) (ds : List Syn) : (Syn.mk k n s x ds).n = n := rfl
@[simp] theorem Syn.s_mk (k n : Int) (s : ByteArray) (x : List Int) (ds : List Syn) : (Syn.mk k n s x ds).s = s := rfl
@[simp] theorem Syn.x_mk (k n : Int) (s : ByteArray) (x : List Int) (ds : List Syn) : (Syn.mk k n s x ds).x = x := rfl
@[simp] theorem Syn.ds_mk (k n : Int) (s : ByteArray) (x : List Int) (ds : List Syn) : (Syn.mk k n s x ds).ds = ds := rfl
def RetSyn (e : TypeId) (d : Syn) (w : World) (en : Ending) (w' : World) : Prop :=
  ∃ xa xc a cap ms, en = .returned (.agg #[.int .i64 d.k, .int .i64 d.n, .string d.s, .slice xa d.x.length xc, .slice a ms.length cap]) ∧ Syn.IsL e d.ds ms ∧ (SynOwn e xa xc d.x a cap ms).Mine w' w.heap.size ∧ Below w.heap.size w w'

mutual
/-- the numbers are Go's ints -/
def Syn.wf : Syn → Prop
  | .mk k n s c ds => I64 k ∧ I64 n ∧ s.size ≤ 9223372036854775807 ∧ (∀ z ∈ c, I64 z) ∧ Syn.wfL ds
def Syn.wfL : List Syn → Prop
  | [] => True
  | d :: ds => d.wf ∧ Syn.wfL ds
end
theorem Syn.wfL_get : ∀ {ds : List Syn}, Syn.wfL ds → ∀ {k : Nat} {d : Syn}, ds[k]? = some d → d.wf
  | [], _, k, d, h => by simp at h
  | x :: r, h, 0, d, e => by simp at e; exact e ▸ h.1
  | x :: r, h, k + 1, d, e => Syn.wfL_get h.2 (by simpa using e)

/-- What holds of a list of data if it holds of the items of each holds of all. -/
theorem Syn.inductL {P : List Syn → Prop} (h : ∀ ds, (∀ k n s x es, Syn.mk k n s x es ∈ ds → P es) → P ds) (ds : List Syn) : P ds := by
  have key : ∀ B ds, Syn.countL ds ≤ B → P ds := by
    intro B
    induction B with
    | zero =>
      intro ds hB
      cases ds with
      | nil => exact h [] fun _ _ _ _ _ hm => by cases hm
      | cons d r => have := d.count_pos; simp only [Syn.countL] at hB; omega
    | succ B ih =>
      intro ds hB
      refine h ds fun k n s x es hm => ih es ?_
      obtain ⟨i, hi, he⟩ := List.mem_iff_getElem.1 hm
      have := (Syn.countL_le ds i _ (by rw [List.getElem?_eq_getElem hi, he])).2
      simp only [Syn.count] at this
      omega
  exact key _ ds (Nat.le_refl _)

mutual
/-- how many values and letters a datum holds, itself aside -/
def Syn.wt : Syn → Nat
  | .mk _ _ s c ds => s.size + (c.length + (ds.length + Syn.wtX ds))
def Syn.wtX : List Syn → Nat
  | [] => 0
  | d :: ds => d.wt + Syn.wtX ds
end
theorem Syn.wtX_append (xs ys : List Syn) : Syn.wtX (xs ++ ys) = Syn.wtX xs + Syn.wtX ys := by
  induction xs with
  | nil => simp [Syn.wtX]
  | cons x r ih => simp only [List.cons_append, Syn.wtX, ih]; omega
theorem Syn.wtX_take {ds : List Syn} {k : Nat} {d : Syn} (h : ds[k]? = some d) : Syn.wtX (ds.take (k + 1)) = Syn.wtX (ds.take k) + d.wt := by
  rw [take_snoc h, Syn.wtX_append]; simp [Syn.wtX]
theorem Syn.countL_wt (ds : List Syn) : Syn.countL ds ≤ ds.length + Syn.wtX ds := by
  refine Syn.inductL (P := fun ds => Syn.countL ds ≤ ds.length + Syn.wtX ds) (fun ds ih => ?_) ds
  induction ds with
  | nil => simp [Syn.countL]
  | cons d r ihr =>
    obtain ⟨k, n, s, x, es⟩ := d
    have h1 := ih k n s x es (List.mem_cons_self ..)
    have h2 := ihr fun k n s x es hm => ih k n s x es (List.mem_cons_of_mem _ hm)
    simp only [Syn.countL, Syn.count, Syn.wtX, Syn.wt, List.length_cons]
    omega

mutual
def Syn.depth : Syn → Nat
  | .mk _ _ _ _ ds => Syn.depthL ds + 1
def Syn.depthL : List Syn → Nat
  | [] => 0
  | d :: ds => max d.depth (Syn.depthL ds)
end
theorem Syn.depthL_append (xs ys : List Syn) : Syn.depthL (xs ++ ys) = max (Syn.depthL xs) (Syn.depthL ys) := by
  induction xs with
  | nil => simp [Syn.depthL]
  | cons x r ih => simp only [List.cons_append, Syn.depthL, ih]; omega
theorem Syn.depthL_take {ds : List Syn} {k : Nat} {d : Syn} (h : ds[k]? = some d) : Syn.depthL (ds.take (k + 1)) = max (Syn.depthL (ds.take k)) d.depth := by
  rw [take_snoc h, Syn.depthL_append]; simp [Syn.depthL]
theorem Syn.depthL_get {ds : List Syn} {k : Nat} {d : Syn} (h : ds[k]? = some d) : d.depth ≤ Syn.depthL ds := by
  have : Syn.depthL ds = max (Syn.depthL (ds.take (k + 1))) (Syn.depthL (ds.drop (k + 1))) := by rw [← Syn.depthL_append, List.take_append_drop]
  rw [this, Syn.depthL_take h]; omega
theorem Syn.depthL_le (ds : List Syn) : Syn.depthL ds ≤ Syn.countL ds := by
  refine Syn.inductL (P := fun ds => Syn.depthL ds ≤ Syn.countL ds) (fun ds ih => ?_) ds
  induction ds with
  | nil => simp [Syn.countL, Syn.depthL]
  | cons d r ihr =>
    obtain ⟨k, n, s, x, es⟩ := d
    have h1 := ih k n s x es (List.mem_cons_self ..)
    have h2 := ihr fun k n s x es hm => ih k n s x es (List.mem_cons_of_mem _ hm)
    simp only [Syn.countL, Syn.count, Syn.depthL, Syn.depth]
    omega

end Go.Proofs.YtghbnehocggnnaaDoor

/-
  The arguments of a law, opened: syntax, bindings. No condition.
-/
set_option linter.unusedVariables false
set_option maxRecDepth 100000
set_option linter.unusedSimpArgs false
namespace Go.Proofs.YtghbnehocggnnaaDoor
open Go.ChangeShapes Go.WideShapes Go.ChangeAt Go.RowKit

section
variable {H : Type} {enc : TypeId × Value → H} {w : World} {sp : Nat → Bool} {hd : Bool}
theorem cellsInts : Tryd.prog.cellsOf 22 = 1 := by kernel_rfl
theorem cellsBnd : Tryd.prog.cellsOf 24 = 4 := by kernel_rfl
theorem rel_bnds : ∀ {ys : List Bnd} {ms : List M}, Rel2 (fun (d : Bnd) m => d.Is m ∧ d.wf) ys ms → Bnd.IsL ys ms ∧ Bnd.wfL ys
  | [], _, h => by simp [Rel2] at h; simp [h, Bnd.IsL, Bnd.wfL]
  | y :: ys, ms, h => by
    obtain ⟨m, r, rfl, ⟨h0, h1⟩, h2⟩ := h
    obtain ⟨h3, h4⟩ := rel_bnds h2
    exact ⟨⟨m, r, rfl, h0, h3⟩, h1, h4⟩
theorem op_bnd {fuel : Nat} {cs : List Value} {x : DataW H × List MemPlace} (h : DataW.trod enc Tryd.prog w 0 sp hd fuel 24 cs = some x) :
    ∃ s x k n xa xc, cs = [.string s, .slice xa x.length xc, .int .i64 k, .int .i64 n] ∧ (M.sl xa xc 1 3 (intM x)).In w ∧ (Bnd.mk s x k n).wf := by
  obtain ⟨xs, n, hn, rfl, hl, hlen, hf⟩ := DataW.trod_struct Tryd.underlying24 h
  rw [cellsBnd] at hl
  match cs, hl with
  | [c0, c1, c2, c3], _ =>
    have h0 := hf 0 _ rfl
    have h1 := hf 1 _ rfl
    have h2 := hf 2 _ rfl
    have h3 := hf 3 _ rfl
    simp at hlen
    rw [List.getElem?_eq_getElem (by omega)] at h0 h1 h2 h3
    simp [cellsInt, cellsStr, cellsInts] at h0 h1 h2 h3
    obtain ⟨s, e0, _, w0⟩ := DataW.trod_string Tryd.underlying9 h0
    obtain ⟨xa, xc, l, e1, hx, hxw⟩ := op_ints h1
    obtain ⟨k, e2, _, w2⟩ := DataW.trod_int Tryd.underlying3 h2
    obtain ⟨n', e3, _, w3⟩ := DataW.trod_int Tryd.underlying3 h3
    simp at e0 e1 e2 e3
    subst e0; subst e1; subst e2; subst e3
    exact ⟨s, l, k, n', xa, xc, rfl, hx, by unfold maxLen at w0; omega, hxw, I64_of w2, I64_of w3⟩
theorem arg_bnd {v : Value} {d : DataW H} {p : List MemPlace} {b : Nat} (hv : Value.okWide Tryd.prog w .any b 24 v) (h : DataW.Trod enc Tryd.prog w 0 sp hd 24 v d p) :
    ∃ s x k n xa xc, v = .agg #[.string s, .slice xa x.length xc, .int .i64 k, .int .i64 n] ∧ (M.sl xa xc 1 3 (intM x)).In w ∧ (Bnd.mk s x k n).wf := by
  obtain ⟨cs, rfl, _⟩ := okWide_struct Tryd.underlying24 hv
  obtain ⟨f, hf⟩ := h
  obtain ⟨s, x, k, n, xa, xc, hcs, h1⟩ := op_bnd hf
  have : cs = #[.string s, .slice xa x.length xc, .int .i64 k, .int .i64 n] := by
    apply Array.ext'; simpa [Value.cells] using hcs
  subst this
  exact ⟨s, x, k, n, xa, xc, rfl, h1⟩
end
end Go.Proofs.YtghbnehocggnnaaDoor

/-
  Walks: the law's own measure of data; data compared. No condition.
-/
set_option linter.unusedVariables false
set_option linter.unusedSimpArgs false
set_option maxRecDepth 100000
namespace Go.Proofs.YtghbnehocggnnaaDoor
open Go.RowKit

/-- A measure that counts down: what it hands back is below what it was handed by at least the weight, or it is -1. -/
def SzPost (wt : Nat) (left : Int) (w : World) (e : Ending) (w' : World) : Prop :=
  ∃ r : Int, e = .returned (.int .i64 r) ∧ -1 ≤ r ∧ r ≤ left ∧ (0 ≤ r → (wt : Int) + r ≤ left) ∧ Below w.heap.size w w'

end Go.Proofs.YtghbnehocggnnaaDoor

/-
  Walks: the law's own measure of syntax. No condition.
-/
set_option linter.unusedVariables false
set_option linter.unusedSimpArgs false
set_option maxRecDepth 100000
namespace Go.Proofs.YtghbnehocggnnaaDoor
open Go.RowKit

theorem szIntS_calls (a : Option Addr) (cap n : Nat) (left : Int) (w : World) (h0 : 0 ≤ left) (h1 : left ≤ 1048576) (hn : n ≤ 9223372036854775807) :
    Calls Tryd.prog 16 #[.slice a n cap, .int .i64 left] w (SzPost n left w) := by
  by_cases hs : left - (n : Int) < 0
  · go_enter Tryd.func16, Tryd.ntmps16
    go_wp2_with fail
    go_ret
    exact ⟨-1, rfl, by omega, by omega, by omega, Below.refl _ _⟩
  · go_enter Tryd.func16, Tryd.ntmps16
    go_wp2_with fail
    go_ret
    exact ⟨left - n, rfl, by omega, by omega, fun _ => by omega, Below.refl _ _⟩
end Go.Proofs.YtghbnehocggnnaaDoor

/-
  Marking numbers and texts, in ranges. No condition.
-/
set_option linter.unusedVariables false
namespace Go.Proofs.YtghbnehocggnnaaDoor
open Go.RowKit
theorem eqIntS_same (a : Option Addr) (cap : Nat) (l : List Int) (a2 : Option Addr) (cap2 : Nat) (w : World) (h : (M.sl a cap 1 3 (intM l)).In w) (h2 : (M.sl a2 cap2 1 3 (intM l)).In w) :
    Calls Tryd.prog 24 #[.slice a l.length cap, .slice a2 l.length cap2] w (Ret (.bool true) w) := by
  have := eqIntS_calls a cap l a2 cap2 l w h h2
  rwa [(eqL_iff l l).2 rfl] at this
end Go.Proofs.YtghbnehocggnnaaDoor

/-
  Walks: the law's own measure, copies and comparison of bindings. No condition.
-/
set_option linter.unusedVariables false
set_option linter.unusedSimpArgs false
set_option maxRecDepth 100000
namespace Go.Proofs.YtghbnehocggnnaaDoor
open Go.RowKit

theorem szBinding_calls (s : ByteArray) (x : List Int) (k n : Int) (xa : Option Addr) (xc : Nat) (left : Int) (w : World) (h0 : 0 ≤ left) (h1 : left ≤ 1048576) (hwf : (Bnd.mk s x k n).wf)
    (hx : (M.sl xa xc 1 3 (intM x)).In w) :
    Calls Tryd.prog 5 #[.agg #[.string s, .slice xa x.length xc, .int .i64 k, .int .i64 n], .int .i64 left] w (SzPost (Bnd.mk s x k n).wt left w) := by
  have hs := hwf.1
  have hxl := Ints.len hx
  have hwt : (Bnd.mk s x k n).wt = s.size + x.length := rfl
  have HWF := Lib.hid hwf; clear hwf; have HX := Lib.hid hx; clear hx; have HWT := Lib.hid hwt; clear hwt
  by_cases hn : left - (s.size : Int) < 0
  · go_enter Tryd.func5, Tryd.ntmps5
    go_wp2_with fail
    go_ret
    exact ⟨-1, rfl, by omega, by omega, by omega, by (repeat (first | with_reducible assumption | with_reducible exact Below.refl _ _ | with_reducible refine Below.drew ?_ | with_reducible refine belowDrewN ?_ _ | ((with_reducible refine Below.setCell ?_ ?_ _); rotate_left; focus (first | omega | (simp; done) | (simp; omega))) | ((with_reducible refine Below.alloc ?_ ?_ _); rotate_left; focus (first | omega | (simp; done) | (simp; omega)))))⟩
  · go_enter Tryd.func5, Tryd.ntmps5
    go_wp2_with fail
    refine (szIntS_calls xa xc x.length _ _ (by omega) (by omega) (by omega)).mono ?_
    rintro e w1 ⟨r, rfl, hr1, hr2, hr3, hb1⟩
    have HR3 := Lib.hid hr3; clear hr3
    by_cases hr : r < 0
    · go_wp2_with fail
      go_ret
      exact ⟨-1, rfl, by omega, by omega, by omega, by (repeat (first | with_reducible assumption | with_reducible exact Below.refl _ _ | with_reducible refine Below.drew ?_ | with_reducible refine belowDrewN ?_ _ | ((with_reducible refine Below.setCell ?_ ?_ _); rotate_left; focus (first | omega | (simp; done) | (simp; omega))) | ((with_reducible refine Below.alloc ?_ ?_ _); rotate_left; focus (first | omega | (simp; done) | (simp; omega))) | ((with_reducible refine Below.trans ?_ (Below.mono hb1 ?_)); rotate_left; focus (first | omega | (simp; done) | (simp; omega)))))⟩
    · go_wp2_with fail
      go_ret
      exact ⟨r, rfl, by omega, by omega, fun _ => by have := HR3.out (by omega); rw [HWT.out]; push_cast; omega, by (repeat (first | with_reducible assumption | with_reducible exact Below.refl _ _ | with_reducible refine Below.drew ?_ | with_reducible refine belowDrewN ?_ _ | ((with_reducible refine Below.setCell ?_ ?_ _); rotate_left; focus (first | omega | (simp; done) | (simp; omega))) | ((with_reducible refine Below.alloc ?_ ?_ _); rotate_left; focus (first | omega | (simp; done) | (simp; omega))) | ((with_reducible refine Below.trans ?_ (Below.mono hb1 ?_)); rotate_left; focus (first | omega | (simp; done) | (simp; omega)))))⟩
def zeroB : Bnd := .mk ⟨#[]⟩ [] 0 0
def zeroBM : M := bndM ⟨#[]⟩ none 0 [] 0 0
theorem zeroBM_own (w : World) (lo : Nat) : zeroBM.Own w lo := (bndM_mine (M.Mine.nil w lo 1 3 (by decide)) _ _ _).own
theorem zeroB_is : zeroB.Is zeroBM := ⟨none, 0, rfl⟩
theorem infoBnd : (Tryd.prog.info? 27).map (fun i => (i.zero, i.size, i.bytes)) = some (some (.agg #[.string ⟨#[]⟩, .slice none 0 0, .int .i64 0, .int .i64 0]), 4, 56) := by kernel_rfl
theorem toBinding_calls (s : ByteArray) (x : List Int) (k n : Int) (xa : Option Addr) (xc : Nat) (w : World) (hB : x.length ≤ 1048576) (hx : (M.sl xa xc 1 3 (intM x)).In w) :
    Calls Tryd.prog 7 #[.agg #[.string s, .slice xa x.length xc, .int .i64 k, .int .i64 n]] w (RetBnd (.mk s x k n) w) := by
  have HX := Lib.hid hx; clear hx
  go_enter Tryd.func7, Tryd.ntmps7
  go_wp2_with fail
  refine (toIntS_calls xa xc x _ (HX.out.below (by (repeat (first | with_reducible assumption | with_reducible exact Below.refl _ _ | with_reducible refine Below.drew ?_ | with_reducible refine belowDrewN ?_ _ | ((with_reducible refine Below.setCell ?_ ?_ _); rotate_left; focus (first | omega | (simp; done) | (simp; omega))) | ((with_reducible refine Below.alloc ?_ ?_ _); rotate_left; focus (first | omega | (simp; done) | (simp; omega))))))) hB).mono ?_
  rintro e w1 ⟨a1, cap1, rfl, hm1, hb1⟩
  obtain ⟨hc1, hf1⟩ := bcell hb1; have hz1 := hb1.size; (try simp only [World.size_alloc, World.size_setCell, World.size_drew, sizeDrewN] at hz1 hc1 hf1); have hp1_0 : w.heap.size < w1.heap.size := (by omega); have hp1_1 : w.heap.size + 1 < w1.heap.size := (by omega); have hp1_2 : w.heap.size + 2 < w1.heap.size := (by omega)
  go_wp2_with fail
  refine bodyPost_ret (v := .agg #[.string s, .slice a1 x.length cap1, .int .i64 k, .int .i64 n]) (by simp (disch := first | omega | (simp; done) | (simp; omega)) [results, Tryd.results7, go_sem, hc1]) rfl ?_
  refine ⟨a1, cap1, rfl, ?_, ?_⟩
  · (exact M.Mine.mono (M.Mine.keep hm1 (fun b hb1 hb2 => by (try simp at hb1); simp (disch := (first | omega | (simp; omega))) only [heapSet, heapNew, heapDrew, heapDrewN])) (by first | omega | (simp; done) | (simp; omega)))
  · (repeat (first | with_reducible assumption | with_reducible exact Below.refl _ _ | with_reducible refine Below.drew ?_ | with_reducible refine belowDrewN ?_ _ | ((with_reducible refine Below.setCell ?_ ?_ _); rotate_left; focus (first | omega | (simp; done) | (simp; omega))) | ((with_reducible refine Below.alloc ?_ ?_ _); rotate_left; focus (first | omega | (simp; done) | (simp; omega))) | ((with_reducible refine Below.trans ?_ (Below.mono hb1 ?_)); rotate_left; focus (first | omega | (simp; done) | (simp; omega)))))
theorem eqBinding_calls (s : ByteArray) (x : List Int) (k n : Int) (xa : Option Addr) (xc : Nat) (xa' : Option Addr) (xc' : Nat) (w : World)
    (hx : (M.sl xa xc 1 3 (intM x)).In w) (hx' : (M.sl xa' xc' 1 3 (intM x)).In w) :
    Calls Tryd.prog 9 #[.agg #[.string s, .slice xa x.length xc, .int .i64 k, .int .i64 n], .agg #[.string s, .slice xa' x.length xc', .int .i64 k, .int .i64 n]] w (Ret (.bool true) w) := by
  have HX := Lib.hid hx; clear hx; have HX' := Lib.hid hx'; clear hx'
  go_enter Tryd.func9, Tryd.ntmps9
  go_wp2_with fail
  refine (eqIntS_same xa xc x xa' xc' _ (HX.out.below (by (repeat (first | with_reducible assumption | with_reducible exact Below.refl _ _ | with_reducible refine Below.drew ?_ | with_reducible refine belowDrewN ?_ _ | ((with_reducible refine Below.setCell ?_ ?_ _); rotate_left; focus (first | omega | (simp; done) | (simp; omega))) | ((with_reducible refine Below.alloc ?_ ?_ _); rotate_left; focus (first | omega | (simp; done) | (simp; omega))))))) (HX'.out.below (by (repeat (first | with_reducible assumption | with_reducible exact Below.refl _ _ | with_reducible refine Below.drew ?_ | with_reducible refine belowDrewN ?_ _ | ((with_reducible refine Below.setCell ?_ ?_ _); rotate_left; focus (first | omega | (simp; done) | (simp; omega))) | ((with_reducible refine Below.alloc ?_ ?_ _); rotate_left; focus (first | omega | (simp; done) | (simp; omega)))))))).mono ?_
  rintro e w1 ⟨rfl, hb1⟩
  obtain ⟨hc1, hf1⟩ := bcell hb1; have hz1 := hb1.size; (try simp only [World.size_alloc, World.size_setCell, World.size_drew, sizeDrewN] at hz1 hc1 hf1); have hp1_0 : w.heap.size < w1.heap.size := (by omega); have hp1_1 : w.heap.size + 1 < w1.heap.size := (by omega)
  go_wp2_with fail
  go_ret
  exact ⟨rfl, by (repeat (first | with_reducible assumption | with_reducible exact Below.refl _ _ | with_reducible refine Below.drew ?_ | with_reducible refine belowDrewN ?_ _ | ((with_reducible refine Below.setCell ?_ ?_ _); rotate_left; focus (first | omega | (simp; done) | (simp; omega))) | ((with_reducible refine Below.alloc ?_ ?_ _); rotate_left; focus (first | omega | (simp; done) | (simp; omega))) | ((with_reducible refine Below.trans ?_ (Below.mono hb1 ?_)); rotate_left; focus (first | omega | (simp; done) | (simp; omega)))))⟩
end Go.Proofs.YtghbnehocggnnaaDoor
