/-
  Texts set together by wip/tools/merge.py: Syn, Y7, Y8, Y9, D2, Y2, D3, Y3, W6, Mk, Y4, Set, SM1, I1, I2, I3, I4, MS, C1, Step, C2, N5, N6. No condition beyond those told with each.
-/
import Derived.Test.YtghbnehocggnnaaGa
import Derived.Deep.RegionLaw
/-
  Pieces of syntax in memory. No condition.
-/
set_option linter.unusedVariables false
set_option linter.unusedSimpArgs false
namespace Go.Proofs.Ytghbnehocggnnaa
open Go.RowKit

inductive Syn where
  | mk (k n : Int) (s : ByteArray) (c : List Int) (ds : List Syn)

mutual
def Syn.Is (e : TypeId) : Syn → M → Prop
  | .mk k n s c ds, m => ∃ ca ccap a cap ms, m = .ag [.c (.int .i64 k), .c (.int .i64 n), .c (.string s), .sl ca ccap 1 3 (intM c), .sl a cap 5 e ms] ∧ Syn.IsL e ds ms
def Syn.IsL (e : TypeId) : List Syn → List M → Prop
  | [], ms => ms = []
  | d :: ds, ms => ∃ m r, ms = m :: r ∧ d.Is e m ∧ Syn.IsL e ds r
end

theorem Syn.IsL.length {e : TypeId} : ∀ {ds : List Syn} {ms : List M}, Syn.IsL e ds ms → ms.length = ds.length
  | [], _, h => by simp [Syn.IsL] at h; simp [h]
  | d :: ds, ms, h => by
    obtain ⟨m, r, rfl, _, h2⟩ := h
    simp [Syn.IsL.length h2]

theorem Syn.IsL.get {e : TypeId} : ∀ {ds : List Syn} {ms : List M}, Syn.IsL e ds ms → ∀ (k : Nat) (hk : k < ds.length) (hk' : k < ms.length), (ds[k]).Is e (ms[k])
  | [], _, h, k, hk, _ => by simp at hk
  | d :: ds, ms, h, k, hk, hk' => by
    obtain ⟨m, r, rfl, h1, h2⟩ := h
    cases k with
    | zero => exact h1
    | succ k => exact Syn.IsL.get h2 k (by simpa using hk) (by simpa using hk')

mutual
def Syn.count : Syn → Nat
  | .mk _ _ _ _ ds => 1 + Syn.countL ds
def Syn.countL : List Syn → Nat
  | [] => 0
  | d :: ds => d.count + Syn.countL ds
end

theorem Syn.countL_append (xs ys : List Syn) : Syn.countL (xs ++ ys) = Syn.countL xs + Syn.countL ys := by
  induction xs with
  | nil => simp [Syn.countL]
  | cons x r ih => simp only [List.cons_append, Syn.countL, ih]; omega
theorem Syn.count_pos (d : Syn) : 0 < d.count := by cases d; simp only [Syn.count]; omega
theorem Syn.countL_get (ds : List Syn) (k : Nat) (hk : k < ds.length) : Syn.countL (ds.take k) + (ds[k]).count + Syn.countL (ds.drop (k + 1)) = Syn.countL ds := by
  conv => rhs; rw [← List.take_append_drop k ds, ← List.getElem_cons_drop hk, Syn.countL_append, Syn.countL]
  omega
theorem Syn.countL_take (ds : List Syn) (k : Nat) (hk : k < ds.length) : Syn.countL (ds.take (k + 1)) = Syn.countL (ds.take k) + (ds[k]).count := by
  rw [List.take_succ_eq_append_getElem hk, Syn.countL_append]; simp [Syn.countL]


/-- element k of a slice of syntax: its five cells, as the walk writes their addresses -/
theorem Syn.elem {w : World} {a : Option Addr} {cap : Nat} {e : TypeId} {ds : List Syn} {ms : List M} (h : (M.sl a cap 5 e ms).In w) (hi : Syn.IsL e ds ms) (k : Nat) (hk : k < ms.length) :
    ∃ b off k1 n1 s1 x1 ds1 xa1 xc1 a1 cap1 ms1, a = some ⟨b, off, none⟩ ∧ ds[k]? = some (.mk k1 n1 s1 x1 ds1) ∧ Syn.IsL e ds1 ms1 ∧ (M.sl xa1 xc1 1 3 (intM x1)).In w ∧ (M.sl a1 cap1 5 e ms1).In w ∧
      w.cell? ⟨b, off + k * 5, none⟩ = some (.int .i64 k1) ∧ w.cell? ⟨b, off + k * 5 + 1, none⟩ = some (.int .i64 n1) ∧
      w.cell? ⟨b, off + k * 5 + 2, none⟩ = some (.string s1) ∧ w.cell? ⟨b, off + k * 5 + 3, none⟩ = some (.slice xa1 x1.length xc1) ∧ w.cell? ⟨b, off + k * 5 + 4, none⟩ = some (.slice a1 ms1.length cap1) := by
  obtain ⟨b, off, ha, hel⟩ := h.elem (by omega)
  have hl := hi.length
  have hg := hi.get k (by omega) hk
  have hs := h.sub k hk
  obtain ⟨k1, n1, s1, x1, ds1, hd⟩ : ∃ k1 n1 s1 x1 ds1, ds[k] = .mk k1 n1 s1 x1 ds1 := by cases ds[k]; exact ⟨_, _, _, _, _, rfl⟩
  rw [hd] at hg
  obtain ⟨xa1, xc1, a1, cap1, ms1, hm, hi1⟩ := hg
  rw [hm] at hs
  refine ⟨b, off, k1, n1, s1, x1, ds1, xa1, xc1, a1, cap1, ms1, ha, by rw [← hd]; exact List.getElem?_eq_getElem (by omega), hi1, hs.2.2.2.1, hs.2.2.2.2.1, ?_, ?_, ?_, ?_, ?_⟩
  · exact hel k hk 0 _ (by rw [hm]; rfl)
  · exact hel k hk 1 _ (by rw [hm]; rfl)
  · exact hel k hk 2 _ (by rw [hm]; rfl)
  · have := hel k hk 3 (.slice xa1 (intM x1).length xc1) (by rw [hm]; rfl)
    rwa [intM_length] at this
  · exact hel k hk 4 _ (by rw [hm]; rfl)

theorem Syn.countL_le (ds : List Syn) (k : Nat) (d : Syn) (h : ds[k]? = some d) : Syn.countL (ds.take (k+1)) = Syn.countL (ds.take k) + d.count ∧ Syn.countL (ds.take k) + d.count ≤ Syn.countL ds := by
  obtain ⟨hk, rfl⟩ := List.getElem?_eq_some_iff.1 h
  have := Syn.countL_get ds k hk
  exact ⟨Syn.countL_take ds k hk, by omega⟩
theorem Syn.length_le (ds : List Syn) : ds.length ≤ Syn.countL ds := by
  induction ds with
  | nil => simp
  | cons d r ih => have := d.count_pos; simp only [Syn.countL, List.length_cons]; omega

theorem Syn.IsL.snoc {e : TypeId} : ∀ {ds : List Syn} {ms : List M} {d : Syn} {m : M}, Syn.IsL e ds ms → d.Is e m → Syn.IsL e (ds ++ [d]) (ms ++ [m])
  | [], ms, d, m, h, hd => by simp [Syn.IsL] at h; subst h; exact ⟨m, [], rfl, hd, rfl⟩
  | x :: ds, ms, d, m, h, hd => by
    obtain ⟨y, r, rfl, h1, h2⟩ := h
    exact ⟨y, r ++ [m], rfl, h1, Syn.IsL.snoc h2 hd⟩
/-- What a function that makes data hands back. -/
def RetSyns (e : TypeId) (ds : List Syn) (w : World) (en : Ending) (w' : World) : Prop :=
  ∃ a cap ms, en = .returned (.slice a ms.length cap) ∧ Syn.IsL e ds ms ∧ (M.sl a cap 5 e ms).Mine w' w.heap.size ∧ Below w.heap.size w w'
/-- A piece of syntax whose two rows are one's own. -/
def SynOwn (e : TypeId) (xa : Option Addr) (xc : Nat) (x : List Int) (a : Option Addr) (cap : Nat) (ms : List M) : M := .ag [.sl xa xc 1 3 (intM x), .sl a cap 5 e ms]
theorem SynIn_mk {e : TypeId} {xa : Option Addr} {xc : Nat} {x : List Int} {a : Option Addr} {cap : Nat} {ms : List M} {w : World} (h : (M.sl xa xc 1 3 (intM x)).In w) (h2 : (M.sl a cap 5 e ms).In w) : (SynOwn e xa xc x a cap ms).In w := ⟨h, h2, trivial⟩
theorem SynIn_x {e : TypeId} {xa : Option Addr} {xc : Nat} {x : List Int} {a : Option Addr} {cap : Nat} {ms : List M} {w : World} (h : (SynOwn e xa xc x a cap ms).In w) : (M.sl xa xc 1 3 (intM x)).In w := And.left h
theorem SynIn_ms {e : TypeId} {xa : Option Addr} {xc : Nat} {x : List Int} {a : Option Addr} {cap : Nat} {ms : List M} {w : World} (h : (SynOwn e xa xc x a cap ms).In w) : (M.sl a cap 5 e ms).In w := And.left (And.right h)
def Syn.k : Syn → Int | .mk k _ _ _ _ => k
def Syn.n : Syn → Int | .mk _ n _ _ _ => n
def Syn.s : Syn → ByteArray | .mk _ _ s _ _ => s
def Syn.x : Syn → List Int | .mk _ _ _ x _ => x
def Syn.ds : Syn → List Syn | .mk _ _ _ _ ds => ds
@[simp] theorem Syn.k_mk (k n : Int) (s : ByteArray) (x : List Int) (ds : List Syn) : (Syn.mk k n s x ds).k = k := rfl
@[simp] theorem Syn.n_mk (k n : Int) (s : ByteArray) (x : List Int) (ds : List Syn) : (Syn.mk k n s x ds).n = n := rfl
@[simp] theorem Syn.s_mk (k n : Int) (s : ByteArray) (x : List Int) (ds : List Syn) : (Syn.mk k n s x ds).s = s := rfl
@[simp] theorem Syn.x_mk (k n : Int) (s : ByteArray) (x : List Int) (ds : List Syn) : (Syn.mk k n s x ds).x = x := rfl
@[simp] theorem Syn.ds_mk (k n : Int) (s : ByteArray) (x : List Int) (ds : List Syn) : (Syn.mk k n s x ds).ds = ds := rfl
def RetSyn (e : TypeId) (d : Syn) (w : World) (en : Ending) (w' : World) : Prop :=
  ∃ xa xc a cap ms, en = .returned (.agg #[.int .i64 d.k, .int .i64 d.n, .string d.s, .slice xa d.x.length xc, .slice a ms.length cap]) ∧ Syn.IsL e d.ds ms ∧ (SynOwn e xa xc d.x a cap ms).Mine w' w.heap.size ∧ Below w.heap.size w w'

mutual
/-- the numbers are Go's ints -/
def Syn.wf : Syn → Prop
  | .mk k n s c ds => I64 k ∧ I64 n ∧ s.size ≤ 9223372036854775807 ∧ (∀ z ∈ c, I64 z) ∧ Syn.wfL ds
def Syn.wfL : List Syn → Prop
  | [] => True
  | d :: ds => d.wf ∧ Syn.wfL ds
end
theorem Syn.wfL_get : ∀ {ds : List Syn}, Syn.wfL ds → ∀ {k : Nat} {d : Syn}, ds[k]? = some d → d.wf
  | [], _, k, d, h => by simp at h
  | x :: r, h, 0, d, e => by simp at e; exact e ▸ h.1
  | x :: r, h, k + 1, d, e => Syn.wfL_get h.2 (by simpa using e)

/-- What holds of a list of data if it holds of the items of each holds of all. -/
theorem Syn.inductL {P : List Syn → Prop} (h : ∀ ds, (∀ k n s x es, Syn.mk k n s x es ∈ ds → P es) → P ds) (ds : List Syn) : P ds := by
  have key : ∀ B ds, Syn.countL ds ≤ B → P ds := by
    intro B
    induction B with
    | zero =>
      intro ds hB
      cases ds with
      | nil => exact h [] fun _ _ _ _ _ hm => by cases hm
      | cons d r => have := d.count_pos; simp only [Syn.countL] at hB; omega
    | succ B ih =>
      intro ds hB
      refine h ds fun k n s x es hm => ih es ?_
      obtain ⟨i, hi, he⟩ := List.mem_iff_getElem.1 hm
      have := (Syn.countL_le ds i _ (by rw [List.getElem?_eq_getElem hi, he])).2
      simp only [Syn.count] at this
      omega
  exact key _ ds (Nat.le_refl _)

mutual
/-- how many values and letters a datum holds, itself aside -/
def Syn.wt : Syn → Nat
  | .mk _ _ s c ds => s.size + (c.length + (ds.length + Syn.wtX ds))
def Syn.wtX : List Syn → Nat
  | [] => 0
  | d :: ds => d.wt + Syn.wtX ds
end
theorem Syn.wtX_append (xs ys : List Syn) : Syn.wtX (xs ++ ys) = Syn.wtX xs + Syn.wtX ys := by
  induction xs with
  | nil => simp [Syn.wtX]
  | cons x r ih => simp only [List.cons_append, Syn.wtX, ih]; omega
theorem Syn.wtX_take {ds : List Syn} {k : Nat} {d : Syn} (h : ds[k]? = some d) : Syn.wtX (ds.take (k + 1)) = Syn.wtX (ds.take k) + d.wt := by
  rw [take_snoc h, Syn.wtX_append]; simp [Syn.wtX]
theorem Syn.countL_wt (ds : List Syn) : Syn.countL ds ≤ ds.length + Syn.wtX ds := by
  refine Syn.inductL (P := fun ds => Syn.countL ds ≤ ds.length + Syn.wtX ds) (fun ds ih => ?_) ds
  induction ds with
  | nil => simp [Syn.countL]
  | cons d r ihr =>
    obtain ⟨k, n, s, x, es⟩ := d
    have h1 := ih k n s x es (List.mem_cons_self ..)
    have h2 := ihr fun k n s x es hm => ih k n s x es (List.mem_cons_of_mem _ hm)
    simp only [Syn.countL, Syn.count, Syn.wtX, Syn.wt, List.length_cons]
    omega

mutual
def Syn.depth : Syn → Nat
  | .mk _ _ _ _ ds => Syn.depthL ds + 1
def Syn.depthL : List Syn → Nat
  | [] => 0
  | d :: ds => max d.depth (Syn.depthL ds)
end
theorem Syn.depthL_append (xs ys : List Syn) : Syn.depthL (xs ++ ys) = max (Syn.depthL xs) (Syn.depthL ys) := by
  induction xs with
  | nil => simp [Syn.depthL]
  | cons x r ih => simp only [List.cons_append, Syn.depthL, ih]; omega
theorem Syn.depthL_take {ds : List Syn} {k : Nat} {d : Syn} (h : ds[k]? = some d) : Syn.depthL (ds.take (k + 1)) = max (Syn.depthL (ds.take k)) d.depth := by
  rw [take_snoc h, Syn.depthL_append]; simp [Syn.depthL]
theorem Syn.depthL_get {ds : List Syn} {k : Nat} {d : Syn} (h : ds[k]? = some d) : d.depth ≤ Syn.depthL ds := by
  have : Syn.depthL ds = max (Syn.depthL (ds.take (k + 1))) (Syn.depthL (ds.drop (k + 1))) := by rw [← Syn.depthL_append, List.take_append_drop]
  rw [this, Syn.depthL_take h]; omega
theorem Syn.depthL_le (ds : List Syn) : Syn.depthL ds ≤ Syn.countL ds := by
  refine Syn.inductL (P := fun ds => Syn.depthL ds ≤ Syn.countL ds) (fun ds ih => ?_) ds
  induction ds with
  | nil => simp [Syn.countL, Syn.depthL]
  | cons d r ihr =>
    obtain ⟨k, n, s, x, es⟩ := d
    have h1 := ih k n s x es (List.mem_cons_self ..)
    have h2 := ihr fun k n s x es hm => ih k n s x es (List.mem_cons_of_mem _ hm)
    simp only [Syn.countL, Syn.count, Syn.depthL, Syn.depth]
    omega

end Go.Proofs.Ytghbnehocggnnaa

/-
  Walks: all nodes of a piece of syntax, its depth, few nodes. No condition.
-/
set_option linter.unusedVariables false
set_option linter.unusedSimpArgs false
set_option maxRecDepth 100000
namespace Go.Proofs.Ytghbnehocggnnaa
open Go.RowKit

def scB (k : Int) (x : List Int) : Bool := ssB x && (decide (x.length = 0) || decide (k = 1))
mutual
def Syn.ok : Syn → Prop
  | .mk k n s x ds => nodeB k n s ds.length = true ∧ scB k x = true ∧ Syn.okL ds
def Syn.okL : List Syn → Prop
  | [] => True
  | d :: r => d.ok ∧ Syn.okL r
end
theorem Syn.okL_iff {ds : List Syn} : Syn.okL ds ↔ ∀ d ∈ ds, d.ok := by
  induction ds with
  | nil => simp [Syn.okL]
  | cons d r ih => simp [Syn.okL, ih]
theorem Syn.ok_mk {k n : Int} {s : ByteArray} {x : List Int} {ds : List Syn} : (Syn.mk k n s x ds).ok ↔ nodeB k n s ds.length = true ∧ scB k x = true ∧ ∀ d ∈ ds, d.ok := by rw [← Syn.okL_iff]; rfl
open Classical in
noncomputable def Syn.okB (d : Syn) : Bool := decide d.ok
theorem Syn.okB_true {d : Syn} : d.okB = true ↔ d.ok := by simp [Syn.okB]
theorem Syn.okB_false {d : Syn} : d.okB = false ↔ ¬ d.ok := by simp [Syn.okB]
theorem syn_ok_take {ds : List Syn} {k : Nat} {d : Syn} (h : ∀ x ∈ ds.take k, x.ok) (hd : ds[k]? = some d) (hk : d.ok) : ∀ x ∈ ds.take (k + 1), x.ok := by
  rw [take_snoc hd]
  intro x hx
  rcases List.mem_append.1 hx with hx | hx
  · exact h x hx
  · simp at hx; subst hx; exact hk

def sDOS (ds : List Syn) : Prop := ∀ (k n : Int) (s : ByteArray) (x : List Int) (xa : Option Addr) (xc : Nat) (a : Option Addr) (cap : Nat) (ms : List M) (w : World), Syn.depthL ds ≤ 1000000000 → Syn.IsL 27 ds ms → (M.sl a cap 5 27 ms).In w →
    Calls Try.prog 66 #[.agg #[.int .i64 k, .int .i64 n, .string s, .slice xa x.length xc, .slice a ms.length cap]] w (Ret (.int .i64 ((Syn.depthL ds + 1 : Nat) : Int)) w)
theorem l2Depth_calls : ∀ ds, sDOS ds := by
  refine Syn.inductL fun ds ih => ?_
  intro k n s x xa xc a cap ms w hB hi hin
  have hln := hi.length
  have hcapm := hin.len
  have IH := Lib.hid ih; clear ih; have HIN := Lib.hid hin; clear hin; have HI := Lib.hid hi; clear hi; have HLN := Lib.hid hln; clear hln
  go_enter Try.func66, Try.ntmps66
  go_wp2
  go_loopw [3, 9] (fun t i wr => ∃ (k g : Nat), k ≤ ms.length ∧ i = .int .i64 k ∧ t = .int .i64 (g : Int) ∧ g = Syn.depthL (ds.take k) ∧ g ≤ 1000000000 ∧ Below w.heap.size w wr ∧ w.heap.size ≤ wr.heap.size) (fun _ i _ => ms.length - (intOf i).toNat)
  case atStart => exact ⟨0, 0, Nat.zero_le _, rfl, rfl, by simp [Syn.depthL], by omega, (Below.refl _ _).alloc (Nat.le_refl _) _, by simp⟩
  case round =>
    obtain ⟨k', g, hk, rfl, rfl, hg, hgB, hb, hsz⟩ := hrel
    by_cases hlt : k' < ms.length
    · obtain ⟨b, off, k1, n1, s1, x1, ds1, xa1, xc1, a1, cap1, ms1, rfl, hd, hi1, hx1, hin1, c0, c1, c2, c3, c4⟩ := Syn.elem (HIN.out.below hb) HI.out k' hlt
      have ht := Syn.depthL_take hd
      have hle := Syn.depthL_get hd
      simp only [Syn.depth] at hle ht
      rw [← hg] at ht
      have HI1 := Lib.hid hi1; clear hi1; have HIN1 := Lib.hid hin1; clear hin1; have HT := Lib.hid ht; clear ht; have HD := Lib.hid hd; clear hd; have HG := Lib.hid hg; clear hg; have HX1 := Lib.hid hx1; clear hx1
      go_wp2_with fail
      refine (IH.out k1 n1 s1 x1 ds1 (List.mem_of_getElem? HD.out) k1 n1 s1 x1 xa1 xc1 a1 cap1 ms1 _ (by omega) HI1.out (HIN1.out.below ((Below.refl _ _).alloc (Nat.le_refl _) _))).mono ?_
      rintro e w1 ⟨rfl, hb1⟩
      generalize hD_ : Syn.depthL ds1 = D at *
      have HD_ := Lib.hid hD_; clear hD_
      go_wp2_with fail
      have e : (if (g : Int) < (D : Int) + 1 then (D : Int) + 1 else (g : Int)) = ((max g (D + 1) : Nat) : Int) := by split <;> omega
      go_roundw
      case rel => exact ⟨k' + 1, max g (D + 1), by omega, by go_num, by rw [e], by rw [HT.out], by omega, by (repeat (first | with_reducible assumption | with_reducible exact Below.refl _ _ | with_reducible refine Below.drew ?_ | with_reducible refine belowDrewN ?_ _ | ((with_reducible refine Below.setCell ?_ ?_ _); rotate_left; focus (first | omega | (simp; done) | (simp; omega))) | ((with_reducible refine Below.alloc ?_ ?_ _); rotate_left; focus (first | omega | (simp; done) | (simp; omega))) | ((with_reducible refine Below.trans ?_ (Below.mono hb1 ?_)); rotate_left; focus (first | omega | (simp; done) | (simp; omega))))), by have := hb1.size; simp at this; omega⟩
      case measure => simp [intOf]; omega
    · go_wp2
      go_ret
      have hk2 : k' = ms.length := by omega
      subst hk2
      refine ⟨?_, hb⟩
      rw [hg, HLN.out, List.take_length]; rfl
def FwSs (ds : List Syn) : Prop := ∀ (k n : Int) (s : ByteArray) (x : List Int) (xa : Option Addr) (xc : Nat) (a : Option Addr) (cap : Nat) (ms : List M) (pb : Nat) (L : Int) (w0 w : World), Syn.countL ds ≤ 1000000000 → Syn.IsL 27 ds ms → (M.sl a cap 5 27 ms).In w0 →
    Below w0.heap.size w0 w → w0.heap.size ≤ pb → 0 ≤ L → L ≤ 1000000000 → w.cell? ⟨pb, 0, none⟩ = some (.int .i64 L) → w.frozen? ⟨pb, 0, none⟩ = false →
    Calls Try.prog 65 #[.agg #[.int .i64 k, .int .i64 n, .string s, .slice xa x.length xc, .slice a ms.length cap], .pointer (some ⟨pb, 0, none⟩)] w (RetFew L (1 + Syn.countL ds) pb w)
theorem l2Few_calls : ∀ ds, FwSs ds := by
  refine Syn.inductL fun ds ih => ?_
  intro k n s x xa xc a cap ms pb L w0 w hB hi hin hb0 hpb hL0 hL9 hp hpf
  have hl := hi.length
  have hcap := hin.len
  have hpw := World.block_lt_of_cell? w _ hp
  simp only at hpw
  have IH := Lib.hid ih; clear ih; have HIN := Lib.hid hin; clear hin; have HI := Lib.hid hi; clear hi; have HL := Lib.hid hl; clear hl
  go_enter Try.func65, Try.ntmps65
  go_wp2_with fail
  go_loopw [5] (fun i wr => ∃ (j : Nat), j ≤ ms.length ∧ i = .int .i64 j ∧ (wr.cell? ⟨pb, 0, none⟩ = some (.int .i64 (few L (1 + Syn.countL (ds.take j)))) ∧ wr.frozen? ⟨pb, 0, none⟩ = false) ∧
     wr.cell? ⟨w.heap.size, 4, none⟩ = some (.slice a ms.length cap) ∧ OnlyIn pb (pb + 1) w wr ∧ w.heap.size + 1 ≤ wr.heap.size) (fun i _ => ms.length - (intOf i).toNat)
  case atStart =>
    have hne : pb ≠ w.heap.size := by omega
    refine ⟨0, Nat.zero_le _, rfl, ?_, ?_, ?_, ?_⟩
    · rw [List.take_zero, show 1 + Syn.countL [] = 1 from rfl, ← few_one hL0]
      simp (disch := (first | omega | (simp; omega))) [go_sem, hp, hpf]
    · have hs' : (w.setCell ⟨pb, 0, none⟩ (.int .i64 (L - 1))).heap.size = w.heap.size := by simp
      rw [← hs', World.cell?_alloc_new]; rfl
    · exact ((OnlyIn.refl pb (pb + 1) w).set ⟨pb, 0, none⟩ _ (Nat.le_refl _) (Nat.lt_succ_self _)).new _
    · simp
  case round =>
    obtain ⟨j, hj, rfl, ⟨q, qf⟩, c3b, ho, hsz⟩ := hrel
    have hbz := ho.low hb0 hpb
    by_cases hlt : j < ms.length
    · by_cases hneg : few L (1 + Syn.countL (ds.take j)) < 0
      · have hlo := few_lo L (1 + Syn.countL (ds.take j))
        have hall : few L (1 + Syn.countL ds) = few L (1 + Syn.countL (ds.take j)) := by
          have h1 := few_more hneg hL0 (Syn.countL (ds.drop j))
          rw [Nat.add_assoc, ← Syn.countL_append, List.take_append_drop] at h1
          omega
        rw [← hall] at q hneg hlo
        have HO := Lib.hid ho; clear ho; have HBZ := Lib.hid hbz; clear hbz; have HALL := Lib.hid hall; clear hall
        go_wp2_with fail
        go_ret
        exact ⟨rfl, q, qf, HO.out⟩
      · have hpos : 0 ≤ few L (1 + Syn.countL (ds.take j)) := by omega
        have hhi := few_hi L (1 + Syn.countL (ds.take j)) hL0
        obtain ⟨b, off, k1, n1, s1, x1, ds1, xa1, xc1, a1, cap1, ms1, rfl, hd, hi1, hx1, hin1, c0, c1, c2, c3, c4⟩ := Syn.elem HIN.out HI.out j hlt
        have hbl := World.block_lt_of_cell? w0 _ c0
        simp only at hbl
        have e0 := (hbz.cell (p := ⟨b, _, none⟩) hbl).trans c0
        have e1 := (hbz.cell (p := ⟨b, _, none⟩) hbl).trans c1
        have e2 := (hbz.cell (p := ⟨b, _, none⟩) hbl).trans c2
        have e3 := (hbz.cell (p := ⟨b, _, none⟩) hbl).trans c3
        have e4 := (hbz.cell (p := ⟨b, _, none⟩) hbl).trans c4
        clear c0 c1 c2 c3 c4
        obtain ⟨ht, hle⟩ := Syn.countL_le ds j _ hd
        have hmem := List.mem_of_getElem? hd
        have hadd := few_add (c := 1 + Syn.countL ds1) hpos
        simp only [Syn.count] at hle ht
        rw [show 1 + Syn.countL (ds.take j) + (1 + Syn.countL ds1) = 1 + Syn.countL (ds.take (j + 1)) by rw [ht]; omega] at hadd
        generalize hF : few L (1 + Syn.countL (ds.take j)) = F at *
        have HD := Lib.hid hd; clear hd; have HI1 := Lib.hid hi1; clear hi1; have HIN1 := Lib.hid hin1; clear hin1; have HMEM := Lib.hid hmem; clear hmem; have HT := Lib.hid ht; clear ht; have HF := Lib.hid hF; clear hF; have HB0 := Lib.hid hb0; clear hb0; have HBZ := Lib.hid hbz; clear hbz; have HO := Lib.hid ho; clear ho; have HX1 := Lib.hid hx1; clear hx1
        go_wp2_with fail
        refine (IH.out k1 n1 s1 x1 ds1 HMEM.out k1 n1 s1 x1 xa1 xc1 a1 cap1 ms1 pb F w0 _ (by omega) HI1.out HIN1.out HBZ.out hpb hpos (by omega) q qf).mono ?_
        rintro e w1 ⟨rfl, q', qf', ho1⟩
        obtain ⟨hc1, hf1⟩ := ocell ho1
        have hz1 := ho1.size
        have c3c : w1.cell? ⟨w.heap.size, 4, none⟩ = some (.slice (some ⟨b, off, none⟩) ms.length cap) := by rw [hc1 _ _ (by omega) (by omega)]; exact c3b
        have hof := HO.out.trans ho1
        rw [hadd] at q'
        have HOF := Lib.hid hof; clear hof; have HO1 := Lib.hid ho1; clear ho1
        go_wp2_with fail
        go_roundw
        case rel => exact ⟨j + 1, by omega, by go_num, ⟨q', qf'⟩, c3c, HOF.out, by omega⟩
        case measure => simp [intOf]; omega
    · have hk2 : j = ms.length := by omega
      subst hk2
      have hlo := few_lo L (1 + Syn.countL (ds.take ms.length))
      have hhi := few_hi L (1 + Syn.countL (ds.take ms.length)) hL0
      have hd2 : ds.take ms.length = ds := by rw [HL.out, List.take_length]
      rw [hd2] at q hlo hhi
      have HO := Lib.hid ho; clear ho; have HBZ := Lib.hid hbz; clear hbz; have HD2 := Lib.hid hd2; clear hd2
      go_wp2_with fail
      go_ret
      exact ⟨rfl, q, qf, HO.out⟩
def NdSs (ds : List Syn) : Prop := ∀ (k n : Int) (s : ByteArray) (x : List Int) (xa : Option Addr) (xc : Nat) (a : Option Addr) (cap : Nat) (ms : List M) (w : World), (Syn.mk k n s x ds).wf → Syn.IsL 27 ds ms → (M.sl xa xc 1 3 (intM x)).In w → (M.sl a cap 5 27 ms).In w →
    Calls Try.prog 67 #[.agg #[.int .i64 k, .int .i64 n, .string s, .slice xa x.length xc, .slice a ms.length cap]] w (Ret (.bool (Syn.mk k n s x ds).okB) w)
set_option maxHeartbeats 1000000 in
theorem l2Nodes_calls : ∀ ds, NdSs ds := by
  refine Syn.inductL fun ds ih => ?_
  intro k n s x xa xc a cap ms w hwf hi hx hin
  have hl := hi.length
  have hcap := hin.len
  have hxl := Ints.len hx
  have hs : s.size ≤ 9223372036854775807 := by have := hwf.2.2.1; omega
  have hwl := hwf.2.2.2.2
  clear hwf
  have IH := Lib.hid ih; clear ih; have HIN := Lib.hid hin; clear hin; have HI := Lib.hid hi; clear hi; have HL := Lib.hid hl; clear hl; have HWL := Lib.hid hwl; clear hwl; have HX := Lib.hid hx; clear hx
  go_enter Try.func67, Try.ntmps67
  go_wp2_with fail
  go_loopw [8] (fun i wr => ∃ (j : Nat), j ≤ ms.length ∧ i = .int .i64 j ∧ (∀ x ∈ ds.take j, x.ok) ∧ (wr.cell? ⟨w.heap.size, 0, none⟩ = some (.int .i64 k) ∧ wr.cell? ⟨w.heap.size, 1, none⟩ = some (.int .i64 n) ∧ wr.cell? ⟨w.heap.size, 2, none⟩ = some (.string s) ∧ wr.cell? ⟨w.heap.size, 3, none⟩ = some (.slice xa x.length xc) ∧ wr.cell? ⟨w.heap.size, 4, none⟩ = some (.slice a ms.length cap)) ∧ Below w.heap.size w wr ∧ w.heap.size + 1 ≤ wr.heap.size) (fun i _ => ms.length - (intOf i).toNat)
  case atStart => exact ⟨0, Nat.zero_le _, rfl, by simp, by simp [go_sem], by (repeat (first | with_reducible assumption | with_reducible exact Below.refl _ _ | with_reducible refine Below.drew ?_ | with_reducible refine belowDrewN ?_ _ | ((with_reducible refine Below.setCell ?_ ?_ _); rotate_left; focus (first | omega | (simp; done) | (simp; omega))) | ((with_reducible refine Below.alloc ?_ ?_ _); rotate_left; focus (first | omega | (simp; done) | (simp; omega))))), by simp⟩
  case round =>
    obtain ⟨j, hj, rfl, hpre, ⟨q0, q1, q2, q3, q4⟩, hb, hsz⟩ := hrel
    have p0 : w.heap.size < wr.heap.size := by omega
    by_cases hlt : j < ms.length
    · obtain ⟨b, off, k1, n1, s1, x1, ds1, xa1, xc1, a1, cap1, ms1, rfl, hd, hi1, hx1, hin1, c0, c1, c2, c3, c4⟩ := Syn.elem (HIN.out.below hb) HI.out j hlt
      have hw1 := Syn.wfL_get HWL.out hd
      have hmem := List.mem_of_getElem? hd
      by_cases hok : (Syn.mk k1 n1 s1 x1 ds1).ok
      · have hokb : (Syn.mk k1 n1 s1 x1 ds1).okB = true := Syn.okB_true.2 hok
        have hpre2 := syn_ok_take hpre hd hok
        have HD := Lib.hid hd; clear hd; have HI1 := Lib.hid hi1; clear hi1; have HIN1 := Lib.hid hin1; clear hin1; have HW1 := Lib.hid hw1; clear hw1; have HMEM := Lib.hid hmem; clear hmem; have HPRE := Lib.hid hpre; clear hpre; have HPRE2 := Lib.hid hpre2; clear hpre2; have HOK := Lib.hid hok; clear hok; have HX1 := Lib.hid hx1; clear hx1
        go_wp2_with fail
        refine (IH.out k1 n1 s1 x1 ds1 HMEM.out k1 n1 s1 x1 xa1 xc1 a1 cap1 ms1 _ HW1.out HI1.out (HX1.out.below (by (repeat (first | with_reducible assumption | with_reducible exact Below.refl _ _ | with_reducible refine Below.drew ?_ | with_reducible refine belowDrewN ?_ _ | ((with_reducible refine Below.setCell ?_ ?_ _); rotate_left; focus (first | omega | (simp; done) | (simp; omega))) | ((with_reducible refine Below.alloc ?_ ?_ _); rotate_left; focus (first | omega | (simp; done) | (simp; omega))))))) (HIN1.out.below (by (repeat (first | with_reducible assumption | with_reducible exact Below.refl _ _ | with_reducible refine Below.drew ?_ | with_reducible refine belowDrewN ?_ _ | ((with_reducible refine Below.setCell ?_ ?_ _); rotate_left; focus (first | omega | (simp; done) | (simp; omega))) | ((with_reducible refine Below.alloc ?_ ?_ _); rotate_left; focus (first | omega | (simp; done) | (simp; omega)))))))).mono ?_
        rintro e w1 ⟨rfl, hb1⟩
        obtain ⟨hc1, hf1⟩ := bcell hb1; have hz1 := hb1.size; (try simp only [World.size_alloc, World.size_setCell, World.size_drew, sizeDrewN] at hz1 hc1 hf1)
        have q0' : w1.cell? ⟨w.heap.size, 0, none⟩ = some (.int .i64 k) := by simp (disch := omega) [hc1, q0, go_sem]
        have q1' : w1.cell? ⟨w.heap.size, 1, none⟩ = some (.int .i64 n) := by simp (disch := omega) [hc1, q1, go_sem]
        have q2' : w1.cell? ⟨w.heap.size, 2, none⟩ = some (.string s) := by simp (disch := omega) [hc1, q2, go_sem]
        have q3' : w1.cell? ⟨w.heap.size, 3, none⟩ = some (.slice xa x.length xc) := by simp (disch := omega) [hc1, q3, go_sem]
        have q4' : w1.cell? ⟨w.heap.size, 4, none⟩ = some (.slice (some ⟨b, off, none⟩) ms.length cap) := by simp (disch := omega) [hc1, q4, go_sem]
        go_wp2_with fail
        go_roundw
        case rel => exact ⟨j + 1, by omega, by go_num, HPRE2.out, ⟨q0', q1', q2', q3', q4'⟩, by (repeat (first | with_reducible assumption | with_reducible exact Below.refl _ _ | with_reducible refine Below.drew ?_ | with_reducible refine belowDrewN ?_ _ | ((with_reducible refine Below.setCell ?_ ?_ _); rotate_left; focus (first | omega | (simp; done) | (simp; omega))) | ((with_reducible refine Below.alloc ?_ ?_ _); rotate_left; focus (first | omega | (simp; done) | (simp; omega))) | ((with_reducible refine Below.trans ?_ (Below.mono hb1 ?_)); rotate_left; focus (first | omega | (simp; done) | (simp; omega))))), by omega⟩
        case measure => simp [intOf]; omega
      · have hokb : (Syn.mk k1 n1 s1 x1 ds1).okB = false := Syn.okB_false.2 hok
        have hno : (Syn.mk k n s x ds).okB = false := Syn.okB_false.2 fun h => hok ((Syn.ok_mk.1 h).2.2 _ hmem)
        have HD := Lib.hid hd; clear hd; have HI1 := Lib.hid hi1; clear hi1; have HIN1 := Lib.hid hin1; clear hin1; have HW1 := Lib.hid hw1; clear hw1; have HMEM := Lib.hid hmem; clear hmem; have HPRE := Lib.hid hpre; clear hpre; have HOK := Lib.hid hok; clear hok; have HNO := Lib.hid hno; clear hno; have HX1 := Lib.hid hx1; clear hx1
        go_wp2_with fail
        refine (IH.out k1 n1 s1 x1 ds1 HMEM.out k1 n1 s1 x1 xa1 xc1 a1 cap1 ms1 _ HW1.out HI1.out (HX1.out.below (by (repeat (first | with_reducible assumption | with_reducible exact Below.refl _ _ | with_reducible refine Below.drew ?_ | with_reducible refine belowDrewN ?_ _ | ((with_reducible refine Below.setCell ?_ ?_ _); rotate_left; focus (first | omega | (simp; done) | (simp; omega))) | ((with_reducible refine Below.alloc ?_ ?_ _); rotate_left; focus (first | omega | (simp; done) | (simp; omega))))))) (HIN1.out.below (by (repeat (first | with_reducible assumption | with_reducible exact Below.refl _ _ | with_reducible refine Below.drew ?_ | with_reducible refine belowDrewN ?_ _ | ((with_reducible refine Below.setCell ?_ ?_ _); rotate_left; focus (first | omega | (simp; done) | (simp; omega))) | ((with_reducible refine Below.alloc ?_ ?_ _); rotate_left; focus (first | omega | (simp; done) | (simp; omega)))))))).mono ?_
        rintro e w1 ⟨rfl, hb1⟩
        obtain ⟨hc1, hf1⟩ := bcell hb1; have hz1 := hb1.size; (try simp only [World.size_alloc, World.size_setCell, World.size_drew, sizeDrewN] at hz1 hc1 hf1)
        go_wp2_with fail
        go_ret
        exact ⟨ret_b HNO.out.symm, by (repeat (first | with_reducible assumption | with_reducible exact Below.refl _ _ | with_reducible refine Below.drew ?_ | with_reducible refine belowDrewN ?_ _ | ((with_reducible refine Below.setCell ?_ ?_ _); rotate_left; focus (first | omega | (simp; done) | (simp; omega))) | ((with_reducible refine Below.alloc ?_ ?_ _); rotate_left; focus (first | omega | (simp; done) | (simp; omega))) | ((with_reducible refine Below.trans ?_ (Below.mono hb1 ?_)); rotate_left; focus (first | omega | (simp; done) | (simp; omega)))))⟩
    · have hk2 : j = ms.length := by omega
      subst hk2
      have hfin : (Syn.mk k n s x ds).okB = (nodeB k n s ms.length && scB k x) := by
        rw [HL.out, List.take_length] at hpre
        cases hq : nodeB k n s ms.length with
        | true =>
          cases hq2 : scB k x with
          | true => rw [Bool.and_self, Syn.okB_true, Syn.ok_mk, ← HL.out]; exact ⟨hq, hq2, hpre⟩
          | false => rw [Bool.and_false, Syn.okB_false, Syn.ok_mk, hq2]; simp
        | false => rw [Bool.false_and, Syn.okB_false, Syn.ok_mk, ← HL.out, hq]; simp
      clear hpre
      cases hnode : nodeB k n s ms.length with
      | false =>
        rw [hnode, Bool.false_and] at hfin
        have HFIN := Lib.hid hfin; clear hfin
        go_wp2_with fail
        refine (l1Node_calls k n s ms.length _ hs).mono ?_
        rintro e w1 ⟨rfl, rfl⟩
        go_wp2_with fail
        go_ret
        exact ⟨ret_b HFIN.out.symm, hb⟩
      | true =>
        rw [hnode, Bool.true_and] at hfin
        cases hss : ssB x with
        | false =>
          have hfin' : (Syn.mk k n s x ds).okB = false := by rw [hfin, scB, hss, Bool.false_and]
          clear hfin
          have HFIN' := Lib.hid hfin'; clear hfin'
          go_wp2_with fail
          refine (l1Node_calls k n s ms.length _ hs).mono ?_
          rintro e w1 ⟨rfl, rfl⟩
          go_wp2_with fail
          refine (sIsScopeSet_calls xa xc x _ (HX.out.below hb)).mono ?_
          rintro e w1 ⟨rfl, hb1⟩
          obtain ⟨hc1, hf1⟩ := bcell hb1; have hz1 := hb1.size; (try simp only [World.size_alloc, World.size_setCell, World.size_drew, sizeDrewN] at hz1 hc1 hf1)
          go_wp2_with fail
          go_ret
          exact ⟨ret_b HFIN'.out.symm, by (repeat (first | with_reducible assumption | with_reducible exact Below.refl _ _ | with_reducible refine Below.drew ?_ | with_reducible refine belowDrewN ?_ _ | ((with_reducible refine Below.setCell ?_ ?_ _); rotate_left; focus (first | omega | (simp; done) | (simp; omega))) | ((with_reducible refine Below.alloc ?_ ?_ _); rotate_left; focus (first | omega | (simp; done) | (simp; omega))) | ((with_reducible refine Below.trans ?_ (Below.mono hb1 ?_)); rotate_left; focus (first | omega | (simp; done) | (simp; omega)))))⟩
        | true =>
          have hfin' : (Syn.mk k n s x ds).okB = (decide (x.length = 0) || decide (k = 1)) := by rw [hfin, scB, hss, Bool.true_and]
          clear hfin
          by_cases hx0 : x.length = 0
          · have hx0' : ((x.length : Int) == 0) = true := by simp [hx0]
            have hfin2 : (Syn.mk k n s x ds).okB = true := by rw [hfin']; simp [hx0]
            have HFIN2 := Lib.hid hfin2; clear hfin2; have HFIN' := Lib.hid hfin'; clear hfin'; have HX0 := Lib.hid hx0; clear hx0
            go_wp2_with fail
            refine (l1Node_calls k n s ms.length _ hs).mono ?_
            rintro e w1 ⟨rfl, rfl⟩
            go_wp2_with fail
            refine (sIsScopeSet_calls xa xc x _ (HX.out.below hb)).mono ?_
            rintro e w1 ⟨rfl, hb1⟩
            obtain ⟨hc1, hf1⟩ := bcell hb1; have hz1 := hb1.size; (try simp only [World.size_alloc, World.size_setCell, World.size_drew, sizeDrewN] at hz1 hc1 hf1)
            have q3' : w1.cell? ⟨w.heap.size, 3, none⟩ = some (.slice xa x.length xc) := by simp (disch := omega) [hc1, q3, go_sem]
            go_wp2_with fail
            go_ret
            exact ⟨ret_b HFIN2.out.symm, by (repeat (first | with_reducible assumption | with_reducible exact Below.refl _ _ | with_reducible refine Below.drew ?_ | with_reducible refine belowDrewN ?_ _ | ((with_reducible refine Below.setCell ?_ ?_ _); rotate_left; focus (first | omega | (simp; done) | (simp; omega))) | ((with_reducible refine Below.alloc ?_ ?_ _); rotate_left; focus (first | omega | (simp; done) | (simp; omega))) | ((with_reducible refine Below.trans ?_ (Below.mono hb1 ?_)); rotate_left; focus (first | omega | (simp; done) | (simp; omega)))))⟩
          · have hx0' : ((x.length : Int) == 0) = false := by simp; intro h; exact hx0 (by simp [h])
            have hfin2 : (Syn.mk k n s x ds).okB = (k == 1) := by rw [hfin']; rw [show decide (x.length = 0) = false by simpa using hx0, Bool.false_or]; by_cases h : k = 1 <;> simp [h]
            have HFIN2 := Lib.hid hfin2; clear hfin2; have HFIN' := Lib.hid hfin'; clear hfin'; have HX0 := Lib.hid hx0; clear hx0
            go_wp2_with fail
            refine (l1Node_calls k n s ms.length _ hs).mono ?_
            rintro e w1 ⟨rfl, rfl⟩
            go_wp2_with fail
            refine (sIsScopeSet_calls xa xc x _ (HX.out.below hb)).mono ?_
            rintro e w1 ⟨rfl, hb1⟩
            obtain ⟨hc1, hf1⟩ := bcell hb1; have hz1 := hb1.size; (try simp only [World.size_alloc, World.size_setCell, World.size_drew, sizeDrewN] at hz1 hc1 hf1)
            have q3' : w1.cell? ⟨w.heap.size, 3, none⟩ = some (.slice xa x.length xc) := by simp (disch := omega) [hc1, q3, go_sem]
            have q0' : w1.cell? ⟨w.heap.size, 0, none⟩ = some (.int .i64 k) := by simp (disch := omega) [hc1, q0, go_sem]
            go_wp2_with fail
            go_ret
            exact ⟨ret_b HFIN2.out.symm, by (repeat (first | with_reducible assumption | with_reducible exact Below.refl _ _ | with_reducible refine Below.drew ?_ | with_reducible refine belowDrewN ?_ _ | ((with_reducible refine Below.setCell ?_ ?_ _); rotate_left; focus (first | omega | (simp; done) | (simp; omega))) | ((with_reducible refine Below.alloc ?_ ?_ _); rotate_left; focus (first | omega | (simp; done) | (simp; omega))) | ((with_reducible refine Below.trans ?_ (Below.mono hb1 ?_)); rotate_left; focus (first | omega | (simp; done) | (simp; omega)))))⟩
end Go.Proofs.Ytghbnehocggnnaa

/-
  Walks: the program's measure of a piece of syntax. No condition.
-/
set_option linter.unusedVariables false
set_option linter.unusedSimpArgs false
set_option maxRecDepth 100000
namespace Go.Proofs.Ytghbnehocggnnaa
open Go.RowKit

def RetMs2 (ok : Prop) (C : Int) (m : Nat) (pb : Nat) (w : World) (e : Ending) (w' : World) : Prop :=
  ∃ (b : Bool) (C' : Int), e = .returned (.bool b) ∧ (b = true ↔ ok) ∧ (b = true → C' = C + m) ∧ C ≤ C' ∧ C' ≤ C + m ∧ w'.cell? ⟨pb, 0, none⟩ = some (.int .i64 C') ∧ w'.frozen? ⟨pb, 0, none⟩ = false ∧ OnlyIn pb (pb + 1) w w'
def MsOkS (k n : Int) (s : ByteArray) (x : List Int) (ds : List Syn) (D C : Int) : Prop := D + Syn.depthL ds ≤ 40 ∧ C + 1 + Syn.countL ds ≤ 2000 ∧ (Syn.mk k n s x ds).ok
def MsSs (ds : List Syn) : Prop := ∀ (k n : Int) (s : ByteArray) (x : List Int) (xa : Option Addr) (xc : Nat) (a : Option Addr) (cap : Nat) (ms : List M) (D : Int) (pb : Nat) (C : Int) (w0 w : World), (Syn.mk k n s x ds).wf → Syn.countL ds ≤ 1000000000 → Syn.IsL 27 ds ms → (M.sl xa xc 1 3 (intM x)).In w0 → (M.sl a cap 5 27 ms).In w0 →
    Below w0.heap.size w0 w → w0.heap.size ≤ pb → 0 ≤ D → D ≤ 1000000000 → 0 ≤ C → C ≤ 1000000000 → w.cell? ⟨pb, 0, none⟩ = some (.int .i64 C) → w.frozen? ⟨pb, 0, none⟩ = false →
    Calls Try.prog 64 #[.agg #[.int .i64 k, .int .i64 n, .string s, .slice xa x.length xc, .slice a ms.length cap], .int .i64 D, .pointer (some ⟨pb, 0, none⟩)] w (RetMs2 (MsOkS k n s x ds D C) C (1 + Syn.countL ds) pb w)
set_option maxHeartbeats 2000000 in
theorem measureSyntax_calls : ∀ ds, MsSs ds := by
  refine Syn.inductL fun ds ih => ?_
  intro k n s x xa xc a cap ms D pb C w0 w hwf hB hi hx hin hb0 hpb hD0 hD9 hC0 hC9 hp hpf
  have hl := hi.length
  have hcap := hin.len
  have hxl := Ints.len hx
  have hpw := World.block_lt_of_cell? w _ hp
  simp only at hpw
  have hs : s.size ≤ 9223372036854775807 := hwf.2.2.1
  have hwl := hwf.2.2.2.2
  have hok : MsOkS k n s x ds D C ↔ D + Syn.depthL ds ≤ 40 ∧ C + 1 + Syn.countL ds ≤ 2000 ∧ nodeB k n s ms.length = true ∧ scB k x = true ∧ ∀ d ∈ ds, d.ok := by unfold MsOkS; rw [Syn.ok_mk, ← hl]
  clear hwf
  have ho1 : OnlyIn pb (pb + 1) w (w.setCell ⟨pb, 0, none⟩ (.int .i64 (C + 1))) := (OnlyIn.refl pb (pb + 1) w).set ⟨pb, 0, none⟩ _ (Nat.le_refl _) (Nat.lt_succ_self _)
  by_cases hdeep : 40 < D
  · have hno : ¬ MsOkS k n s x ds D C := fun h => by have := h.1; omega
    have IH := Lib.hid ih; clear ih; have HIN := Lib.hid hin; clear hin; have HI := Lib.hid hi; clear hi; have HL := Lib.hid hl; clear hl; have HWL := Lib.hid hwl; clear hwl; have HOK := Lib.hid hok; clear hok; have HNO := Lib.hid hno; clear hno; have HX := Lib.hid hx; clear hx
    go_enter Try.func64, Try.ntmps64
    go_wp2_with fail
    go_ret
    refine ⟨false, C + 1, rfl, by simp [HNO.out], by simp, by omega, by omega, ?_, ?_, ?_⟩
    · simp (disch := (first | omega | (simp; omega))) [go_sem, hp]
    · simp (disch := (first | omega | (simp; omega))) [go_sem, hpf]
    · first | exact ho1 | exact ho1.new _
  · by_cases hmany : 2000 < C + 1
    · have hno : ¬ MsOkS k n s x ds D C := fun h => by have := h.2.1; omega
      have IH := Lib.hid ih; clear ih; have HIN := Lib.hid hin; clear hin; have HI := Lib.hid hi; clear hi; have HL := Lib.hid hl; clear hl; have HWL := Lib.hid hwl; clear hwl; have HOK := Lib.hid hok; clear hok; have HNO := Lib.hid hno; clear hno; have HX := Lib.hid hx; clear hx
      go_enter Try.func64, Try.ntmps64
      go_wp2_with fail
      go_ret
      refine ⟨false, C + 1, rfl, by simp [HNO.out], by simp, by omega, by omega, ?_, ?_, ?_⟩
      · simp (disch := (first | omega | (simp; omega))) [go_sem, hp]
      · simp (disch := (first | omega | (simp; omega))) [go_sem, hpf]
      · first | exact ho1 | exact ho1.new _
    · cases hnode : nodeB k n s ms.length with
      | false =>
        have hno : ¬ MsOkS k n s x ds D C := fun h => by rw [hok, hnode] at h; simp at h
        have IH := Lib.hid ih; clear ih; have HIN := Lib.hid hin; clear hin; have HI := Lib.hid hi; clear hi; have HL := Lib.hid hl; clear hl; have HWL := Lib.hid hwl; clear hwl; have HOK := Lib.hid hok; clear hok; have HNO := Lib.hid hno; clear hno; have HX := Lib.hid hx; clear hx
        go_enter Try.func64, Try.ntmps64
        go_wp2_with fail
        refine (rightNode_calls k n s ms.length _ hs).mono ?_
        rintro e w1 ⟨rfl, rfl⟩
        go_wp2_with fail
        go_ret
        refine ⟨false, C + 1, rfl, by simp [HNO.out], by simp, by omega, by omega, ?_, ?_, ?_⟩
        · simp (disch := (first | omega | (simp; omega))) [go_sem, hp]
        · simp (disch := (first | omega | (simp; omega))) [go_sem, hpf]
        · first | exact ho1 | exact ho1.new _
      | true =>
        by_cases hkx : ¬ k = 1 ∧ 0 < x.length
        · have hno : ¬ MsOkS k n s x ds D C := fun h => by
            rw [hok] at h
            have h4 := h.2.2.2.1
            simp only [scB, Bool.and_eq_true, Bool.or_eq_true, decide_eq_true_eq] at h4
            rcases h4.2 with h5 | h5
            · omega
            · exact hkx.1 h5
          have hk1 : (k != 1) = true := by simp [hkx.1]
          have hx0 : 0 < (x.length : Int) := by omega
          have hx0n : 0 < x.length := hkx.2
          have hx0d : decide (0 < (x.length : Int)) = true := by simpa using hkx.2
          have IH := Lib.hid ih; clear ih; have HIN := Lib.hid hin; clear hin; have HI := Lib.hid hi; clear hi; have HL := Lib.hid hl; clear hl; have HWL := Lib.hid hwl; clear hwl; have HOK := Lib.hid hok; clear hok; have HNO := Lib.hid hno; clear hno; have HX := Lib.hid hx; clear hx; have HKX := Lib.hid hkx; clear hkx
          go_enter Try.func64, Try.ntmps64
          go_wp2_with fail
          refine (rightNode_calls k n s ms.length _ hs).mono ?_
          rintro e w1 ⟨rfl, rfl⟩
          go_wp2_with fail
          go_ret
          refine ⟨false, C + 1, rfl, by simp [HNO.out], by simp, by omega, by omega, ?_, ?_, ?_⟩
          · simp (disch := (first | omega | (simp; omega))) [go_sem, hp]
          · simp (disch := (first | omega | (simp; omega))) [go_sem, hpf]
          · first | exact ho1 | exact ho1.new _
        · have hwin : (M.sl xa xc 1 3 (intM x)).In (w.setCell ⟨pb, 0, none⟩ (.int .i64 (C + 1))) := hx.below (ho1.low hb0 hpb)
          have hkx' : (k = 1) ∨ (¬ k = 1 ∧ ¬ 0 < x.length) := by
            by_cases h : k = 1
            · exact .inl h
            · exact .inr ⟨h, fun h2 => hkx ⟨h, h2⟩⟩
          have hsc : scB k x = ssB x := by
            unfold scB
            rcases hkx' with h | ⟨_, h⟩
            · simp [h]
            · simp [show x.length = 0 by omega]
          have hs' : (w.setCell ⟨pb, 0, none⟩ (.int .i64 (C + 1))).heap.size = w.heap.size := by simp
          clear hkx
          have hcase : ((k != 1) = false ∧ True ∧ True) ∨ ((k != 1) = true ∧ ¬ 0 < x.length ∧ decide (0 < x.length) = false) := by
            rcases hkx' with h | ⟨h, h2⟩
            · exact .inl ⟨by simp [h], trivial, trivial⟩
            · exact .inr ⟨by simp [h], by omega, by rw [decide_eq_false_iff_not]; exact h2⟩
          clear hkx'
          rcases hcase with ⟨hk1, hx0, hx0d⟩ | ⟨hk1, hx0, hx0d⟩
          all_goals
            cases hss : ssB x with
            | false =>
              have hno : ¬ MsOkS k n s x ds D C := fun h => by
                rw [hok] at h
                have h4 := h.2.2.2.1
                rw [hsc, hss] at h4
                simp at h4
              have IH := Lib.hid ih; clear ih; have HIN := Lib.hid hin; clear hin; have HI := Lib.hid hi; clear hi; have HL := Lib.hid hl; clear hl; have HWL := Lib.hid hwl; clear hwl; have HOK := Lib.hid hok; clear hok; have HNO := Lib.hid hno; clear hno; have HX := Lib.hid hx; clear hx; have HWIN := Lib.hid hwin; clear hwin; have HSC := Lib.hid hsc; clear hsc
              go_enter Try.func64, Try.ntmps64
              go_wp2_with fail
              refine (rightNode_calls k n s ms.length _ hs).mono ?_
              rintro e w1 ⟨rfl, rfl⟩
              go_wp2_with fail
              refine (iIsScopeSet_calls xa xc x _ (HWIN.out.below (by (repeat (first | with_reducible assumption | with_reducible exact Below.refl _ _ | with_reducible refine Below.drew ?_ | with_reducible refine belowDrewN ?_ _ | ((with_reducible refine Below.setCell ?_ ?_ _); rotate_left; focus (first | omega | (simp; done) | (simp; omega))) | ((with_reducible refine Below.alloc ?_ ?_ _); rotate_left; focus (first | omega | (simp; done) | (simp; omega)))))))).mono ?_
              rintro e w1 ⟨rfl, hb1⟩
              obtain ⟨hc1, hf1⟩ := bcell hb1; have hz1 := hb1.size; (try simp only [World.size_alloc, World.size_setCell, World.size_drew, sizeDrewN] at hz1 hc1 hf1)
              have q' : w1.cell? ⟨pb, 0, none⟩ = some (.int .i64 (C + 1)) := by rw [hc1 _ _ (by omega)]; simp (disch := (first | omega | (simp; omega))) [go_sem, hp]
              have qf' : w1.frozen? ⟨pb, 0, none⟩ = false := by rw [hf1 _ _ (by omega)]; simp (disch := (first | omega | (simp; omega))) [go_sem, hpf]
              go_wp2_with fail
              go_ret
              exact ⟨false, C + 1, rfl, by simp [HNO.out], by simp, by omega, by omega, q', qf', (ho1.new _).trans (OnlyIn.of_below hb1)⟩
            | true =>
              have hsc1 : scB k x = true := by rw [hsc, hss]
              have IH := Lib.hid ih; clear ih; have HIN := Lib.hid hin; clear hin; have HI := Lib.hid hi; clear hi; have HL := Lib.hid hl; clear hl; have HWL := Lib.hid hwl; clear hwl; have HOK := Lib.hid hok; clear hok; have HX := Lib.hid hx; clear hx; have HWIN := Lib.hid hwin; clear hwin; have HSC := Lib.hid hsc; clear hsc
              go_enter Try.func64, Try.ntmps64
              go_wp2_with fail
              refine (rightNode_calls k n s ms.length _ hs).mono ?_
              rintro e w1 ⟨rfl, rfl⟩
              go_wp2_with fail
              refine (iIsScopeSet_calls xa xc x _ (HWIN.out.below (by (repeat (first | with_reducible assumption | with_reducible exact Below.refl _ _ | with_reducible refine Below.drew ?_ | with_reducible refine belowDrewN ?_ _ | ((with_reducible refine Below.setCell ?_ ?_ _); rotate_left; focus (first | omega | (simp; done) | (simp; omega))) | ((with_reducible refine Below.alloc ?_ ?_ _); rotate_left; focus (first | omega | (simp; done) | (simp; omega)))))))).mono ?_
              rintro e w1 ⟨rfl, hb1⟩
              obtain ⟨hc1, hf1⟩ := bcell hb1; have hz1 := hb1.size; (try simp only [World.size_alloc, World.size_setCell, World.size_drew, sizeDrewN] at hz1 hc1 hf1)
              have q1_ : w1.cell? ⟨pb, 0, none⟩ = some (.int .i64 (C + 1)) := by rw [hc1 _ _ (by omega)]; simp (disch := (first | omega | (simp; omega))) [go_sem, hp]
              have qf1_ : w1.frozen? ⟨pb, 0, none⟩ = false := by rw [hf1 _ _ (by omega)]; simp (disch := (first | omega | (simp; omega))) [go_sem, hpf]
              have q4_ : w1.cell? ⟨w.heap.size, 4, none⟩ = some (.slice a ms.length cap) := by
                rw [hc1 _ _ (by omega), ← hs', World.cell?_alloc_new]; rfl
              have ho2_ : OnlyIn pb (pb + 1) w w1 := (ho1.new _).trans (OnlyIn.of_below hb1)
              clear hb1 hc1 hf1
              have HO2_ := Lib.hid ho2_; clear ho2_
              go_wp2_with fail
              go_loopw [53] (fun i wr => ∃ (j : Nat), j ≤ ms.length ∧ i = .int .i64 j ∧ D + Syn.depthL (ds.take j) ≤ 40 ∧ C + 1 + Syn.countL (ds.take j) ≤ 2000 ∧ (∀ x ∈ ds.take j, x.ok) ∧ (wr.cell? ⟨pb, 0, none⟩ = some (.int .i64 (C + 1 + Syn.countL (ds.take j))) ∧ wr.frozen? ⟨pb, 0, none⟩ = false) ∧ OnlyIn pb (pb + 1) w wr ∧ w.heap.size + 1 ≤ wr.heap.size) (fun i _ => ms.length - (intOf i).toNat)
              case atStart => exact ⟨0, Nat.zero_le _, rfl, by simp [Syn.depthL]; omega, by simp [Syn.countL]; omega, by simp, ⟨by simpa [Syn.countL] using q1_, qf1_⟩, HO2_.out, by omega⟩
              case round =>
                clear q1_ qf1_ q4_
                obtain ⟨j, hj, rfl, hdp, hct, hpre, ⟨q, qf⟩, ho, hsz⟩ := hrel
                have hbz := ho.low hb0 hpb
                by_cases hlt : j < ms.length
                · obtain ⟨b, off, k1, n1, s1, x1, ds1, xa1, xc1, a1, cap1, ms1, rfl, hd, hi1, hx1, hin1, c0, c1, c2, c3, c4⟩ := Syn.elem HIN.out HI.out j hlt
                  have hbl := World.block_lt_of_cell? w0 _ c0
                  simp only at hbl
                  have e0 := (hbz.cell (p := ⟨b, _, none⟩) hbl).trans c0
                  have e1 := (hbz.cell (p := ⟨b, _, none⟩) hbl).trans c1
                  have e2 := (hbz.cell (p := ⟨b, _, none⟩) hbl).trans c2
                  have e3 := (hbz.cell (p := ⟨b, _, none⟩) hbl).trans c3
                  have e4 := (hbz.cell (p := ⟨b, _, none⟩) hbl).trans c4
                  clear c0 c1 c2 c3 c4
                  obtain ⟨ht, hle⟩ := Syn.countL_le ds j _ hd
                  have htd := Syn.depthL_take hd
                  have hgd := Syn.depthL_get hd
                  have hw1 := Syn.wfL_get HWL.out hd
                  have hmem := List.mem_of_getElem? hd
                  simp only [Syn.count] at hle ht
                  simp only [Syn.depth] at htd hgd
                  have hD20 : D ≤ 40 := by omega
                  have hbx := hbz.alloc (by first | exact hbz.size | omega) (.cells #[.int .i64 k1, .int .i64 n1, .string s1, .slice xa1 x1.length xc1, .slice a1 ms1.length cap1] 27)
                  generalize hCe : C + 1 + (Syn.countL (ds.take j) : Int) = C1 at *
                  have hC1 : 0 ≤ C1 := by omega
                  have hpr : pb < wr.heap.size := by omega
                  have q1 : (wr.alloc (.cells #[.int .i64 k1, .int .i64 n1, .string s1, .slice xa1 x1.length xc1, .slice a1 ms1.length cap1] 27)).cell? ⟨pb, 0, none⟩ = some (.int .i64 C1) := by simp (disch := (first | omega | (simp; omega))) [go_sem, q]
                  have q1f : (wr.alloc (.cells #[.int .i64 k1, .int .i64 n1, .string s1, .slice xa1 x1.length xc1, .slice a1 ms1.length cap1] 27)).frozen? ⟨pb, 0, none⟩ = false := by simp (disch := (first | omega | (simp; omega))) [go_sem, qf]
                  have HD := Lib.hid hd; clear hd; have HI1 := Lib.hid hi1; clear hi1; have HIN1 := Lib.hid hin1; clear hin1; have HMEM := Lib.hid hmem; clear hmem; have HT := Lib.hid ht; clear ht; have HTD := Lib.hid htd; clear htd; have HGD := Lib.hid hgd; clear hgd; have HW1 := Lib.hid hw1; clear hw1; have HB0 := Lib.hid hb0; clear hb0; have HBZ := Lib.hid hbz; clear hbz; have HO := Lib.hid ho; clear ho; have HBX := Lib.hid hbx; clear hbx; have HPRE := Lib.hid hpre; clear hpre; have HCE := Lib.hid hCe; clear hCe; have Q1 := Lib.hid q1; clear q1; have Q1F := Lib.hid q1f; clear q1f; have HX1 := Lib.hid hx1; clear hx1
                  go_wp2_with fail
                  refine (IH.out k1 n1 s1 x1 ds1 HMEM.out k1 n1 s1 x1 xa1 xc1 a1 cap1 ms1 (D + 1) pb C1 w0 _ HW1.out (by omega) HI1.out HX1.out HIN1.out HBX.out hpb (by omega) (by omega) hC1 (by omega) Q1.out Q1F.out).mono ?_
                  rintro e w1 ⟨bb, C', rfl, hbb, hbc, hlo, hhi, q', qf', ho2⟩
                  have hof := (HO.out.new (.cells #[.int .i64 k1, .int .i64 n1, .string s1, .slice xa1 x1.length xc1, .slice a1 ms1.length cap1] 27)).trans ho2
                  have hz2 := ho2.size
                  simp only [World.size_alloc] at hz2
                  cases bb with
                  | true =>
                    obtain ⟨m1, m2, m3⟩ := hbb.1 rfl
                    have hcc := hbc rfl
                    have hpre2 := syn_ok_take HPRE.out HD.out m3
                    have hdp2 : D + (Syn.depthL (ds.take (j + 1)) : Int) ≤ 40 := by rw [HTD.out]; omega
                    have hct2 : C + 1 + (Syn.countL (ds.take (j + 1)) : Int) = C' := by rw [HT.out, hcc, ← HCE.out]; push_cast; omega
                    have HOF := Lib.hid hof; clear hof; have HO2 := Lib.hid ho2; clear ho2; have HPRE2 := Lib.hid hpre2; clear hpre2; have HDP2 := Lib.hid hdp2; clear hdp2; have HBB := Lib.hid hbb; clear hbb; have HBC := Lib.hid hbc; clear hbc; have HCC := Lib.hid hcc; clear hcc; have M3 := Lib.hid m3; clear m3
                    go_wp2_with fail
                    go_roundw
                    case rel => exact ⟨j + 1, by omega, by go_num, HDP2.out, by rw [hct2]; have := HCC.out; omega, HPRE2.out, ⟨by rw [hct2]; exact q', qf'⟩, HOF.out, by omega⟩
                    case measure => simp [intOf]; omega
                  | false =>
                    have hno : ¬ MsOkS k n s x ds D C := fun h => by
                      have h' := HOK.out.1 h
                      have : ¬ MsOkS k1 n1 s1 x1 ds1 (D + 1) C1 := fun h2 => by have := hbb.2 h2; simp at this
                      apply this
                      refine ⟨?_, ?_, h'.2.2.2.2 _ HMEM.out⟩
                      · have := HGD.out; omega
                      · have := HCE.out; omega
                    have hcl : C + ((1 + Syn.countL ds : Nat) : Int) = C + 1 + Syn.countL ds := by push_cast; omega
                    have hce := HCE.out
                    have HOF := Lib.hid hof; clear hof; have HO2 := Lib.hid ho2; clear ho2; have HBB := Lib.hid hbb; clear hbb; have HBC := Lib.hid hbc; clear hbc; have HNO := Lib.hid hno; clear hno
                    go_wp2_with fail
                    go_ret
                    exact ⟨false, C', rfl, by simp [HNO.out], by simp, by omega, by push_cast at hhi ⊢; omega, q', qf', HOF.out⟩
                · have hk2 : j = ms.length := by omega
                  subst hk2
                  have hd2 : ds.take ms.length = ds := by rw [HL.out, List.take_length]
                  rw [hd2] at q hdp hct hpre
                  have hyes : MsOkS k n s x ds D C := HOK.out.2 ⟨hdp, hct, hnode, hsc1, hpre⟩
                  have HO := Lib.hid ho; clear ho; have HBZ := Lib.hid hbz; clear hbz; have HD2 := Lib.hid hd2; clear hd2; have HYES := Lib.hid hyes; clear hyes; have HPRE := Lib.hid hpre; clear hpre
                  go_wp2_with fail
                  go_ret
                  exact ⟨true, _, rfl, by simp [HYES.out], fun _ => rfl, by push_cast; omega, Int.le_refl _, by rw [q]; congr 2; push_cast; omega, qf, HO.out⟩
end Go.Proofs.Ytghbnehocggnnaa

/-
  Walks: IsSyntax. No condition.
-/
set_option linter.unusedVariables false
set_option linter.unusedSimpArgs false
set_option maxRecDepth 100000
namespace Go.Proofs.Ytghbnehocggnnaa
open Go.RowKit

def IsSynP (k n : Int) (s : ByteArray) (x : List Int) (ds : List Syn) : Prop := 1 + Syn.countL ds ≤ 2000 ∧ 1 + Syn.depthL ds ≤ 40 ∧ (Syn.mk k n s x ds).ok
open Classical in
noncomputable def isSynB (k n : Int) (s : ByteArray) (x : List Int) (ds : List Syn) : Bool := decide (IsSynP k n s x ds)
theorem isSynB_yes {k n : Int} {s : ByteArray} {x : List Int} {ds : List Syn} (h : IsSynP k n s x ds) : isSynB k n s x ds = true := by simp [isSynB, h]
theorem isSynB_no {k n : Int} {s : ByteArray} {x : List Int} {ds : List Syn} (h : ¬ IsSynP k n s x ds) : isSynB k n s x ds = false := by simp [isSynB, h]
theorem isSynB_iff {k n : Int} {s : ByteArray} {x : List Int} {ds : List Syn} : isSynB k n s x ds = true ↔ IsSynP k n s x ds := by simp [isSynB]

theorem iIsSyntax_calls (k n : Int) (s : ByteArray) (x : List Int) (ds : List Syn) (xa : Option Addr) (xc : Nat) (a : Option Addr) (cap : Nat) (ms : List M) (w : World) (hwf : (Syn.mk k n s x ds).wf) (hB : Syn.countL ds ≤ 1000000000) (hi : Syn.IsL 27 ds ms) (hown : (SynOwn 27 xa xc x a cap ms).In w) :
    Calls Try.prog 29 #[.agg #[.int .i64 k, .int .i64 n, .string s, .slice xa x.length xc, .slice a ms.length cap]] w (Ret (.bool (isSynB k n s x ds)) w) := by
  have HI := Lib.hid hi; clear hi; have HOWN := Lib.hid hown; clear hown; have HWF := Lib.hid hwf; clear hwf
  go_enter Try.func29, Try.ntmps29
  go_wp2_with fail
  refine (measureSyntax_calls ds k n s x xa xc a cap ms 1 (w.heap.size + 1) 0 w _ HWF.out hB HI.out (SynIn_x HOWN.out) (SynIn_ms HOWN.out) (by (repeat (first | with_reducible assumption | with_reducible exact Below.refl _ _ | with_reducible refine Below.drew ?_ | with_reducible refine belowDrewN ?_ _ | ((with_reducible refine Below.setCell ?_ ?_ _); rotate_left; focus (first | omega | (simp; done) | (simp; omega))) | ((with_reducible refine Below.alloc ?_ ?_ _); rotate_left; focus (first | omega | (simp; done) | (simp; omega)))))) (by omega) (by omega) (by omega) (by omega) (by omega) (by simp [go_sem]) (by simp [go_sem])).mono ?_
  rintro e w1 ⟨bb, C', rfl, hbb, hbc, hlo, hhi, q', qf', ho2⟩
  have hbel : Below w.heap.size w w1 := ho2.low (by (repeat (first | with_reducible assumption | with_reducible exact Below.refl _ _ | with_reducible refine Below.drew ?_ | with_reducible refine belowDrewN ?_ _ | ((with_reducible refine Below.setCell ?_ ?_ _); rotate_left; focus (first | omega | (simp; done) | (simp; omega))) | ((with_reducible refine Below.alloc ?_ ?_ _); rotate_left; focus (first | omega | (simp; done) | (simp; omega)))))) (by omega)
  have hv : bb = isSynB k n s x ds := by
    have hx : MsOkS k n s x ds 1 0 ↔ IsSynP k n s x ds := by unfold MsOkS IsSynP; constructor <;> (rintro ⟨h1, h2, h3⟩; exact ⟨by omega, by omega, h3⟩)
    cases bb with
    | true => exact (isSynB_yes (hx.1 (hbb.1 rfl))).symm
    | false => exact (isSynB_no fun h => by have := hbb.2 (hx.2 h); simp at this).symm
  have HBB := Lib.hid hbb; clear hbb; have HBC := Lib.hid hbc; clear hbc; have HO2 := Lib.hid ho2; clear ho2; have HBEL := Lib.hid hbel; clear hbel
  go_wp2_with fail
  go_ret
  exact ⟨rfl, HBEL.out⟩
theorem sIsSyntax_calls (k n : Int) (s : ByteArray) (x : List Int) (ds : List Syn) (xa : Option Addr) (xc : Nat) (a : Option Addr) (cap : Nat) (ms : List M) (w : World) (hwf : (Syn.mk k n s x ds).wf) (hB : Syn.countL ds ≤ 1000000000) (hi : Syn.IsL 27 ds ms) (hown : (SynOwn 27 xa xc x a cap ms).In w) :
    Calls Try.prog 30 #[.agg #[.int .i64 k, .int .i64 n, .string s, .slice xa x.length xc, .slice a ms.length cap]] w (Ret (.bool (isSynB k n s x ds)) w) := by
  have hdl := Syn.depthL_le ds
  have hx := SynIn_x hown
  have hin := SynIn_ms hown
  clear hown
  have HI := Lib.hid hi; clear hi; have HIN := Lib.hid hin; clear hin; have HWF := Lib.hid hwf; clear hwf; have HX := Lib.hid hx; clear hx
  go_enter Try.func30, Try.ntmps30
  go_wp2_with fail
  refine (l2Few_calls ds k n s x xa xc a cap ms (w.heap.size + 1) 2000 w _ hB HI.out HIN.out (by (repeat (first | with_reducible assumption | with_reducible exact Below.refl _ _ | with_reducible refine Below.drew ?_ | with_reducible refine belowDrewN ?_ _ | ((with_reducible refine Below.setCell ?_ ?_ _); rotate_left; focus (first | omega | (simp; done) | (simp; omega))) | ((with_reducible refine Below.alloc ?_ ?_ _); rotate_left; focus (first | omega | (simp; done) | (simp; omega)))))) (by omega) (by omega) (by omega) (by simp [go_sem]) (by simp [go_sem])).mono ?_
  rintro e w1 ⟨rfl, q', qf', ho1⟩
  obtain ⟨hc1, hf1⟩ := ocell ho1
  have hz1 := ho1.size
  simp only [World.size_alloc] at hz1 hc1
  have hb1 : Below w.heap.size w w1 := ho1.low (by (repeat (first | with_reducible assumption | with_reducible exact Below.refl _ _ | with_reducible refine Below.drew ?_ | with_reducible refine belowDrewN ?_ _ | ((with_reducible refine Below.setCell ?_ ?_ _); rotate_left; focus (first | omega | (simp; done) | (simp; omega))) | ((with_reducible refine Below.alloc ?_ ?_ _); rotate_left; focus (first | omega | (simp; done) | (simp; omega)))))) (by omega)
  have q0 : w1.cell? ⟨w.heap.size, 0, none⟩ = some (.int .i64 k) := by rw [hc1 _ _ (by omega) (by omega)]; simp [go_sem]
  have q1 : w1.cell? ⟨w.heap.size, 1, none⟩ = some (.int .i64 n) := by rw [hc1 _ _ (by omega) (by omega)]; simp [go_sem]
  have q2 : w1.cell? ⟨w.heap.size, 2, none⟩ = some (.string s) := by rw [hc1 _ _ (by omega) (by omega)]; simp [go_sem]
  have q3 : w1.cell? ⟨w.heap.size, 3, none⟩ = some (.slice xa x.length xc) := by rw [hc1 _ _ (by omega) (by omega)]; simp [go_sem]
  have q4 : w1.cell? ⟨w.heap.size, 4, none⟩ = some (.slice a ms.length cap) := by rw [hc1 _ _ (by omega) (by omega)]; simp [go_sem]
  clear hc1 hf1
  have HO1 := Lib.hid ho1; clear ho1
  by_cases hfew : ((1 + Syn.countL ds : Nat) : Int) ≤ 2000
  · have hpos : 0 ≤ few 2000 (1 + Syn.countL ds) := by rw [few_pos hfew]; omega
    go_wp2_with fail
    refine (l2Depth_calls ds k n s x xa xc a cap ms _ (by omega) HI.out (HIN.out.below hb1)).mono ?_
    rintro e w2 ⟨rfl, hb2⟩
    obtain ⟨hc2, hf2⟩ := bcell hb2; have hz2 := hb2.size; (try simp only [World.size_alloc, World.size_setCell, World.size_drew, sizeDrewN] at hz2 hc2 hf2)
    have q0' := (hc2 _ _ (by omega)).trans q0
    have q1' := (hc2 _ _ (by omega)).trans q1
    have q2' := (hc2 _ _ (by omega)).trans q2
    have q3' := (hc2 _ _ (by omega)).trans q3
    have q4' := (hc2 _ _ (by omega)).trans q4
    by_cases hdp : ((1 + Syn.depthL ds : Nat) : Int) ≤ 40
    · go_wp2_with fail
      refine (l2Nodes_calls ds k n s x xa xc a cap ms _ HWF.out HI.out (HX.out.below (by (repeat (first | with_reducible assumption | with_reducible exact Below.refl _ _ | with_reducible refine Below.drew ?_ | with_reducible refine belowDrewN ?_ _ | ((with_reducible refine Below.setCell ?_ ?_ _); rotate_left; focus (first | omega | (simp; done) | (simp; omega))) | ((with_reducible refine Below.alloc ?_ ?_ _); rotate_left; focus (first | omega | (simp; done) | (simp; omega))) | ((with_reducible refine Below.trans ?_ (Below.mono hb1 ?_)); rotate_left; focus (first | omega | (simp; done) | (simp; omega))) | ((with_reducible refine Below.trans ?_ (Below.mono hb2 ?_)); rotate_left; focus (first | omega | (simp; done) | (simp; omega))))))) (HIN.out.below (by (repeat (first | with_reducible assumption | with_reducible exact Below.refl _ _ | with_reducible refine Below.drew ?_ | with_reducible refine belowDrewN ?_ _ | ((with_reducible refine Below.setCell ?_ ?_ _); rotate_left; focus (first | omega | (simp; done) | (simp; omega))) | ((with_reducible refine Below.alloc ?_ ?_ _); rotate_left; focus (first | omega | (simp; done) | (simp; omega))) | ((with_reducible refine Below.trans ?_ (Below.mono hb1 ?_)); rotate_left; focus (first | omega | (simp; done) | (simp; omega))) | ((with_reducible refine Below.trans ?_ (Below.mono hb2 ?_)); rotate_left; focus (first | omega | (simp; done) | (simp; omega)))))))).mono ?_
      rintro e w3 ⟨rfl, hb3⟩
      obtain ⟨hc3, hf3⟩ := bcell hb3; have hz3 := hb3.size; (try simp only [World.size_alloc, World.size_setCell, World.size_drew, sizeDrewN] at hz3 hc3 hf3)
      have hv : (Syn.mk k n s x ds).okB = isSynB k n s x ds := by
        cases hq : (Syn.mk k n s x ds).okB with
        | true => exact (isSynB_yes ⟨by omega, by omega, Syn.okB_true.1 hq⟩).symm
        | false => exact (isSynB_no fun h => Syn.okB_false.1 hq h.2.2).symm
      go_wp2_with fail
      go_ret
      exact ⟨rfl, by (repeat (first | with_reducible assumption | with_reducible exact Below.refl _ _ | with_reducible refine Below.drew ?_ | with_reducible refine belowDrewN ?_ _ | ((with_reducible refine Below.setCell ?_ ?_ _); rotate_left; focus (first | omega | (simp; done) | (simp; omega))) | ((with_reducible refine Below.alloc ?_ ?_ _); rotate_left; focus (first | omega | (simp; done) | (simp; omega))) | ((with_reducible refine Below.trans ?_ (Below.mono hb1 ?_)); rotate_left; focus (first | omega | (simp; done) | (simp; omega))) | ((with_reducible refine Below.trans ?_ (Below.mono hb2 ?_)); rotate_left; focus (first | omega | (simp; done) | (simp; omega))) | ((with_reducible refine Below.trans ?_ (Below.mono hb3 ?_)); rotate_left; focus (first | omega | (simp; done) | (simp; omega)))))⟩
    · have hno := isSynB_no (k := k) (n := n) (s := s) (x := x) (ds := ds) fun h => hdp (by have := h.2.1; omega)
      have HNO := Lib.hid hno; clear hno
      go_wp2_with fail
      go_ret
      exact ⟨ret_b HNO.out.symm, by (repeat (first | with_reducible assumption | with_reducible exact Below.refl _ _ | with_reducible refine Below.drew ?_ | with_reducible refine belowDrewN ?_ _ | ((with_reducible refine Below.setCell ?_ ?_ _); rotate_left; focus (first | omega | (simp; done) | (simp; omega))) | ((with_reducible refine Below.alloc ?_ ?_ _); rotate_left; focus (first | omega | (simp; done) | (simp; omega))) | ((with_reducible refine Below.trans ?_ (Below.mono hb1 ?_)); rotate_left; focus (first | omega | (simp; done) | (simp; omega))) | ((with_reducible refine Below.trans ?_ (Below.mono hb2 ?_)); rotate_left; focus (first | omega | (simp; done) | (simp; omega)))))⟩
  · have hneg : ¬ 0 ≤ few 2000 (1 + Syn.countL ds) := by rw [few_neg hfew]; omega
    have hno := isSynB_no (k := k) (n := n) (s := s) (x := x) (ds := ds) fun h => hfew (by have := h.1; omega)
    have HNO := Lib.hid hno; clear hno
    go_wp2_with fail
    go_ret
    exact ⟨ret_b HNO.out.symm, by (repeat (first | with_reducible assumption | with_reducible exact Below.refl _ _ | with_reducible refine Below.drew ?_ | with_reducible refine belowDrewN ?_ _ | ((with_reducible refine Below.setCell ?_ ?_ _); rotate_left; focus (first | omega | (simp; done) | (simp; omega))) | ((with_reducible refine Below.alloc ?_ ?_ _); rotate_left; focus (first | omega | (simp; done) | (simp; omega))) | ((with_reducible refine Below.trans ?_ (Below.mono hb1 ?_)); rotate_left; focus (first | omega | (simp; done) | (simp; omega)))))⟩
/-- an identifier -/
noncomputable def isIdB (k n : Int) (s : ByteArray) (x : List Int) (ds : List Syn) : Bool := (k == 1) && isSynB k n s x ds
theorem sIsIdentifier_calls (k n : Int) (s : ByteArray) (x : List Int) (ds : List Syn) (xa : Option Addr) (xc : Nat) (a : Option Addr) (cap : Nat) (ms : List M) (w : World) (hwf : (Syn.mk k n s x ds).wf) (hB : Syn.countL ds ≤ 1000000000) (hi : Syn.IsL 27 ds ms) (hown : (SynOwn 27 xa xc x a cap ms).In w) :
    Calls Try.prog 8 #[.agg #[.int .i64 k, .int .i64 n, .string s, .slice xa x.length xc, .slice a ms.length cap]] w (Ret (.bool (isIdB k n s x ds)) w) := by
  have HI := Lib.hid hi; clear hi; have HOWN := Lib.hid hown; clear hown; have HWF := Lib.hid hwf; clear hwf
  by_cases hk : k = 1
  · have hk' : (k == 1) = true := by simp [hk]
    have hv : isIdB k n s x ds = isSynB k n s x ds := by unfold isIdB; rw [hk', Bool.true_and]
    have HK := Lib.hid hk; clear hk; have HV := Lib.hid hv; clear hv
    go_enter Try.func8, Try.ntmps8
    go_wp2_with fail
    refine (sIsSyntax_calls k n s x ds xa xc a cap ms _ HWF.out hB HI.out (HOWN.out.below (by (repeat (first | with_reducible assumption | with_reducible exact Below.refl _ _ | with_reducible refine Below.drew ?_ | with_reducible refine belowDrewN ?_ _ | ((with_reducible refine Below.setCell ?_ ?_ _); rotate_left; focus (first | omega | (simp; done) | (simp; omega))) | ((with_reducible refine Below.alloc ?_ ?_ _); rotate_left; focus (first | omega | (simp; done) | (simp; omega)))))))).mono ?_
    rintro e w1 ⟨rfl, hb1⟩
    go_wp2_with fail
    go_ret
    exact ⟨ret_b HV.out.symm, by (repeat (first | with_reducible assumption | with_reducible exact Below.refl _ _ | with_reducible refine Below.drew ?_ | with_reducible refine belowDrewN ?_ _ | ((with_reducible refine Below.setCell ?_ ?_ _); rotate_left; focus (first | omega | (simp; done) | (simp; omega))) | ((with_reducible refine Below.alloc ?_ ?_ _); rotate_left; focus (first | omega | (simp; done) | (simp; omega))) | ((with_reducible refine Below.trans ?_ (Below.mono hb1 ?_)); rotate_left; focus (first | omega | (simp; done) | (simp; omega)))))⟩
  · have hk' : (k == 1) = false := by simp [hk]
    have hv : isIdB k n s x ds = false := by unfold isIdB; rw [hk', Bool.false_and]
    have HK := Lib.hid hk; clear hk; have HV := Lib.hid hv; clear hv
    go_enter Try.func8, Try.ntmps8
    go_wp2_with fail
    go_ret
    exact ⟨ret_b HV.out.symm, by (repeat (first | with_reducible assumption | with_reducible exact Below.refl _ _ | with_reducible refine Below.drew ?_ | with_reducible refine belowDrewN ?_ _ | ((with_reducible refine Below.setCell ?_ ?_ _); rotate_left; focus (first | omega | (simp; done) | (simp; omega))) | ((with_reducible refine Below.alloc ?_ ?_ _); rotate_left; focus (first | omega | (simp; done) | (simp; omega)))))⟩
theorem iIsIdentifier_calls (k n : Int) (s : ByteArray) (x : List Int) (ds : List Syn) (xa : Option Addr) (xc : Nat) (a : Option Addr) (cap : Nat) (ms : List M) (w : World) (hwf : (Syn.mk k n s x ds).wf) (hB : Syn.countL ds ≤ 1000000000) (hi : Syn.IsL 27 ds ms) (hown : (SynOwn 27 xa xc x a cap ms).In w) :
    Calls Try.prog 45 #[.agg #[.int .i64 k, .int .i64 n, .string s, .slice xa x.length xc, .slice a ms.length cap]] w (Ret (.bool (isIdB k n s x ds)) w) := by
  have HI := Lib.hid hi; clear hi; have HOWN := Lib.hid hown; clear hown; have HWF := Lib.hid hwf; clear hwf
  by_cases hk : k = 1
  · have hk' : (k == 1) = true := by simp [hk]
    have hv : isIdB k n s x ds = isSynB k n s x ds := by unfold isIdB; rw [hk', Bool.true_and]
    have HK := Lib.hid hk; clear hk; have HV := Lib.hid hv; clear hv
    go_enter Try.func45, Try.ntmps45
    go_wp2_with fail
    refine (iIsSyntax_calls k n s x ds xa xc a cap ms _ HWF.out hB HI.out (HOWN.out.below (by (repeat (first | with_reducible assumption | with_reducible exact Below.refl _ _ | with_reducible refine Below.drew ?_ | with_reducible refine belowDrewN ?_ _ | ((with_reducible refine Below.setCell ?_ ?_ _); rotate_left; focus (first | omega | (simp; done) | (simp; omega))) | ((with_reducible refine Below.alloc ?_ ?_ _); rotate_left; focus (first | omega | (simp; done) | (simp; omega)))))))).mono ?_
    rintro e w1 ⟨rfl, hb1⟩
    go_wp2_with fail
    go_ret
    exact ⟨ret_b HV.out.symm, by (repeat (first | with_reducible assumption | with_reducible exact Below.refl _ _ | with_reducible refine Below.drew ?_ | with_reducible refine belowDrewN ?_ _ | ((with_reducible refine Below.setCell ?_ ?_ _); rotate_left; focus (first | omega | (simp; done) | (simp; omega))) | ((with_reducible refine Below.alloc ?_ ?_ _); rotate_left; focus (first | omega | (simp; done) | (simp; omega))) | ((with_reducible refine Below.trans ?_ (Below.mono hb1 ?_)); rotate_left; focus (first | omega | (simp; done) | (simp; omega)))))⟩
  · have hk' : (k == 1) = false := by simp [hk]
    have hv : isIdB k n s x ds = false := by unfold isIdB; rw [hk', Bool.false_and]
    have HK := Lib.hid hk; clear hk; have HV := Lib.hid hv; clear hv
    go_enter Try.func45, Try.ntmps45
    go_wp2_with fail
    go_ret
    exact ⟨ret_b HV.out.symm, by (repeat (first | with_reducible assumption | with_reducible exact Below.refl _ _ | with_reducible refine Below.drew ?_ | with_reducible refine belowDrewN ?_ _ | ((with_reducible refine Below.setCell ?_ ?_ _); rotate_left; focus (first | omega | (simp; done) | (simp; omega))) | ((with_reducible refine Below.alloc ?_ ?_ _); rotate_left; focus (first | omega | (simp; done) | (simp; omega)))))⟩
def dotsS : ByteArray := ⟨#[46, 46, 46]⟩
open Classical in
noncomputable def isDotsB (k : Int) (s : ByteArray) : Bool := (k == 1) && decide (s = dotsS)
end Go.Proofs.Ytghbnehocggnnaa

/-
  Walks: the law's own measure of data; data compared. No condition.
-/
set_option linter.unusedVariables false
set_option linter.unusedSimpArgs false
set_option maxRecDepth 100000
namespace Go.Proofs.Ytghbnehocggnnaa
open Go.RowKit

/-- A measure that counts down: what it hands back is below what it was handed by at least the weight, or it is -1. -/
def SzPost (wt : Nat) (left : Int) (w : World) (e : Ending) (w' : World) : Prop :=
  ∃ r : Int, e = .returned (.int .i64 r) ∧ -1 ≤ r ∧ r ≤ left ∧ (0 ≤ r → (wt : Int) + r ≤ left) ∧ Below w.heap.size w w'

end Go.Proofs.Ytghbnehocggnnaa

/-
  Walks: the law's own measure of syntax. No condition.
-/
set_option linter.unusedVariables false
set_option linter.unusedSimpArgs false
set_option maxRecDepth 100000
namespace Go.Proofs.Ytghbnehocggnnaa
open Go.RowKit

end Go.Proofs.Ytghbnehocggnnaa

/-
  Walks: the law's own copies of data, and their comparison. No condition.
-/
set_option linter.unusedVariables false
set_option linter.unusedSimpArgs false
set_option maxRecDepth 100000
namespace Go.Proofs.Ytghbnehocggnnaa
open Go.RowKit

theorem infoDat : (Try.prog.info? 52).map (fun i => (i.zero, i.size, i.bytes)) = some (some (.agg #[.int .i64 0, .int .i64 0, .string ⟨#[]⟩, .slice none 0 0]), 4, 56) := by kernel_rfl
/-- the zero datum -/
def zeroM (e : TypeId) : M := .ag [.c (.int .i64 0), .c (.int .i64 0), .c (.string ⟨#[]⟩), .sl none 0 4 e []]
theorem zeroM_own (e : TypeId) (w : World) (lo : Nat) : (zeroM e).Own w lo := ⟨rfl, rfl, rfl, (M.Mine.nil w lo 4 e (by decide)).own, trivial⟩
def zeroD : Dat := .mk 0 0 ⟨#[]⟩ []
theorem zero_is (e : TypeId) : zeroD.Is e (zeroM e) := ⟨none, 0, [], rfl, rfl⟩
theorem Dat.IsL.append {e : TypeId} : ∀ {xs ys : List Dat} {ms ns : List M}, Dat.IsL e xs ms → Dat.IsL e ys ns → Dat.IsL e (xs ++ ys) (ms ++ ns)
  | [], _, ms, _, h, h2 => by simp [Dat.IsL] at h; subst h; simpa using h2
  | x :: xs, ys, ms, ns, h, h2 => by
    obtain ⟨m, r, rfl, h1, h3⟩ := h
    exact ⟨m, r ++ ns, rfl, h1, Dat.IsL.append h3 h2⟩
theorem Dat.IsL.set {e : TypeId} : ∀ {xs : List Dat} {ms : List M} {d : Dat} {m : M} (k : Nat), Dat.IsL e xs ms → d.Is e m → Dat.IsL e (xs.set k d) (ms.set k m)
  | [], ms, d, m, k, h, _ => by simp [Dat.IsL] at h; subst h; simp [Dat.IsL]
  | x :: xs, ms, d, m, 0, h, hd => by obtain ⟨y, r, rfl, h1, h3⟩ := h; exact ⟨m, r, rfl, hd, h3⟩
  | x :: xs, ms, d, m, k + 1, h, hd => by obtain ⟨y, r, rfl, h1, h3⟩ := h; exact ⟨y, r.set k m, rfl, h1, Dat.IsL.set k h3 hd⟩
theorem Dat.IsL.replicate {e : TypeId} {d : Dat} {m : M} (h : d.Is e m) : ∀ n, Dat.IsL e (List.replicate n d) (List.replicate n m)
  | 0 => rfl
  | n + 1 => ⟨m, List.replicate n m, rfl, h, Dat.IsL.replicate h n⟩

end Go.Proofs.Ytghbnehocggnnaa

/-
  Walks: the law's own copies of syntax. No condition.
-/
set_option linter.unusedVariables false
set_option linter.unusedSimpArgs false
set_option maxRecDepth 100000
namespace Go.Proofs.Ytghbnehocggnnaa
open Go.RowKit

/-- the zero piece of syntax -/
def zeroSM (e : TypeId) : M := .ag [.c (.int .i64 0), .c (.int .i64 0), .c (.string ⟨#[]⟩), .sl none 0 1 3 (intM []), .sl none 0 5 e []]
theorem zeroSM_own (e : TypeId) (w : World) (lo : Nat) : (zeroSM e).Own w lo := ⟨rfl, rfl, rfl, (M.Mine.nil w lo 1 3 (by decide)).own, (M.Mine.nil w lo 5 e (by decide)).own, trivial⟩
def zeroSyn : Syn := .mk 0 0 ⟨#[]⟩ [] []
theorem zeroSyn_is (e : TypeId) : zeroSyn.Is e (zeroSM e) := ⟨none, 0, none, 0, [], rfl, rfl⟩
theorem Syn.IsL.append {e : TypeId} : ∀ {xs ys : List Syn} {ms ns : List M}, Syn.IsL e xs ms → Syn.IsL e ys ns → Syn.IsL e (xs ++ ys) (ms ++ ns)
  | [], _, ms, _, h, h2 => by simp [Syn.IsL] at h; subst h; simpa using h2
  | x :: xs, ys, ms, ns, h, h2 => by
    obtain ⟨m, r, rfl, h1, h3⟩ := h
    exact ⟨m, r ++ ns, rfl, h1, Syn.IsL.append h3 h2⟩
theorem Syn.IsL.set {e : TypeId} : ∀ {xs : List Syn} {ms : List M} {d : Syn} {m : M} (k : Nat), Syn.IsL e xs ms → d.Is e m → Syn.IsL e (xs.set k d) (ms.set k m)
  | [], ms, d, m, k, h, _ => by simp [Syn.IsL] at h; subst h; simp [Syn.IsL]
  | x :: xs, ms, d, m, 0, h, hd => by obtain ⟨y, r, rfl, h1, h3⟩ := h; exact ⟨m, r, rfl, hd, h3⟩
  | x :: xs, ms, d, m, k + 1, h, hd => by obtain ⟨y, r, rfl, h1, h3⟩ := h; exact ⟨y, r.set k m, rfl, h1, Syn.IsL.set k h3 hd⟩
theorem Syn.IsL.replicate {e : TypeId} {d : Syn} {m : M} (h : d.Is e m) : ∀ n, Syn.IsL e (List.replicate n d) (List.replicate n m)
  | 0 => rfl
  | n + 1 => ⟨m, List.replicate n m, rfl, h, Syn.IsL.replicate h n⟩
theorem SynOwn_el {e : TypeId} {xa : Option Addr} {xc : Nat} {x : List Int} {a : Option Addr} {cap : Nat} {ms : List M} {w : World} {lo : Nat} (h : (SynOwn e xa xc x a cap ms).Mine w lo) (k n : Int) (s : ByteArray) :
    (M.ag [.c (.int .i64 k), .c (.int .i64 n), .c (.string s), .sl xa xc 1 3 (intM x), .sl a cap 5 e ms]).Mine w lo :=
  ⟨⟨rfl, rfl, rfl, h.own⟩, by simpa [M.blocks, M.blocksL, SynOwn] using h.dup⟩
theorem SynOwn_x {e : TypeId} {xa : Option Addr} {xc : Nat} {x : List Int} {a : Option Addr} {cap : Nat} {ms : List M} {w : World} {lo : Nat} (h : (SynOwn e xa xc x a cap ms).Mine w lo) : (M.sl xa xc 1 3 (intM x)).Mine w lo :=
  ⟨h.own.1, by have := h.dup; simp only [SynOwn, M.blocks, M.blocksL, List.append_nil] at this; exact (List.nodup_append.1 this).1⟩
theorem SynOwn_ms {e : TypeId} {xa : Option Addr} {xc : Nat} {x : List Int} {a : Option Addr} {cap : Nat} {ms : List M} {w : World} {lo : Nat} (h : (SynOwn e xa xc x a cap ms).Mine w lo) : (M.sl a cap 5 e ms).Mine w lo :=
  ⟨h.own.2.1, by have := h.dup; simp only [SynOwn, M.blocks, M.blocksL, List.append_nil] at this; exact (List.nodup_append.1 this).2.1⟩
/-- two rows of one's own, one of them newer than all of the other, are one piece of one's own -/
theorem SynOwn_two {e : TypeId} {xa : Option Addr} {xc : Nat} {x : List Int} {a : Option Addr} {cap : Nat} {ms : List M} {w : World} {lo c : Nat} (h1 : (M.sl xa xc 1 3 (intM x)).Mine w lo) (h2 : (M.sl a cap 5 e ms).Mine w c) (hc : lo ≤ c)
    (hl : ∀ b ∈ (M.sl xa xc 1 3 (intM x)).blocks, b < c) : (SynOwn e xa xc x a cap ms).Mine w lo :=
  ⟨⟨h1.own, (h2.mono hc).own, trivial⟩, by
    simp only [SynOwn, M.blocks, M.blocksL, List.append_nil]
    exact List.nodup_append.2 ⟨h1.dup, h2.dup, fun b hb b' hb' he => by subst he; have := hl b hb; have := (h2.lt b hb').1; omega⟩⟩

theorem infoSyn : (Try.prog.info? 27).map (fun i => (i.zero, i.size, i.bytes)) = some (some (.agg #[.int .i64 0, .int .i64 0, .string ⟨#[]⟩, .slice none 0 0, .slice none 0 0]), 5, 80) := by kernel_rfl
theorem Syn.wt_le : ∀ {ds : List Syn} {k : Nat} {d : Syn}, ds[k]? = some d → d.wt ≤ Syn.wtX ds
  | [], k, d, h => by simp at h
  | x :: r, 0, d, h => by simp at h; subst h; simp only [Syn.wtX]; omega
  | x :: r, k + 1, d, h => by have := Syn.wt_le (ds := r) (k := k) (d := d) (by simpa using h); simp only [Syn.wtX]; omega

end Go.Proofs.Ytghbnehocggnnaa

/-
  Walks: what the law marks and finds marked: numbers, texts. No condition.
-/
set_option linter.unusedVariables false
set_option linter.unusedSimpArgs false
set_option maxRecDepth 100000
namespace Go.Proofs.Ytghbnehocggnnaa
open Go.RowKit

def cnt (k : Int) (n : Nat) : List Int := (List.range n).map fun (i : Nat) => k + (i : Int)
theorem cnt_length (k : Int) (n : Nat) : (cnt k n).length = n := by simp [cnt]
theorem cnt_get (k : Int) (n i : Nat) (h : i < n) : (cnt k n)[i]? = some (k + i) := by simp [cnt, h]
theorem cnt_set (k : Int) (l : List Int) (i : Nat) (h : i < l.length) : (cnt k i ++ l.drop i).set i (k + i) = cnt k (i + 1) ++ l.drop (i + 1) := by
  rw [List.set_append, cnt_length, if_neg (by omega), Nat.sub_self, ← List.getElem_cons_drop h, List.set_cons_zero]
  simp [cnt, List.range_succ]

/-- What marking n numbers leaves. -/
def MarkedI (a : Option Addr) (cap n : Nat) (k : Int) (lo : Nat) (w : World) (e : Ending) (w' : World) : Prop :=
  e = .returned (.int .i64 (k + n)) ∧ (M.sl a cap 1 3 (intM (cnt k n))).Mine w' lo ∧ Only (addrBlocks a) w w'

def strM (l : List ByteArray) : List M := l.map fun n => .c (.string n)
theorem strM_length (l : List ByteArray) : (strM l).length = l.length := by simp [strM]
theorem strM_append (l r : List ByteArray) : strM (l ++ r) = strM l ++ strM r := by simp [strM]
theorem strM_blocks (l : List ByteArray) : M.blocksL (strM l) = [] := by
  induction l with
  | nil => rfl
  | cons x r ih => simp only [strM, List.map_cons, M.blocksL, M.blocks, List.nil_append]; exact ih
theorem strM_cells (l : List ByteArray) : M.cellsL (strM l) = l.map Value.string := by
  induction l with
  | nil => rfl
  | cons x r ih => simp only [strM, List.map_cons, M.cellsL, M.cells, List.singleton_append]; exact congrArg _ ih
theorem Strs.elem {w : World} {a : Option Addr} {cap : Nat} {e : TypeId} {l : List ByteArray} (h : (M.sl a cap 1 e (strM l)).In w) (k : Nat) (hk : k < l.length) :
    ∃ b off x, a = some ⟨b, off, none⟩ ∧ l[k]? = some x ∧ w.cell? ⟨b, off + k, none⟩ = some (.string x) := by
  have hk' : k < (strM l).length := by rw [strM_length]; exact hk
  obtain ⟨b, off, ha, hel⟩ := h.elem (by omega)
  refine ⟨b, off, l[k], ha, List.getElem?_eq_getElem hk, ?_⟩
  have := hel k hk' 0 (.string l[k]) (by simp [strM, M.cells])
  simpa using this
theorem Strs.len {w : World} {a : Option Addr} {cap : Nat} {e : TypeId} {l : List ByteArray} (h : (M.sl a cap 1 e (strM l)).In w) : l.length ≤ cap ∧ cap ≤ 9223372036854775807 := by
  have := h.len
  rwa [strM_length] at this
theorem Strs.set {w : World} {lo g cap : Nat} {e : TypeId} {l : List ByteArray} (h : (M.sl (some ⟨g, 0, none⟩) cap 1 e (strM l)).Mine w lo) (k : Nat) (hk : k < l.length) (x : ByteArray) :
    (M.sl (some ⟨g, 0, none⟩) cap 1 e (strM (l.set k x))).Mine (w.setCell ⟨g, k, none⟩ (.string x)) lo := by
  have := h.setElem k (by rw [strM_length]; exact hk) (.c (.string x)) rfl (M.Mine.c rfl) (by simp [M.blocks])
  simp only [M.cells, setCells, Nat.mul_one] at this
  rwa [show strM (l.set k x) = (strM l).set k (.c (.string x)) by simp [strM, List.map_set]]
def eqLS (l r : List ByteArray) : Bool := decide (l = r)
theorem eqLS_iff (l r : List ByteArray) : eqLS l r = true ↔ l = r := by simp [eqLS]

def scnt (k : Int) (n : Nat) : List ByteArray := (List.range n).map fun (i : Nat) => mtx (k + (i : Int))
theorem scnt_length (k : Int) (n : Nat) : (scnt k n).length = n := by simp [scnt]
theorem scnt_get (k : Int) (n i : Nat) (h : i < n) : (scnt k n)[i]? = some (mtx (k + i)) := by simp [scnt, h]
theorem scnt_set (k : Int) (l : List ByteArray) (i : Nat) (h : i < l.length) : (scnt k i ++ l.drop i).set i (mtx (k + i)) = scnt k (i + 1) ++ l.drop (i + 1) := by
  rw [List.set_append, scnt_length, if_neg (by omega), Nat.sub_self, ← List.getElem_cons_drop h, List.set_cons_zero]
  simp [scnt, List.range_succ]
def MarkedS (a : Option Addr) (cap n : Nat) (k : Int) (lo : Nat) (w : World) (e : Ending) (w' : World) : Prop :=
  e = .returned (.int .i64 (k + n)) ∧ (M.sl a cap 1 9 (strM (scnt k n))).Mine w' lo ∧ Only (addrBlocks a) w w'

end Go.Proofs.Ytghbnehocggnnaa

/-
  Marking numbers and texts, in ranges. No condition.
-/
set_option linter.unusedVariables false
namespace Go.Proofs.Ytghbnehocggnnaa
open Go.RowKit
end Go.Proofs.Ytghbnehocggnnaa

/-
  Walks: the law's comparison of syntax that is one. No condition.
-/
set_option linter.unusedVariables false
set_option linter.unusedSimpArgs false
set_option maxRecDepth 100000
namespace Go.Proofs.Ytghbnehocggnnaa
open Go.RowKit

end Go.Proofs.Ytghbnehocggnnaa

/-
  Single stores into elements of one's own rows; elements whose inner rows have changed. No condition.
-/
set_option linter.unusedVariables false
namespace Go.Proofs.Ytghbnehocggnnaa
open Go.RowKit

theorem set_mid {α : Type} (A E B : List α) (j : Nat) (v : α) (hj : j < E.length) : (A ++ E ++ B).set (A.length + j) v = A ++ E.set j v ++ B := by
  rw [List.append_assoc, List.set_append, if_neg (by omega), show A.length + j - A.length = j by omega, List.set_append, if_pos hj, List.append_assoc]

/-- One cell of element k is written. -/
theorem M.Mine.setOne {w : World} {lo g cap sz : Nat} {e : TypeId} {xs : List M} (h : (M.sl (some ⟨g, 0, none⟩) cap sz e xs).Mine w lo) (k : Nat) (hk : k < xs.length) (j : Nat) (hj : j < sz) (m : M) (v : Value)
    (hmc : m.cells = (xs[k]).cells.set j v) (hm : m.Mine w lo) (hbl : m.blocks = (xs[k]).blocks) : (M.sl (some ⟨g, 0, none⟩) cap sz e (xs.set k m)).Mine (w.setCell ⟨g, k * sz + j, none⟩ v) lo := by
  have hd := h.dup
  simp only [M.blocks] at hd
  rw [List.nodup_append] at hd
  obtain ⟨hd1, hd2, hd3⟩ := hd
  have hng : ∀ b ∈ M.blocksL xs, b ≠ g := fun b hb he => hd3 g (by simp [addrBlocks]) b hb he.symm
  have hu := h.own.1.2.2
  have hxk := hu (xs[k]) (List.getElem_mem hk)
  have hset := h.setElem k hk m (by rw [hmc, List.length_set]; exact hxk) hm fun b hb => by
    rw [hbl] at hb
    exact ⟨hng b (mem_blocksL.2 ⟨_, List.getElem_mem hk, hb⟩), .inl hb⟩
  refine M.Mine.keep hset fun b _ _ => ?_
  by_cases hbg : b = g
  · subst hbg
    rcases h.own.1.1.2 with ⟨hv, _⟩ | ⟨g', cap', cur, hv, hb, hg, h1, h2, h3, h4⟩
    · simp at hv
    · simp only [Value.slice.injEq, Option.some.injEq, Addr.mk.injEq, true_and, and_true] at hv
      obtain ⟨rfl, rfl⟩ := hv
      have hkb : k * sz + sz ≤ xs.length * sz := by rw [← Nat.succ_mul]; exact Nat.mul_le_mul_right _ hk
      have hcur : xs.length * sz ≤ cur.size := by rw [h3]; exact Nat.mul_le_mul_right _ h1
      have hml : m.cells.length = sz := by rw [hmc, List.length_set]; exact hxk
      rw [setCells_heap b e m.cells w (k * sz) cur hg (by rw [hml]; omega), heap_setCell_same w b _ cur e v hg]
      congr 2
      apply Array.ext'
      simp only [Array.toList_setIfInBounds]
      rw [hml, hmc]
      have hx := cellsL_set xs k (xs[k]) hu hk hxk
      rw [List.set_getElem_self] at hx
      have hlen := M.cellsL_length hu
      have hcl : cur.toList = cur.toList.take (k * sz) ++ (xs[k]).cells ++ cur.toList.drop (k * sz + sz) := by
        have h5 : cur.toList = M.cellsL xs ++ cur.toList.drop (xs.length * sz) := by rw [← h4, List.take_append_drop]
        have h6 : cur.toList.take (k * sz) = (M.cellsL xs).take (k * sz) := by rw [← h4, List.take_take, Nat.min_eq_left (by omega)]
        have h7 : cur.toList.drop (k * sz + sz) = (M.cellsL xs).drop (k * sz + sz) ++ cur.toList.drop (xs.length * sz) := by
          conv => lhs; rw [h5]
          rw [List.drop_append, hlen, show k * sz + sz - xs.length * sz = 0 by omega, List.drop_zero]
        rw [h6, h7, ← List.append_assoc, ← hx]
        exact h5
      have hl0 : (cur.toList.take (k * sz)).length = k * sz := by simp; omega
      conv => lhs; rw [hcl]
      rw [show k * sz + j = (cur.toList.take (k * sz)).length + j by rw [hl0], set_mid _ _ _ _ _ (by rw [hxk]; exact hj)]
  · rw [heapSet _ _ _ _ hbg, setCells_other g b hbg]

theorem blocksL_split (xs : List M) (k : Nat) (hk : k < xs.length) : M.blocksL xs = M.blocksL (xs.take k) ++ ((xs[k]).blocks ++ M.blocksL (xs.drop (k + 1))) := by
  conv => lhs; rw [← List.take_append_drop k xs, List.drop_eq_getElem_cons hk]
  rw [M.blocksL_append]; rfl
theorem blocksL_set_same (xs : List M) (k : Nat) (m : M) (hk : k < xs.length) (h : m.blocks = (xs[k]).blocks) : M.blocksL (xs.set k m) = M.blocksL xs := by
  rw [blocksL_split xs k hk, List.set_eq_take_append_cons_drop, if_pos hk, M.blocksL_append, ← h]; rfl
theorem cellsL_set_same (xs : List M) (k : Nat) (m : M) (hk : k < xs.length) (h : m.cells = (xs[k]).cells) : M.cellsL (xs.set k m) = M.cellsL xs := by
  conv => rhs; rw [← List.take_append_drop k xs, List.drop_eq_getElem_cons hk]
  rw [List.set_eq_take_append_cons_drop, if_pos hk, M.cellsL_append, M.cellsL_append]
  simp only [M.cellsL, h]

theorem OwnL_setSub {w w' : World} {lo : Nat} {xs : List M} (hx : M.OwnL w lo xs) (hd2 : (M.blocksL xs).Nodup) (k : Nat) (hk : k < xs.length) (m : M) (hm : m.Own w' lo) {bs : List Nat} (ho : Only bs w w') (hbs : ∀ b ∈ bs, b ∈ (xs[k]).blocks) : M.OwnL w' lo (xs.set k m) := by
  have hxlt := M.OwnL.lt xs hx
  rw [blocksL_split xs k hk, List.nodup_append] at hd2
  obtain ⟨hp1, hp2, hp3⟩ := hd2
  rw [List.nodup_append] at hp2
  obtain ⟨hq1, hq2, hq3⟩ := hp2
  rw [List.set_eq_take_append_cons_drop, if_pos hk, M.OwnL_append]
  have hx' := hx
  rw [← List.take_append_drop k xs, List.drop_eq_getElem_cons hk, M.OwnL_append] at hx'
  obtain ⟨ha, _, hc⟩ := hx'
  refine ⟨M.OwnL.frame _ ha fun b hb => ?_, hm, M.OwnL.frame _ hc fun b hb => ?_⟩
  · exact ho.block b (hxlt b (by rw [blocksL_split xs k hk]; simp [hb])).2 fun hn => hp3 b hb b (by simp [hbs b hn]) rfl
  · exact ho.block b (hxlt b (by rw [blocksL_split xs k hk]; simp [hb])).2 fun hn => hq3 b (hbs b hn) b hb rfl

/-- The inner rows of element k have changed, its own cells have not. -/
theorem M.Mine.setSub {w w' : World} {lo g cap sz : Nat} {e : TypeId} {xs : List M} (h : (M.sl (some ⟨g, 0, none⟩) cap sz e xs).Mine w lo) (k : Nat) (hk : k < xs.length) (m : M)
    (hmc : m.cells = (xs[k]).cells) (hm : m.Mine w' lo) (hbl : m.blocks = (xs[k]).blocks) {bs : List Nat} (ho : Only bs w w') (hbs : ∀ b ∈ bs, b ∈ (xs[k]).blocks) :
    (M.sl (some ⟨g, 0, none⟩) cap sz e (xs.set k m)).Mine w' lo := by
  obtain ⟨⟨⟨hrow, hs, hu⟩, hx⟩, hd⟩ := h
  simp only [M.blocks] at hd
  have hd0 := hd
  rw [List.nodup_append] at hd
  obtain ⟨hd1, hd2, hd3⟩ := hd
  have hng : ∀ b ∈ M.blocksL xs, b ≠ g := fun b hb he => hd3 g (by simp [addrBlocks]) b hb he.symm
  have hmem : ∀ b ∈ (xs[k]).blocks, b ∈ M.blocksL xs := fun b hb => mem_blocksL.2 ⟨_, List.getElem_mem hk, hb⟩
  have hxlt := M.OwnL.lt xs hx
  rw [blocksL_split xs k hk, List.nodup_append] at hd2
  obtain ⟨hp1, hp2, hp3⟩ := hd2
  rw [List.nodup_append] at hp2
  obtain ⟨hq1, hq2, hq3⟩ := hp2
  refine ⟨⟨⟨?_, hs, ?_⟩, ?_⟩, ?_⟩
  · rw [cellsL_set_same xs k m hk hmc, List.length_set]
    refine ownsRow_frame hrow fun b hb => ?_
    simp [addrBlocks] at hb
    subst hb
    rcases hrow.2 with ⟨hv, _⟩ | ⟨g', cap', cur, hv, hb', hg, _⟩
    · simp at hv
    · simp only [Value.slice.injEq, Option.some.injEq, Addr.mk.injEq, true_and, and_true] at hv
      obtain ⟨rfl, rfl⟩ := hv
      exact ho.block _ (Array.getElem?_eq_some_iff.1 hg).1 fun hb => hng _ (hmem _ (hbs _ hb)) rfl
  · intro x hx2
    rcases List.mem_or_eq_of_mem_set hx2 with h1 | rfl
    · exact hu x h1
    · rw [hmc]; exact hu _ (List.getElem_mem hk)
  · rw [List.set_eq_take_append_cons_drop, if_pos hk]
    rw [M.OwnL_append]
    have hx' := hx
    rw [← List.take_append_drop k xs, List.drop_eq_getElem_cons hk, M.OwnL_append] at hx'
    obtain ⟨ha, _, hc⟩ := hx'
    refine ⟨M.OwnL.frame _ ha fun b hb => ?_, hm.own, M.OwnL.frame _ hc fun b hb => ?_⟩
    · exact ho.block b (hxlt b (by rw [blocksL_split xs k hk]; simp [hb])).2 fun hn => hp3 b hb b (by simp [hbs b hn]) rfl
    · exact ho.block b (hxlt b (by rw [blocksL_split xs k hk]; simp [hb])).2 fun hn => hq3 b (hbs b hn) b hb rfl
  · simp only [M.blocks]
    rw [blocksL_set_same xs k m hk hbl]; exact hd0

theorem M.Mine.inner {w : World} {lo g cap sz : Nat} {e : TypeId} {xs : List M} (h : (M.sl (some ⟨g, 0, none⟩) cap sz e xs).Mine w lo) (k : Nat) (hk : k < xs.length) : (xs[k]).Mine w lo := by
  have hd := h.dup
  simp only [M.blocks] at hd
  rw [List.nodup_append] at hd
  have hd2 := hd.2.1
  rw [blocksL_split xs k hk, List.nodup_append] at hd2
  have h3 := hd2.2.1
  rw [List.nodup_append] at h3
  exact ⟨OwnL_iff.1 h.own.2 _ (List.getElem_mem hk), h3.1⟩
theorem M.Mine.part {w : World} {lo : Nat} {ys : List M} (h : (M.ag ys).Mine w lo) {j : Nat} {m : M} (hj : ys[j]? = some m) : m.Mine w lo := by
  obtain ⟨hjj, rfl⟩ := List.getElem?_eq_some_iff.1 hj
  have hd2 : (M.blocksL ys).Nodup := h.dup
  rw [blocksL_split ys j hjj, List.nodup_append] at hd2
  have h3 := hd2.2.1
  rw [List.nodup_append] at h3
  exact ⟨OwnL_iff.1 h.own _ (List.getElem_mem hjj), h3.1⟩
/-- Part j of element k of a row of one's own. -/
theorem M.Mine.piece {w : World} {lo g cap sz : Nat} {e : TypeId} {xs : List M} (h : (M.sl (some ⟨g, 0, none⟩) cap sz e xs).Mine w lo) {k : Nat} {ys : List M} (hx : xs[k]? = some (.ag ys)) {j : Nat} {m : M} (hj : ys[j]? = some m) : m.Mine w lo := by
  obtain ⟨hk, he⟩ := List.getElem?_eq_some_iff.1 hx
  exact (he ▸ h.inner k hk : (M.ag ys).Mine w lo).part hj

theorem cellsL_one : ∀ (ys : List M) (j : Nat) (m : M), (∀ y ∈ ys, y.cells.length = 1) → j < ys.length → ∀ v, m.cells = [v] → M.cellsL (ys.set j m) = (M.cellsL ys).set j v
  | [], j, _, _, hj, _, _ => by simp at hj
  | y :: r, 0, m, h, _, v, hm => by
    have h1 := h y (List.mem_cons_self ..)
    obtain ⟨u, hu⟩ := List.length_eq_one_iff.1 h1
    simp [M.cellsL, hm, hu]
  | y :: r, j + 1, m, h, hj, v, hm => by
    have h1 := h y (List.mem_cons_self ..)
    obtain ⟨u, hu⟩ := List.length_eq_one_iff.1 h1
    simp only [List.set_cons_succ, M.cellsL, cellsL_one r j m (fun z hz => h z (List.mem_cons_of_mem _ hz)) (by simpa using hj) v hm, hu]
    simp
theorem cellsL_ones : ∀ (ys : List M), (∀ y ∈ ys, y.cells.length = 1) → (M.cellsL ys).length = ys.length
  | [], _ => rfl
  | y :: r, h => by simp only [M.cellsL, List.length_append, List.length_cons, cellsL_ones r (fun z hz => h z (List.mem_cons_of_mem _ hz)), h y (List.mem_cons_self ..)]; omega

/-- Part j of element k, a simple cell, is written. -/
theorem M.Mine.setC {w : World} {lo g cap sz : Nat} {e : TypeId} {xs : List M} (h : (M.sl (some ⟨g, 0, none⟩) cap sz e xs).Mine w lo) {k : Nat} {ys : List M} (hx : xs[k]? = some (.ag ys)) (j : Nat) {u : Value} (hy : ys[j]? = some (.c u))
    (h1 : ∀ y ∈ ys, y.cells.length = 1) (v : Value) (hv : v.oneCell' = true) :
    (M.sl (some ⟨g, 0, none⟩) cap sz e (xs.set k (.ag (ys.set j (.c v))))).Mine (w.setCell ⟨g, k * sz + j, none⟩ v) lo ∧ (xs.set k (.ag (ys.set j (.c v))))[k]? = some (.ag (ys.set j (.c v))) := by
  obtain ⟨hk, he⟩ := List.getElem?_eq_some_iff.1 hx
  obtain ⟨hj, hej⟩ := List.getElem?_eq_some_iff.1 hy
  have hsz := h.own.1.2.2 _ (List.getElem_mem hk)
  rw [he] at hsz
  have hsz' : ys.length = sz := by rw [← hsz]; exact (cellsL_ones ys h1).symm
  have hel := h.inner k hk
  rw [he] at hel
  have hbl : M.blocksL (ys.set j (.c v)) = M.blocksL ys := blocksL_set_same ys j _ hj (by rw [hej]; rfl)
  refine ⟨h.setOne k hk j (by omega) (.ag (ys.set j (.c v))) v ?_ ⟨?_, ?_⟩ ?_, by simp [hk]⟩
  · rw [he]; exact cellsL_one ys j _ h1 hj v rfl
  · refine OwnL_iff.2 fun y hy => ?_
    rcases List.mem_or_eq_of_mem_set hy with h2 | rfl
    · exact OwnL_iff.1 hel.own y h2
    · exact hv
  · show (M.blocksL (ys.set j (.c v))).Nodup
    rw [hbl]; exact hel.dup
  · rw [he]; exact hbl

/-- Part j of element k, an inner row, has changed inside. -/
theorem M.Mine.setP {w w' : World} {lo g cap sz : Nat} {e : TypeId} {xs : List M} (h : (M.sl (some ⟨g, 0, none⟩) cap sz e xs).Mine w lo) {k : Nat} {ys : List M} (hx : xs[k]? = some (.ag ys)) (j : Nat) {m : M} (hy : ys[j]? = some m)
    (m' : M) (hc : m'.cells = m.cells) (hb : m'.blocks = m.blocks) (hm : m'.Mine w' lo) {bs : List Nat} (ho : Only bs w w') (hbs : ∀ b ∈ bs, b ∈ m.blocks) :
    (M.sl (some ⟨g, 0, none⟩) cap sz e (xs.set k (.ag (ys.set j m')))).Mine w' lo ∧ (xs.set k (.ag (ys.set j m')))[k]? = some (.ag (ys.set j m')) ∧ M.blocksL (xs.set k (.ag (ys.set j m'))) = M.blocksL xs := by
  obtain ⟨hk, he⟩ := List.getElem?_eq_some_iff.1 hx
  obtain ⟨hj, hej⟩ := List.getElem?_eq_some_iff.1 hy
  have hel := h.inner k hk
  rw [he] at hel
  have hbl : M.blocksL (ys.set j m') = M.blocksL ys := blocksL_set_same ys j _ hj (by rw [hej]; exact hb)
  have hcl : M.cellsL (ys.set j m') = M.cellsL ys := cellsL_set_same ys j _ hj (by rw [hej]; exact hc)
  have hbs' : ∀ b ∈ bs, b ∈ M.blocksL ys := fun b hb => mem_blocksL.2 ⟨m, hej ▸ List.getElem_mem hj, hbs b hb⟩
  refine ⟨h.setSub k hk (.ag (ys.set j m')) (by rw [he]; exact hcl) ⟨OwnL_setSub hel.own hel.dup j hj m' hm.own ho (by rw [hej]; exact hbs), ?_⟩ (by rw [he]; exact hbl) ho (by rw [he]; exact hbs'), by simp [hk], ?_⟩
  · show (M.blocksL (ys.set j m')).Nodup
    rw [hbl]; exact hel.dup
  · exact blocksL_set_same xs k _ hk (by rw [he]; exact hbl)
theorem setC_blocks {xs : List M} {k : Nat} {ys : List M} (hx : xs[k]? = some (.ag ys)) {j : Nat} {u : Value} (hy : ys[j]? = some (.c u)) (v : Value) : M.blocksL (xs.set k (.ag (ys.set j (.c v)))) = M.blocksL xs := by
  obtain ⟨hk, he⟩ := List.getElem?_eq_some_iff.1 hx
  obtain ⟨hj, hej⟩ := List.getElem?_eq_some_iff.1 hy
  exact blocksL_set_same xs k _ hk (by rw [he]; exact blocksL_set_same ys j _ hj (by rw [hej]; rfl))
end Go.Proofs.Ytghbnehocggnnaa

/-
  Walks: marking syntax. No condition.
-/
set_option linter.unusedVariables false
set_option linter.unusedSimpArgs false
set_option maxRecDepth 100000
namespace Go.Proofs.Ytghbnehocggnnaa
open Go.RowKit

mutual
/-- how many places of a piece of syntax are numbered -/
def Syn.places : Syn → Nat
  | .mk _ _ _ x es => 3 + x.length + Syn.placesL es
def Syn.placesL : List Syn → Nat
  | [] => 0
  | d :: r => d.places + Syn.placesL r
end
theorem Syn.placesL_append (xs ys : List Syn) : Syn.placesL (xs ++ ys) = Syn.placesL xs + Syn.placesL ys := by
  induction xs with
  | nil => simp [Syn.placesL]
  | cons x r ih => simp only [List.cons_append, Syn.placesL, ih]; omega
theorem Syn.placesL_le (ds : List Syn) (k : Nat) (d : Syn) (h : ds[k]? = some d) : Syn.placesL (ds.take (k+1)) = Syn.placesL (ds.take k) + d.places ∧ Syn.placesL (ds.take k) + d.places ≤ Syn.placesL ds := by
  have h1 : Syn.placesL (ds.take (k+1)) = Syn.placesL (ds.take k) + d.places := by rw [take_snoc h, Syn.placesL_append]; simp [Syn.placesL]
  refine ⟨h1, ?_⟩
  rw [← h1]
  conv => rhs; rw [← List.take_append_drop (k+1) ds, Syn.placesL_append]
  omega
theorem Syn.placesL_wt (ds : List Syn) : Syn.placesL ds ≤ 3 * (ds.length + Syn.wtX ds) := by
  refine Syn.inductL (P := fun ds => Syn.placesL ds ≤ 3 * (ds.length + Syn.wtX ds)) (fun ds ih => ?_) ds
  induction ds with
  | nil => simp [Syn.placesL]
  | cons d r ihr =>
    obtain ⟨k, n, s, x, es⟩ := d
    have h1 := ih k n s x es (List.mem_cons_self ..)
    have h2 := ihr fun k n s x es hm => ih k n s x es (List.mem_cons_of_mem _ hm)
    simp only [Syn.placesL, Syn.places, Syn.wtX, Syn.wt, List.length_cons] at *
    omega
mutual
/-- A piece of syntax whose places have been numbered from k on. -/
def Syn.mark (k : Int) : Syn → Syn
  | .mk _ _ _ x es => .mk k (k + 1) (mtx (k + 2)) (cnt (k + 3) x.length) (Syn.markL (k + 3 + (x.length : Int)) es)
def Syn.markL (k : Int) : List Syn → List Syn
  | [] => []
  | d :: r => d.mark k :: Syn.markL (k + (d.places : Int)) r
end
theorem Syn.markL_append (xs ys : List Syn) : ∀ k, Syn.markL k (xs ++ ys) = Syn.markL k xs ++ Syn.markL (k + (Syn.placesL xs : Int)) ys := by
  induction xs with
  | nil => intro k; simp [Syn.markL, Syn.placesL]
  | cons x r ih =>
    intro k
    simp only [List.cons_append, Syn.markL, Syn.placesL, ih]
    congr 3
    push_cast; omega
theorem Syn.markL_length (ds : List Syn) : ∀ k, (Syn.markL k ds).length = ds.length := by
  induction ds with
  | nil => intro k; rfl
  | cons x r ih => intro k; simp [Syn.markL, ih]
theorem Syn.markL_take {ds : List Syn} {j : Nat} {d : Syn} (h : ds[j]? = some d) (k : Int) : Syn.markL k (ds.take (j + 1)) = Syn.markL k (ds.take j) ++ [d.mark (k + (Syn.placesL (ds.take j) : Int))] := by
  rw [take_snoc h, Syn.markL_append]; rfl
theorem Syn.mark_set {ds : List Syn} {j : Nat} {d : Syn} (h : ds[j]? = some d) (k : Int) :
    (Syn.markL k (ds.take j) ++ ds.drop j).set j (d.mark (k + (Syn.placesL (ds.take j) : Int))) = Syn.markL k (ds.take (j + 1)) ++ ds.drop (j + 1) := by
  obtain ⟨hj, rfl⟩ := List.getElem?_eq_some_iff.1 h
  have hl : (Syn.markL k (ds.take j)).length = j := by rw [Syn.markL_length]; simp; omega
  rw [List.set_append, hl, if_neg (by omega), Nat.sub_self, List.drop_eq_getElem_cons hj, List.set_cons_zero, Syn.markL_take h k]
  simp
theorem Syn.mark_at {ds : List Syn} {j : Nat} (k : Int) (hj : j < ds.length) : (Syn.markL k (ds.take j) ++ ds.drop j)[j]? = ds[j]? := by
  have hl : (Syn.markL k (ds.take j)).length = j := by rw [Syn.markL_length]; simp; omega
  rw [List.getElem?_append_right (by omega), hl, Nat.sub_self, List.getElem?_drop]; simp
theorem Syn.markL_get {ds : List Syn} {j : Nat} {d : Syn} (h : ds[j]? = some d) (k : Int) : (Syn.markL k ds)[j]? = some (d.mark (k + (Syn.placesL (ds.take j) : Int))) := by
  obtain ⟨hj, rfl⟩ := List.getElem?_eq_some_iff.1 h
  conv => lhs; rw [← List.take_append_drop j ds, List.drop_eq_getElem_cons hj, Syn.markL_append]
  have hl : (Syn.markL k (ds.take j)).length = j := by rw [Syn.markL_length]; simp; omega
  rw [List.getElem?_append_right (by omega), hl, Nat.sub_self]; rfl

end Go.Proofs.Ytghbnehocggnnaa

/-
  Lists of numbers that a call builds: append laws, copies. No condition.
-/
set_option linter.unusedVariables false
set_option linter.unusedSimpArgs false
set_option maxRecDepth 100000
namespace Go.Proofs.Ytghbnehocggnnaa
open Go.RowKit

/-- append(own, s...): a row of one's own, grown by all of a slice of simple cells. -/
theorem wpList_all {P : Program} {W : World} {ops : Array Oper} {rest : List Oper} {o : Oper} {act : Act} {Q : Exit → Act → World → Prop} (hgd : o.guard = none) (s x : Operand) (t : TypeId)
    (ho : o.op = .call { callee := .builtin .append, args := #[s, x], argTypes := #[t, t] })
    (e e' : TypeId) (z : Value) (bytes : Nat) (ht : P.underlying t = some (.slice e)) (hinfo : (P.info? e).map (fun i => (i.zero, i.size, i.bytes)) = some (some z, 1, bytes))
    (hzs : z.cells.size = 1) (lo : Nat) (a : Option Addr) (cap : Nat) (xs ys : List M) (hs : act.eval s = .slice a xs.length cap) (hrow : (M.sl a cap 1 e xs).Mine W lo) (hlo : lo ≤ W.heap.size)
    (ao : Option Addr) (c : Nat) (hx : act.eval x = .slice ao ys.length c) (h : (M.sl ao c 1 e' ys).In W) (h1 : ∀ y ∈ ys, ∃ v : Value, y = .c v ∧ v.oneCell' = true)
    (h63 : xs.length + ys.length ≤ maxLen) (hbytes : (xs.length + ys.length) * bytes ≤ 140737488355328)
    (k : ∀ a' cap' w', (M.sl a' cap' 1 e (xs ++ ys)).Mine w' lo → Below lo W w' → W.heap.size ≤ w'.heap.size →
      wpList P ops Q rest (act.put o.dst (.slice a' (xs.length + ys.length) cap')) w') : wpList P ops Q (o :: rest) act W := by
  have hob : M.blocksL ys = [] := by
    clear h hx h63 hbytes k
    induction ys with
    | nil => rfl
    | cons y r ih => obtain ⟨v, rfl, _⟩ := h1 y (List.mem_cons_self ..); simpa [M.blocksL, M.blocks] using ih fun z hz => h1 z (List.mem_cons_of_mem _ hz)
  have hown : M.MineL W lo ys := ⟨OwnL_iff.2 fun y hy => by obtain ⟨v, rfl, hv⟩ := h1 y hy; exact hv, by rw [hob]; exact List.nodup_nil⟩
  refine wpList_row _ hgd s x t ho e z 1 bytes ht hinfo hzs (by decide) lo a xs.length cap (M.cellsL xs) hs hrow.own.1.1 ao ys.length c (M.cellsL ys) hx (by simpa using h.1.1.len) h.1.1.nil h.1.1.cell ?_ h63 hbytes hlo ?_
  · exact M.OwnL.one ys hown.own
  · intro a' cap' w' hr hg ha
    refine k a' cap' w' (M.Mine.push hrow hr hg ha hown h.1.2 (by rw [hob]; simp)) ?_ hg.size
    exact grownBy_below (lo := lo) hg hlo fun b hb => (Mine.addr_lo hrow b hb).1

theorem intM_one (l : List Int) : ∀ y ∈ intM l, ∃ v : Value, y = .c v ∧ v.oneCell' = true := by
  intro y hy; simp only [intM, List.mem_map] at hy; obtain ⟨n, _, rfl⟩ := hy; exact ⟨_, rfl, rfl⟩
theorem Ints.nil (w : World) (lo : Nat) : (M.sl none 0 1 3 (intM [])).Mine w lo := M.Mine.nil _ _ _ _ (by decide)
/-- the empty literal '[]int{}' -/
theorem Ints.lit (w : World) (lo : Nat) (h : lo ≤ w.heap.size) : (M.sl (some ⟨w.heap.size, 0, none⟩) 0 1 3 (intM [])).Mine (w.alloc (.cells #[] 3)) lo :=
  M.Mine.new rfl h rfl (by decide) (by simp [intM]) (by simp [maxLen]) ⟨trivial, by simp [intM, M.blocksL]⟩

theorem sl2Ints_calls (a : Option Addr) (cap : Nat) (l : List Int) (w : World) (h : (M.sl a cap 1 3 (intM l)).In w) (hB : l.length ≤ 1000000000) :
    Calls Try.prog 107 #[.slice a l.length cap] w (RetInts l w) := by
  have hil := intM_length l
  have H := Lib.hid h; clear h
  go_enter Try.func107, Try.ntmps107
  go_wp2_with (at_builtin; refine wpList_all rfl _ _ 24 rfl 3 3 _ 8 Try.underlying24 infoI rfl w.heap.size _ _ [] (intM l) rfl ?mine ?lo a cap ?ev ?hin (intM_one l) ?max ?bytes ?_)
  case mine => first | exact M.Mine.nil _ _ _ _ (by decide) | exact Ints.lit _ _ (Nat.le_refl _)
  case lo => simp
  case ev => simp [go_sem, intM_length]
  case hin => exact H.out.below (by (repeat (first | with_reducible assumption | with_reducible exact Below.refl _ _ | with_reducible refine Below.drew ?_ | with_reducible refine belowDrewN ?_ _ | ((with_reducible refine Below.setCell ?_ ?_ _); rotate_left; focus (first | omega | (simp; done) | (simp; omega))) | ((with_reducible refine Below.alloc ?_ ?_ _); rotate_left; focus (first | omega | (simp; done) | (simp; omega))))))
  case max => rw [hil]; unfold maxLen; simp; omega
  case bytes => rw [hil]; simp; omega
  intro a3 cap3 w3 hm3 hb3 hz3
  simp only [List.nil_append, List.length_nil, Nat.zero_add, hil] at *
  have HM3 := Lib.hid hm3; clear hm3
  go_wp2_with fail
  go_ret
  exact ⟨_, _, rfl, HM3.out, by first | exact hb3 | exact Below.trans (Below.alloc (Below.refl _ _) (Nat.le_refl _) _) hb3⟩
theorem icopyInts_calls (a : Option Addr) (cap : Nat) (l : List Int) (w : World) (h : (M.sl a cap 1 3 (intM l)).In w) (hB : l.length ≤ 1000000000) :
    Calls Try.prog 85 #[.slice a l.length cap] w (RetInts l w) := by
  have hil := intM_length l
  have H := Lib.hid h; clear h
  go_enter Try.func85, Try.ntmps85
  go_wp2_with (at_builtin; refine wpList_all rfl _ _ 24 rfl 3 3 _ 8 Try.underlying24 infoI rfl w.heap.size _ _ [] (intM l) rfl ?mine ?lo a cap ?ev ?hin (intM_one l) ?max ?bytes ?_)
  case mine => first | exact M.Mine.nil _ _ _ _ (by decide) | exact Ints.lit _ _ (Nat.le_refl _)
  case lo => simp
  case ev => simp [go_sem, intM_length]
  case hin => exact H.out.below (by (repeat (first | with_reducible assumption | with_reducible exact Below.refl _ _ | with_reducible refine Below.drew ?_ | with_reducible refine belowDrewN ?_ _ | ((with_reducible refine Below.setCell ?_ ?_ _); rotate_left; focus (first | omega | (simp; done) | (simp; omega))) | ((with_reducible refine Below.alloc ?_ ?_ _); rotate_left; focus (first | omega | (simp; done) | (simp; omega))))))
  case max => rw [hil]; unfold maxLen; simp; omega
  case bytes => rw [hil]; simp; omega
  intro a3 cap3 w3 hm3 hb3 hz3
  simp only [List.nil_append, List.length_nil, Nat.zero_add, hil] at *
  have HM3 := Lib.hid hm3; clear hm3
  go_wp2_with fail
  go_ret
  exact ⟨_, _, rfl, HM3.out, by first | exact hb3 | exact Below.trans (Below.alloc (Below.refl _ _) (Nat.le_refl _) _) hb3⟩
end Go.Proofs.Ytghbnehocggnnaa

/-
  Walks: WithoutUses. No condition.
-/
set_option linter.unusedVariables false
set_option linter.unusedSimpArgs false
set_option maxRecDepth 100000
namespace Go.Proofs.Ytghbnehocggnnaa
open Go.RowKit

theorem intM_snoc (l : List Int) (n : Int) : intM l ++ [.c (.int .i64 n)] = intM (l ++ [n]) := by simp [intM]
/-- 'out = append(out, n)' -/
theorem wpInts_push {P : Program} {wr w1 : World} {ops : Array Oper} {rest : List Oper} {o : Oper} {act : Act} {Q : Exit → Act → World → Prop} (hgd : o.guard = none) (s x : Operand) (t : TypeId)
    (ho : o.op = .call { callee := .builtin .append, args := #[s, x], argTypes := #[t, t] })
    (e : TypeId) (z : Value) (ht : P.underlying t = some (.slice e)) (hinfo : (P.info? e).map (fun i => (i.zero, i.size, i.bytes)) = some (some z, 1, 8)) (hzs : z.cells.size = 1)
    (lo : Nat) (a : Option Addr) (cap : Nat) (xs : List Int) (hs : act.eval s = .slice a xs.length cap) (hrow : (M.sl a cap 1 e (intM xs)).Mine wr lo) (hlo : lo ≤ wr.heap.size) (hb : Below wr.heap.size wr w1)
    (n : Int) (hx : act.eval x = .slice (some ⟨w1.heap.size, 0, none⟩) 1 1) (hB : xs.length ≤ 1000000000)
    (k : ∀ a' cap' w', (M.sl a' cap' 1 e (intM (xs ++ [n]))).Mine w' lo → Below lo w1 w' → w1.heap.size ≤ w'.heap.size →
      wpList P ops Q rest (act.put o.dst (.slice a' (xs ++ [n]).length cap')) w') : wpList P ops Q (o :: rest) act (w1.alloc (.cells #[.int .i64 n] e)) := by
  refine wpList_push hgd s x t ho e z 1 8 ht hinfo hzs (by decide) lo a cap (intM xs) (by rw [intM_length]; exact hs) hrow hlo hb #[.int .i64 n] (.c (.int .i64 n)) rfl rfl wr.heap.size (M.Mine.c rfl) (Nat.le_refl _) hx (by rw [intM_length]; unfold maxLen; omega) (by rw [intM_length]; omega) ?_
  intro a' cap' w' h1 h2 h3 _
  rw [intM_snoc] at h1
  rw [intM_length]
  have := k a' cap' w' h1 h2 h3
  simpa using this

def noUse (l : List Int) : List Int := l.filter fun x => decide (¬ kindS x = 3)
theorem noUse_length (l : List Int) : (noUse l).length ≤ l.length := List.length_filter_le ..
theorem noUse_take (l : List Int) (k : Nat) : (noUse (l.take k)).length ≤ k := Nat.le_trans (noUse_length _) (by simp; omega)
theorem noUse_yes {l : List Int} {k : Nat} {x : Int} (hx : l[k]? = some x) (h : ¬ kindS x = 3) : noUse (l.take (k + 1)) = noUse (l.take k) ++ [x] := by
  rw [take_snoc hx, noUse, noUse, List.filter_append]; simp [h]
theorem noUse_no {l : List Int} {k : Nat} {x : Int} (hx : l[k]? = some x) (h : kindS x = 3) : noUse (l.take (k + 1)) = noUse (l.take k) := by
  rw [take_snoc hx, noUse, noUse, List.filter_append]; simp [h]
def woUse (l : List Int) : List Int := if ssB l = true then noUse l else l
theorem woUse_length (l : List Int) : (woUse l).length ≤ l.length := by unfold woUse; split; exact noUse_length l; exact Nat.le_refl _


theorem iWithoutUses_calls (a : Option Addr) (cap : Nat) (l : List Int) (w : World) (h : (M.sl a cap 1 3 (intM l)).In w) (hB : l.length ≤ 1000000000) :
    Calls Try.prog 61 #[.slice a l.length cap] w (RetInts (woUse l) w) := by
  have hl := Ints.len h
  have H := Lib.hid h; clear h
  go_enter Try.func61, Try.ntmps61
  go_wp2_with fail
  refine (iIsScopeSet_calls a cap l _ H.out).mono ?_
  rintro e w1 ⟨rfl, hb1⟩
  obtain ⟨hc1, hf1⟩ := bcell hb1; have hz1 := hb1.size; (try simp only [World.size_alloc, World.size_setCell, World.size_drew, sizeDrewN] at hz1 hc1 hf1)
  cases hs : ssB l with
  | false =>
    go_wp2_with fail
    refine (icopyInts_calls a cap l _ (H.out.below (by (repeat (first | with_reducible assumption | with_reducible exact Below.refl _ _ | with_reducible refine Below.drew ?_ | with_reducible refine belowDrewN ?_ _ | ((with_reducible refine Below.setCell ?_ ?_ _); rotate_left; focus (first | omega | (simp; done) | (simp; omega))) | ((with_reducible refine Below.alloc ?_ ?_ _); rotate_left; focus (first | omega | (simp; done) | (simp; omega))) | ((with_reducible refine Below.trans ?_ (Below.mono hb1 ?_)); rotate_left; focus (first | omega | (simp; done) | (simp; omega))))))) hB).mono ?_
    rintro e w2 ⟨a2, c2, rfl, hm2, hb2⟩
    obtain ⟨hc2, hf2⟩ := bcell hb2; have hz2 := hb2.size; (try simp only [World.size_alloc, World.size_setCell, World.size_drew, sizeDrewN] at hz2 hc2 hf2)
    have HM2 := Lib.hid hm2; clear hm2
    go_wp2_with fail
    go_ret
    rw [show woUse l = l by simp [woUse, hs]]
    exact ⟨_, _, rfl, HM2.out.mono hz1, by (repeat (first | with_reducible assumption | with_reducible exact Below.refl _ _ | with_reducible refine Below.drew ?_ | with_reducible refine belowDrewN ?_ _ | ((with_reducible refine Below.setCell ?_ ?_ _); rotate_left; focus (first | omega | (simp; done) | (simp; omega))) | ((with_reducible refine Below.alloc ?_ ?_ _); rotate_left; focus (first | omega | (simp; done) | (simp; omega))) | ((with_reducible refine Below.trans ?_ (Below.mono hb1 ?_)); rotate_left; focus (first | omega | (simp; done) | (simp; omega))) | ((with_reducible refine Below.trans ?_ (Below.mono hb2 ?_)); rotate_left; focus (first | omega | (simp; done) | (simp; omega)))))⟩
  | true =>
    go_wp2_with fail
    go_loopw [3, 13] (fun t i wr => ∃ (k : Nat) (a' : Option Addr) (cap' : Nat), k ≤ l.length ∧ i = .int .i64 k ∧ t = .slice a' (noUse (l.take k)).length cap' ∧ (M.sl a' cap' 1 3 (intM (noUse (l.take k)))).Mine wr w.heap.size ∧ Below w.heap.size w wr ∧ w.heap.size ≤ wr.heap.size) (fun _ i _ => l.length - (intOf i).toNat)
    case atStart => exact ⟨0, _, _, Nat.zero_le _, rfl, rfl, Ints.nil _ _, by (repeat (first | with_reducible assumption | with_reducible exact Below.refl _ _ | with_reducible refine Below.drew ?_ | with_reducible refine belowDrewN ?_ _ | ((with_reducible refine Below.setCell ?_ ?_ _); rotate_left; focus (first | omega | (simp; done) | (simp; omega))) | ((with_reducible refine Below.alloc ?_ ?_ _); rotate_left; focus (first | omega | (simp; done) | (simp; omega))) | ((with_reducible refine Below.trans ?_ (Below.mono hb1 ?_)); rotate_left; focus (first | omega | (simp; done) | (simp; omega))))), hz1⟩
    case round =>
      obtain ⟨k, a', cap', hk, rfl, rfl, hm', hb, hsz⟩ := hrel
      have hnt := noUse_take l k
      by_cases hlt : k < l.length
      · obtain ⟨b, off, x, rfl, hx, hc⟩ := Ints.elem (H.out.below hb) k hlt
        by_cases hq : kindS x = 3
        · have hfin := noUse_no hx hq
          have HX := Lib.hid hx; clear hx; have HM' := Lib.hid hm'; clear hm'; have HFIN := Lib.hid hfin; clear hfin
          go_wp2_with fail
          refine (iKindOfScope_ret _ _).mono ?_
          rintro e w1 ⟨rfl, hb1⟩
          obtain ⟨hc1, hf1⟩ := bcell hb1; have hz1 := hb1.size; (try simp only [World.size_alloc, World.size_setCell, World.size_drew, sizeDrewN] at hz1 hc1 hf1)
          go_wp2_with fail
          go_roundw
          case rel => exact ⟨k + 1, a', cap', by omega, by go_num, by simp [HFIN.out], by rw [HFIN.out]; exact HM'.out.below hb1, by (repeat (first | with_reducible assumption | with_reducible exact Below.refl _ _ | with_reducible refine Below.drew ?_ | with_reducible refine belowDrewN ?_ _ | ((with_reducible refine Below.setCell ?_ ?_ _); rotate_left; focus (first | omega | (simp; done) | (simp; omega))) | ((with_reducible refine Below.alloc ?_ ?_ _); rotate_left; focus (first | omega | (simp; done) | (simp; omega))) | ((with_reducible refine Below.trans ?_ (Below.mono hb1 ?_)); rotate_left; focus (first | omega | (simp; done) | (simp; omega))))), by omega⟩
          case measure => simp [intOf]; omega
        · have hfin := noUse_yes hx hq
          have HX := Lib.hid hx; clear hx; have HM' := Lib.hid hm'; clear hm'; have HFIN := Lib.hid hfin; clear hfin
          go_wp2_with fail
          refine (iKindOfScope_ret _ _).mono ?_
          rintro e w1 ⟨rfl, hb1⟩
          obtain ⟨hc1, hf1⟩ := bcell hb1; have hz1 := hb1.size; (try simp only [World.size_alloc, World.size_setCell, World.size_drew, sizeDrewN] at hz1 hc1 hf1)
          go_wp2_with (at_builtin; refine wpInts_push rfl _ _ 24 rfl 3 _ Try.underlying24 infoI rfl w.heap.size a' cap' (noUse (l.take k)) rfl HM'.out hsz (by (repeat (first | with_reducible assumption | with_reducible exact Below.refl _ _ | with_reducible refine Below.drew ?_ | with_reducible refine belowDrewN ?_ _ | ((with_reducible refine Below.setCell ?_ ?_ _); rotate_left; focus (first | omega | (simp; done) | (simp; omega))) | ((with_reducible refine Below.alloc ?_ ?_ _); rotate_left; focus (first | omega | (simp; done) | (simp; omega))) | ((with_reducible refine Below.trans ?_ (Below.mono hb1 ?_)); rotate_left; focus (first | omega | (simp; done) | (simp; omega)))))) x rfl (by omega) ?_)
          intro a3 cap3 w3 hm3 hb3 hz3
          have HM3 := Lib.hid hm3; clear hm3
          go_wp2_with fail
          go_roundw
          case rel => exact ⟨k + 1, a3, cap3, by omega, by go_num, by simp [HFIN.out], by rw [HFIN.out]; exact HM3.out, by (repeat (first | with_reducible assumption | with_reducible exact Below.refl _ _ | with_reducible refine Below.drew ?_ | with_reducible refine belowDrewN ?_ _ | ((with_reducible refine Below.setCell ?_ ?_ _); rotate_left; focus (first | omega | (simp; done) | (simp; omega))) | ((with_reducible refine Below.alloc ?_ ?_ _); rotate_left; focus (first | omega | (simp; done) | (simp; omega))) | ((with_reducible refine Below.trans ?_ (Below.mono hb1 ?_)); rotate_left; focus (first | omega | (simp; done) | (simp; omega))) | ((with_reducible refine Below.trans ?_ (Below.mono hb3 ?_)); rotate_left; focus (first | omega | (simp; done) | (simp; omega))))), by omega⟩
          case measure => simp [intOf]; omega
      · have hk2 : k = l.length := by omega
        subst hk2
        rw [List.take_length] at *
        have HM' := Lib.hid hm'; clear hm'
        go_wp2_with fail
        go_ret
        rw [show woUse l = noUse l by simp [woUse, hs]]
        exact ⟨_, _, rfl, HM'.out, hb⟩
end Go.Proofs.Ytghbnehocggnnaa

/-
  Walks: WithScope. No condition.
-/
set_option linter.unusedVariables false
set_option linter.unusedSimpArgs false
set_option maxRecDepth 100000
namespace Go.Proofs.Ytghbnehocggnnaa
open Go.RowKit

def putStep (n : Int) (st : List Int × Bool) (x : Int) : List Int × Bool :=
  if st.2 = false ∧ n ≤ x then ((if n < x then st.1 ++ [n] else st.1) ++ [x], true) else (st.1 ++ [x], st.2)
def putSt (n : Int) (l : List Int) : List Int × Bool := l.foldl (putStep n) ([], false)
theorem putSt_succ {n : Int} {l : List Int} {k : Nat} {x : Int} (hx : l[k]? = some x) : putSt n (l.take (k + 1)) = putStep n (putSt n (l.take k)) x := by
  rw [take_snoc hx, putSt, List.foldl_append]; rfl
theorem putStep_length (n : Int) (st : List Int × Bool) (x : Int) : (putStep n st x).1.length ≤ st.1.length + 2 := by
  unfold putStep; split
  · simp only [List.length_append]; split <;> simp <;> omega
  · simp
theorem putSt_take (n : Int) (l : List Int) (k : Nat) (hk : k ≤ l.length) : (putSt n (l.take k)).1.length ≤ 2 * k := by
  induction k with
  | zero => simp [putSt]
  | succ k ih => rw [putSt_succ (List.getElem?_eq_getElem (by omega : k < l.length))]; have := putStep_length n (putSt n (l.take k)) (l[k]'(by omega)); have := ih (by omega); omega
def put (n : Int) (l : List Int) : List Int := if (putSt n l).2 = true then (putSt n l).1 else (putSt n l).1 ++ [n]
theorem put_length (n : Int) (l : List Int) : (put n l).length ≤ 2 * l.length + 1 := by
  have := putSt_take n l l.length (Nat.le_refl _)
  rw [List.take_length] at this
  unfold put; split
  · omega
  · simp; omega
def withS (l : List Int) (n : Int) : List Int := if ssB l = true ∧ ¬ kindS n = 0 then put n l else l
theorem withS_length (l : List Int) (n : Int) : (withS l n).length ≤ 2 * l.length + 1 := by
  unfold withS; split
  · exact put_length n l
  · omega

theorem sPut_calls (a : Option Addr) (cap : Nat) (l : List Int) (n : Int) (w : World) (h : (M.sl a cap 1 3 (intM l)).In w) (hB : l.length ≤ 4000000) :
    Calls Try.prog 89 #[.slice a l.length cap, .int .i64 n] w (RetInts (put n l) w) := by
  have hl := Ints.len h
  have H := Lib.hid h; clear h
  go_enter Try.func89, Try.ntmps89
  go_wp2_with fail
  go_loopw [5,6,12] (fun t d i wr => ∃ (k : Nat) (a' : Option Addr) (cap' : Nat), k ≤ l.length ∧ i = .int .i64 k ∧ t = .slice a' (putSt n (l.take k)).1.length cap' ∧ d = .bool (putSt n (l.take k)).2 ∧ (M.sl a' cap' 1 3 (intM (putSt n (l.take k)).1)).Mine wr w.heap.size ∧ Below w.heap.size w wr ∧ w.heap.size ≤ wr.heap.size) (fun _ _ i _ => l.length - (intOf i).toNat)
  case atStart => exact ⟨0, _, _, Nat.zero_le _, rfl, rfl, rfl, by first | exact Ints.lit _ _ (Nat.le_refl _) | exact Ints.nil _ _, by (repeat (first | with_reducible assumption | with_reducible exact Below.refl _ _ | with_reducible refine Below.drew ?_ | with_reducible refine belowDrewN ?_ _ | ((with_reducible refine Below.setCell ?_ ?_ _); rotate_left; focus (first | omega | (simp; done) | (simp; omega))) | ((with_reducible refine Below.alloc ?_ ?_ _); rotate_left; focus (first | omega | (simp; done) | (simp; omega))))), by simp⟩
  case round =>
    obtain ⟨k, a', cap', hk, rfl, rfl, rfl, hm', hb, hsz⟩ := hrel
    have hnt := putSt_take n l k hk
    by_cases hlt : k < l.length
    · obtain ⟨b, off, x, rfl, hx, hc⟩ := Ints.elem (H.out.below hb) k hlt
      have hst := putSt_succ (n := n) hx
      generalize hgs : putSt n (l.take k) = st at *
      obtain ⟨o, dn⟩ := st
      simp only at hnt hm' hst
      have HX := Lib.hid hx; clear hx; have HM' := Lib.hid hm'; clear hm'; have HGS := Lib.hid hgs; clear hgs
      by_cases hd : dn = false ∧ n ≤ x
      · obtain ⟨rfl, hnx⟩ := hd
        have hge : n ≤ x := hnx
        by_cases hgt : n < x
        · have hfin : putSt n (l.take (k + 1)) = (o ++ [n] ++ [x], true) := by rw [hst]; simp [putStep, hnx, hgt]
          have HST := Lib.hid hst; clear hst; have HFIN := Lib.hid hfin; clear hfin
          go_wp2_with (at_builtin; refine wpInts_push rfl _ _ 24 rfl 3 _ Try.underlying24 infoI rfl w.heap.size a' cap' o rfl HM'.out hsz (by (repeat (first | with_reducible assumption | with_reducible exact Below.refl _ _ | with_reducible refine Below.drew ?_ | with_reducible refine belowDrewN ?_ _ | ((with_reducible refine Below.setCell ?_ ?_ _); rotate_left; focus (first | omega | (simp; done) | (simp; omega))) | ((with_reducible refine Below.alloc ?_ ?_ _); rotate_left; focus (first | omega | (simp; done) | (simp; omega)))))) n rfl (by omega) ?_)
          intro a3 cap3 w3 hm3 hb3 hz3
          have HM3 := Lib.hid hm3; clear hm3
          have hb3' := hb3
          go_wp2_with (at_builtin; refine wpInts_push rfl _ _ 24 rfl 3 _ Try.underlying24 infoI rfl w.heap.size a3 cap3 (o ++ [n]) (by simp [go_sem]) HM3.out (by omega) (by (repeat (first | with_reducible assumption | with_reducible exact Below.refl _ _ | with_reducible refine Below.drew ?_ | with_reducible refine belowDrewN ?_ _ | ((with_reducible refine Below.setCell ?_ ?_ _); rotate_left; focus (first | omega | (simp; done) | (simp; omega))) | ((with_reducible refine Below.alloc ?_ ?_ _); rotate_left; focus (first | omega | (simp; done) | (simp; omega)))))) x rfl (by simp; omega) ?_)
          intro a4 cap4 w4 hm4 hb4 hz4
          have HM4 := Lib.hid hm4; clear hm4
          go_wp2_with fail
          go_roundw
          case rel => exact ⟨k + 1, a4, cap4, by omega, by go_num, by simp [HFIN.out], by simp [HFIN.out], by rw [HFIN.out]; simpa using HM4.out, by (repeat (first | with_reducible assumption | with_reducible exact Below.refl _ _ | with_reducible refine Below.drew ?_ | with_reducible refine belowDrewN ?_ _ | ((with_reducible refine Below.setCell ?_ ?_ _); rotate_left; focus (first | omega | (simp; done) | (simp; omega))) | ((with_reducible refine Below.alloc ?_ ?_ _); rotate_left; focus (first | omega | (simp; done) | (simp; omega))) | ((with_reducible refine Below.trans ?_ (Below.mono hb3 ?_)); rotate_left; focus (first | omega | (simp; done) | (simp; omega))) | ((with_reducible refine Below.trans ?_ (Below.mono hb4 ?_)); rotate_left; focus (first | omega | (simp; done) | (simp; omega))))), by omega⟩
          case measure => simp [intOf]; omega
        · have hxe : x = n := by omega
          subst hxe
          have hfin : putSt x (l.take (k + 1)) = (o ++ [x], true) := by rw [hst]; simp [putStep]
          have HST := Lib.hid hst; clear hst; have HFIN := Lib.hid hfin; clear hfin
          go_wp2_with (at_builtin; refine wpInts_push rfl _ _ 24 rfl 3 _ Try.underlying24 infoI rfl w.heap.size a' cap' o rfl HM'.out hsz (by (repeat (first | with_reducible assumption | with_reducible exact Below.refl _ _ | with_reducible refine Below.drew ?_ | with_reducible refine belowDrewN ?_ _ | ((with_reducible refine Below.setCell ?_ ?_ _); rotate_left; focus (first | omega | (simp; done) | (simp; omega))) | ((with_reducible refine Below.alloc ?_ ?_ _); rotate_left; focus (first | omega | (simp; done) | (simp; omega)))))) x rfl (by omega) ?_)
          intro a3 cap3 w3 hm3 hb3 hz3
          have HM3 := Lib.hid hm3; clear hm3
          go_wp2_with fail
          go_roundw
          case rel => exact ⟨k + 1, a3, cap3, by omega, by go_num, by simp [HFIN.out], by simp [HFIN.out], by rw [HFIN.out]; exact HM3.out, by (repeat (first | with_reducible assumption | with_reducible exact Below.refl _ _ | with_reducible refine Below.drew ?_ | with_reducible refine belowDrewN ?_ _ | ((with_reducible refine Below.setCell ?_ ?_ _); rotate_left; focus (first | omega | (simp; done) | (simp; omega))) | ((with_reducible refine Below.alloc ?_ ?_ _); rotate_left; focus (first | omega | (simp; done) | (simp; omega))) | ((with_reducible refine Below.trans ?_ (Below.mono hb3 ?_)); rotate_left; focus (first | omega | (simp; done) | (simp; omega))))), by omega⟩
          case measure => simp [intOf]; omega
      · have hfin : putSt n (l.take (k + 1)) = (o ++ [x], dn) := by rw [hst]; unfold putStep; rw [if_neg hd]
        have HST := Lib.hid hst; clear hst; have HFIN := Lib.hid hfin; clear hfin
        cases dn with
        | true =>
          go_wp2_with (at_builtin; refine wpInts_push rfl _ _ 24 rfl 3 _ Try.underlying24 infoI rfl w.heap.size a' cap' o rfl HM'.out hsz (by (repeat (first | with_reducible assumption | with_reducible exact Below.refl _ _ | with_reducible refine Below.drew ?_ | with_reducible refine belowDrewN ?_ _ | ((with_reducible refine Below.setCell ?_ ?_ _); rotate_left; focus (first | omega | (simp; done) | (simp; omega))) | ((with_reducible refine Below.alloc ?_ ?_ _); rotate_left; focus (first | omega | (simp; done) | (simp; omega)))))) x rfl (by omega) ?_)
          intro a3 cap3 w3 hm3 hb3 hz3
          have HM3 := Lib.hid hm3; clear hm3
          go_wp2_with fail
          go_roundw
          case rel => exact ⟨k + 1, a3, cap3, by omega, by go_num, by simp [HFIN.out], by simp [HFIN.out], by rw [HFIN.out]; exact HM3.out, by (repeat (first | with_reducible assumption | with_reducible exact Below.refl _ _ | with_reducible refine Below.drew ?_ | with_reducible refine belowDrewN ?_ _ | ((with_reducible refine Below.setCell ?_ ?_ _); rotate_left; focus (first | omega | (simp; done) | (simp; omega))) | ((with_reducible refine Below.alloc ?_ ?_ _); rotate_left; focus (first | omega | (simp; done) | (simp; omega))) | ((with_reducible refine Below.trans ?_ (Below.mono hb3 ?_)); rotate_left; focus (first | omega | (simp; done) | (simp; omega))))), by omega⟩
          case measure => simp [intOf]; omega
        | false =>
          have hxl : x < n := by simp at hd; omega
          clear hd
          go_wp2_with (at_builtin; refine wpInts_push rfl _ _ 24 rfl 3 _ Try.underlying24 infoI rfl w.heap.size a' cap' o rfl HM'.out hsz (by (repeat (first | with_reducible assumption | with_reducible exact Below.refl _ _ | with_reducible refine Below.drew ?_ | with_reducible refine belowDrewN ?_ _ | ((with_reducible refine Below.setCell ?_ ?_ _); rotate_left; focus (first | omega | (simp; done) | (simp; omega))) | ((with_reducible refine Below.alloc ?_ ?_ _); rotate_left; focus (first | omega | (simp; done) | (simp; omega)))))) x rfl (by omega) ?_)
          intro a3 cap3 w3 hm3 hb3 hz3
          have HM3 := Lib.hid hm3; clear hm3
          go_wp2_with fail
          go_roundw
          case rel => exact ⟨k + 1, a3, cap3, by omega, by go_num, by simp [HFIN.out], by simp [HFIN.out], by rw [HFIN.out]; exact HM3.out, by (repeat (first | with_reducible assumption | with_reducible exact Below.refl _ _ | with_reducible refine Below.drew ?_ | with_reducible refine belowDrewN ?_ _ | ((with_reducible refine Below.setCell ?_ ?_ _); rotate_left; focus (first | omega | (simp; done) | (simp; omega))) | ((with_reducible refine Below.alloc ?_ ?_ _); rotate_left; focus (first | omega | (simp; done) | (simp; omega))) | ((with_reducible refine Below.trans ?_ (Below.mono hb3 ?_)); rotate_left; focus (first | omega | (simp; done) | (simp; omega))))), by omega⟩
          case measure => simp [intOf]; omega
    · have hk2 : k = l.length := by omega
      subst hk2
      rw [List.take_length] at *
      have hput : put n l = if (putSt n l).2 = true then (putSt n l).1 else (putSt n l).1 ++ [n] := rfl
      generalize hgs : putSt n l = st at *
      obtain ⟨o, dn⟩ := st
      simp only at hnt hm' hput
      have HM' := Lib.hid hm'; clear hm'; have HGS := Lib.hid hgs; clear hgs
      cases dn with
      | true =>
        rw [if_pos rfl] at hput
        have HPUT := Lib.hid hput; clear hput
        go_wp2_with fail
        go_ret
        rw [HPUT.out]
        exact ⟨_, _, rfl, HM'.out, hb⟩
      | false =>
        rw [if_neg (by decide)] at hput
        have HPUT := Lib.hid hput; clear hput
        go_wp2_with (at_builtin; refine wpInts_push rfl _ _ 24 rfl 3 _ Try.underlying24 infoI rfl w.heap.size a' cap' o rfl HM'.out hsz (by (repeat (first | with_reducible assumption | with_reducible exact Below.refl _ _ | with_reducible refine Below.drew ?_ | with_reducible refine belowDrewN ?_ _ | ((with_reducible refine Below.setCell ?_ ?_ _); rotate_left; focus (first | omega | (simp; done) | (simp; omega))) | ((with_reducible refine Below.alloc ?_ ?_ _); rotate_left; focus (first | omega | (simp; done) | (simp; omega)))))) n rfl (by omega) ?_)
        intro a3 cap3 w3 hm3 hb3 hz3
        have HM3 := Lib.hid hm3; clear hm3
        go_wp2_with fail
        go_ret
        rw [HPUT.out]
        exact ⟨_, _, by simp, HM3.out, by (repeat (first | with_reducible assumption | with_reducible exact Below.refl _ _ | with_reducible refine Below.drew ?_ | with_reducible refine belowDrewN ?_ _ | ((with_reducible refine Below.setCell ?_ ?_ _); rotate_left; focus (first | omega | (simp; done) | (simp; omega))) | ((with_reducible refine Below.alloc ?_ ?_ _); rotate_left; focus (first | omega | (simp; done) | (simp; omega))) | ((with_reducible refine Below.trans ?_ (Below.mono hb3 ?_)); rotate_left; focus (first | omega | (simp; done) | (simp; omega)))))⟩
theorem iPut_calls (a : Option Addr) (cap : Nat) (l : List Int) (n : Int) (w : World) (h : (M.sl a cap 1 3 (intM l)).In w) (hB : l.length ≤ 4000000) :
    Calls Try.prog 97 #[.slice a l.length cap, .int .i64 n] w (RetInts (put n l) w) := by
  have hl := Ints.len h
  have H := Lib.hid h; clear h
  go_enter Try.func97, Try.ntmps97
  go_wp2_with fail
  go_loopw [5,6,11] (fun t d i wr => ∃ (k : Nat) (a' : Option Addr) (cap' : Nat), k ≤ l.length ∧ i = .int .i64 k ∧ t = .slice a' (putSt n (l.take k)).1.length cap' ∧ d = .bool (putSt n (l.take k)).2 ∧ (M.sl a' cap' 1 3 (intM (putSt n (l.take k)).1)).Mine wr w.heap.size ∧ Below w.heap.size w wr ∧ w.heap.size ≤ wr.heap.size) (fun _ _ i _ => l.length - (intOf i).toNat)
  case atStart => exact ⟨0, _, _, Nat.zero_le _, rfl, rfl, rfl, by first | exact Ints.lit _ _ (Nat.le_refl _) | exact Ints.nil _ _, by (repeat (first | with_reducible assumption | with_reducible exact Below.refl _ _ | with_reducible refine Below.drew ?_ | with_reducible refine belowDrewN ?_ _ | ((with_reducible refine Below.setCell ?_ ?_ _); rotate_left; focus (first | omega | (simp; done) | (simp; omega))) | ((with_reducible refine Below.alloc ?_ ?_ _); rotate_left; focus (first | omega | (simp; done) | (simp; omega))))), by simp⟩
  case round =>
    obtain ⟨k, a', cap', hk, rfl, rfl, rfl, hm', hb, hsz⟩ := hrel
    have hnt := putSt_take n l k hk
    by_cases hlt : k < l.length
    · obtain ⟨b, off, x, rfl, hx, hc⟩ := Ints.elem (H.out.below hb) k hlt
      have hst := putSt_succ (n := n) hx
      generalize hgs : putSt n (l.take k) = st at *
      obtain ⟨o, dn⟩ := st
      simp only at hnt hm' hst
      have HX := Lib.hid hx; clear hx; have HM' := Lib.hid hm'; clear hm'; have HGS := Lib.hid hgs; clear hgs
      by_cases hd : dn = false ∧ n ≤ x
      · obtain ⟨rfl, hnx⟩ := hd
        have hge : n ≤ x := hnx
        by_cases hgt : n < x
        · have hfin : putSt n (l.take (k + 1)) = (o ++ [n] ++ [x], true) := by rw [hst]; simp [putStep, hnx, hgt]
          have HST := Lib.hid hst; clear hst; have HFIN := Lib.hid hfin; clear hfin
          go_wp2_with (at_builtin; refine wpInts_push rfl _ _ 24 rfl 3 _ Try.underlying24 infoI rfl w.heap.size a' cap' o rfl HM'.out hsz (by (repeat (first | with_reducible assumption | with_reducible exact Below.refl _ _ | with_reducible refine Below.drew ?_ | with_reducible refine belowDrewN ?_ _ | ((with_reducible refine Below.setCell ?_ ?_ _); rotate_left; focus (first | omega | (simp; done) | (simp; omega))) | ((with_reducible refine Below.alloc ?_ ?_ _); rotate_left; focus (first | omega | (simp; done) | (simp; omega)))))) n rfl (by omega) ?_)
          intro a3 cap3 w3 hm3 hb3 hz3
          have HM3 := Lib.hid hm3; clear hm3
          have hb3' := hb3
          go_wp2_with (at_builtin; refine wpInts_push rfl _ _ 24 rfl 3 _ Try.underlying24 infoI rfl w.heap.size a3 cap3 (o ++ [n]) (by simp [go_sem]) HM3.out (by omega) (by (repeat (first | with_reducible assumption | with_reducible exact Below.refl _ _ | with_reducible refine Below.drew ?_ | with_reducible refine belowDrewN ?_ _ | ((with_reducible refine Below.setCell ?_ ?_ _); rotate_left; focus (first | omega | (simp; done) | (simp; omega))) | ((with_reducible refine Below.alloc ?_ ?_ _); rotate_left; focus (first | omega | (simp; done) | (simp; omega)))))) x rfl (by simp; omega) ?_)
          intro a4 cap4 w4 hm4 hb4 hz4
          have HM4 := Lib.hid hm4; clear hm4
          go_wp2_with fail
          go_roundw
          case rel => exact ⟨k + 1, a4, cap4, by omega, by go_num, by simp [HFIN.out], by simp [HFIN.out], by rw [HFIN.out]; simpa using HM4.out, by (repeat (first | with_reducible assumption | with_reducible exact Below.refl _ _ | with_reducible refine Below.drew ?_ | with_reducible refine belowDrewN ?_ _ | ((with_reducible refine Below.setCell ?_ ?_ _); rotate_left; focus (first | omega | (simp; done) | (simp; omega))) | ((with_reducible refine Below.alloc ?_ ?_ _); rotate_left; focus (first | omega | (simp; done) | (simp; omega))) | ((with_reducible refine Below.trans ?_ (Below.mono hb3 ?_)); rotate_left; focus (first | omega | (simp; done) | (simp; omega))) | ((with_reducible refine Below.trans ?_ (Below.mono hb4 ?_)); rotate_left; focus (first | omega | (simp; done) | (simp; omega))))), by omega⟩
          case measure => simp [intOf]; omega
        · have hxe : x = n := by omega
          subst hxe
          have hfin : putSt x (l.take (k + 1)) = (o ++ [x], true) := by rw [hst]; simp [putStep]
          have HST := Lib.hid hst; clear hst; have HFIN := Lib.hid hfin; clear hfin
          go_wp2_with (at_builtin; refine wpInts_push rfl _ _ 24 rfl 3 _ Try.underlying24 infoI rfl w.heap.size a' cap' o rfl HM'.out hsz (by (repeat (first | with_reducible assumption | with_reducible exact Below.refl _ _ | with_reducible refine Below.drew ?_ | with_reducible refine belowDrewN ?_ _ | ((with_reducible refine Below.setCell ?_ ?_ _); rotate_left; focus (first | omega | (simp; done) | (simp; omega))) | ((with_reducible refine Below.alloc ?_ ?_ _); rotate_left; focus (first | omega | (simp; done) | (simp; omega)))))) x rfl (by omega) ?_)
          intro a3 cap3 w3 hm3 hb3 hz3
          have HM3 := Lib.hid hm3; clear hm3
          go_wp2_with fail
          go_roundw
          case rel => exact ⟨k + 1, a3, cap3, by omega, by go_num, by simp [HFIN.out], by simp [HFIN.out], by rw [HFIN.out]; exact HM3.out, by (repeat (first | with_reducible assumption | with_reducible exact Below.refl _ _ | with_reducible refine Below.drew ?_ | with_reducible refine belowDrewN ?_ _ | ((with_reducible refine Below.setCell ?_ ?_ _); rotate_left; focus (first | omega | (simp; done) | (simp; omega))) | ((with_reducible refine Below.alloc ?_ ?_ _); rotate_left; focus (first | omega | (simp; done) | (simp; omega))) | ((with_reducible refine Below.trans ?_ (Below.mono hb3 ?_)); rotate_left; focus (first | omega | (simp; done) | (simp; omega))))), by omega⟩
          case measure => simp [intOf]; omega
      · have hfin : putSt n (l.take (k + 1)) = (o ++ [x], dn) := by rw [hst]; unfold putStep; rw [if_neg hd]
        have HST := Lib.hid hst; clear hst; have HFIN := Lib.hid hfin; clear hfin
        cases dn with
        | true =>
          go_wp2_with (at_builtin; refine wpInts_push rfl _ _ 24 rfl 3 _ Try.underlying24 infoI rfl w.heap.size a' cap' o rfl HM'.out hsz (by (repeat (first | with_reducible assumption | with_reducible exact Below.refl _ _ | with_reducible refine Below.drew ?_ | with_reducible refine belowDrewN ?_ _ | ((with_reducible refine Below.setCell ?_ ?_ _); rotate_left; focus (first | omega | (simp; done) | (simp; omega))) | ((with_reducible refine Below.alloc ?_ ?_ _); rotate_left; focus (first | omega | (simp; done) | (simp; omega)))))) x rfl (by omega) ?_)
          intro a3 cap3 w3 hm3 hb3 hz3
          have HM3 := Lib.hid hm3; clear hm3
          go_wp2_with fail
          go_roundw
          case rel => exact ⟨k + 1, a3, cap3, by omega, by go_num, by simp [HFIN.out], by simp [HFIN.out], by rw [HFIN.out]; exact HM3.out, by (repeat (first | with_reducible assumption | with_reducible exact Below.refl _ _ | with_reducible refine Below.drew ?_ | with_reducible refine belowDrewN ?_ _ | ((with_reducible refine Below.setCell ?_ ?_ _); rotate_left; focus (first | omega | (simp; done) | (simp; omega))) | ((with_reducible refine Below.alloc ?_ ?_ _); rotate_left; focus (first | omega | (simp; done) | (simp; omega))) | ((with_reducible refine Below.trans ?_ (Below.mono hb3 ?_)); rotate_left; focus (first | omega | (simp; done) | (simp; omega))))), by omega⟩
          case measure => simp [intOf]; omega
        | false =>
          have hxl : x < n := by simp at hd; omega
          clear hd
          go_wp2_with (at_builtin; refine wpInts_push rfl _ _ 24 rfl 3 _ Try.underlying24 infoI rfl w.heap.size a' cap' o rfl HM'.out hsz (by (repeat (first | with_reducible assumption | with_reducible exact Below.refl _ _ | with_reducible refine Below.drew ?_ | with_reducible refine belowDrewN ?_ _ | ((with_reducible refine Below.setCell ?_ ?_ _); rotate_left; focus (first | omega | (simp; done) | (simp; omega))) | ((with_reducible refine Below.alloc ?_ ?_ _); rotate_left; focus (first | omega | (simp; done) | (simp; omega)))))) x rfl (by omega) ?_)
          intro a3 cap3 w3 hm3 hb3 hz3
          have HM3 := Lib.hid hm3; clear hm3
          go_wp2_with fail
          go_roundw
          case rel => exact ⟨k + 1, a3, cap3, by omega, by go_num, by simp [HFIN.out], by simp [HFIN.out], by rw [HFIN.out]; exact HM3.out, by (repeat (first | with_reducible assumption | with_reducible exact Below.refl _ _ | with_reducible refine Below.drew ?_ | with_reducible refine belowDrewN ?_ _ | ((with_reducible refine Below.setCell ?_ ?_ _); rotate_left; focus (first | omega | (simp; done) | (simp; omega))) | ((with_reducible refine Below.alloc ?_ ?_ _); rotate_left; focus (first | omega | (simp; done) | (simp; omega))) | ((with_reducible refine Below.trans ?_ (Below.mono hb3 ?_)); rotate_left; focus (first | omega | (simp; done) | (simp; omega))))), by omega⟩
          case measure => simp [intOf]; omega
    · have hk2 : k = l.length := by omega
      subst hk2
      rw [List.take_length] at *
      have hput : put n l = if (putSt n l).2 = true then (putSt n l).1 else (putSt n l).1 ++ [n] := rfl
      generalize hgs : putSt n l = st at *
      obtain ⟨o, dn⟩ := st
      simp only at hnt hm' hput
      have HM' := Lib.hid hm'; clear hm'; have HGS := Lib.hid hgs; clear hgs
      cases dn with
      | true =>
        rw [if_pos rfl] at hput
        have HPUT := Lib.hid hput; clear hput
        go_wp2_with fail
        go_ret
        rw [HPUT.out]
        exact ⟨_, _, rfl, HM'.out, hb⟩
      | false =>
        rw [if_neg (by decide)] at hput
        have HPUT := Lib.hid hput; clear hput
        go_wp2_with (at_builtin; refine wpInts_push rfl _ _ 24 rfl 3 _ Try.underlying24 infoI rfl w.heap.size a' cap' o rfl HM'.out hsz (by (repeat (first | with_reducible assumption | with_reducible exact Below.refl _ _ | with_reducible refine Below.drew ?_ | with_reducible refine belowDrewN ?_ _ | ((with_reducible refine Below.setCell ?_ ?_ _); rotate_left; focus (first | omega | (simp; done) | (simp; omega))) | ((with_reducible refine Below.alloc ?_ ?_ _); rotate_left; focus (first | omega | (simp; done) | (simp; omega)))))) n rfl (by omega) ?_)
        intro a3 cap3 w3 hm3 hb3 hz3
        have HM3 := Lib.hid hm3; clear hm3
        go_wp2_with fail
        go_ret
        rw [HPUT.out]
        exact ⟨_, _, by simp, HM3.out, by (repeat (first | with_reducible assumption | with_reducible exact Below.refl _ _ | with_reducible refine Below.drew ?_ | with_reducible refine belowDrewN ?_ _ | ((with_reducible refine Below.setCell ?_ ?_ _); rotate_left; focus (first | omega | (simp; done) | (simp; omega))) | ((with_reducible refine Below.alloc ?_ ?_ _); rotate_left; focus (first | omega | (simp; done) | (simp; omega))) | ((with_reducible refine Below.trans ?_ (Below.mono hb3 ?_)); rotate_left; focus (first | omega | (simp; done) | (simp; omega)))))⟩
end Go.Proofs.Ytghbnehocggnnaa

/-
  Walks: WithScope, FlippedScope. No condition.
-/
set_option linter.unusedVariables false
set_option linter.unusedSimpArgs false
set_option maxRecDepth 100000
namespace Go.Proofs.Ytghbnehocggnnaa
open Go.RowKit

theorem RetInts.mono {l : List Int} {w w1 : World} {e : Ending} {w' : World} (h : RetInts l w1 e w') (hb : Below w.heap.size w w1) : RetInts l w e w' := by
  obtain ⟨a, c, rfl, hm, hb1⟩ := h
  exact ⟨a, c, rfl, hm.mono hb.size, hb.trans (hb1.mono hb.size)⟩

def dropN (n : Int) (l : List Int) : List Int := l.filter fun x => decide (¬ x = n)
theorem dropN_length (n : Int) (l : List Int) : (dropN n l).length ≤ l.length := List.length_filter_le ..
theorem dropN_take (n : Int) (l : List Int) (k : Nat) : (dropN n (l.take k)).length ≤ k := Nat.le_trans (dropN_length _ _) (by simp; omega)
theorem dropN_yes {n : Int} {l : List Int} {k : Nat} {x : Int} (hx : l[k]? = some x) (h : ¬ x = n) : dropN n (l.take (k + 1)) = dropN n (l.take k) ++ [x] := by
  rw [take_snoc hx, dropN, dropN, List.filter_append]; simp [h]
theorem dropN_no {n : Int} {l : List Int} {k : Nat} {x : Int} (hx : l[k]? = some x) (h : x = n) : dropN n (l.take (k + 1)) = dropN n (l.take k) := by
  rw [take_snoc hx, dropN, dropN, List.filter_append]; simp [h]
def flipL (l : List Int) (n : Int) : List Int := if hasB l n = true then dropN n l else put n l
def flipS (l : List Int) (n : Int) : List Int := if ssB l = true ∧ ¬ kindS n = 0 then flipL l n else l
theorem flipL_length (l : List Int) (n : Int) : (flipL l n).length ≤ 2 * l.length + 1 := by
  unfold flipL; split
  · have := dropN_length n l; omega
  · exact put_length n l
theorem flipS_length (l : List Int) (n : Int) : (flipS l n).length ≤ 2 * l.length + 1 := by
  unfold flipS; split
  · exact flipL_length l n
  · omega

theorem iWithout_calls (a : Option Addr) (cap : Nat) (l : List Int) (n : Int) (w : World) (h : (M.sl a cap 1 3 (intM l)).In w) (hB : l.length ≤ 4000000) :
    Calls Try.prog 115 #[.slice a l.length cap, .int .i64 n] w (RetInts (dropN n l) w) := by
  have hl := Ints.len h
  have H := Lib.hid h; clear h
  go_enter Try.func115, Try.ntmps115
  go_wp2_with fail
  go_loopw [5, 10] (fun t i wr => ∃ (k : Nat) (a' : Option Addr) (cap' : Nat), k ≤ l.length ∧ i = .int .i64 k ∧ t = .slice a' (dropN n (l.take k)).length cap' ∧ (M.sl a' cap' 1 3 (intM (dropN n (l.take k)))).Mine wr w.heap.size ∧ Below w.heap.size w wr ∧ w.heap.size ≤ wr.heap.size) (fun _ i _ => l.length - (intOf i).toNat)
  case atStart => exact ⟨0, _, _, Nat.zero_le _, rfl, rfl, Ints.nil _ _, by (repeat (first | with_reducible assumption | with_reducible exact Below.refl _ _ | with_reducible refine Below.drew ?_ | with_reducible refine belowDrewN ?_ _ | ((with_reducible refine Below.setCell ?_ ?_ _); rotate_left; focus (first | omega | (simp; done) | (simp; omega))) | ((with_reducible refine Below.alloc ?_ ?_ _); rotate_left; focus (first | omega | (simp; done) | (simp; omega))))), by simp⟩
  case round =>
    obtain ⟨k, a', cap', hk, rfl, rfl, hm', hb, hsz⟩ := hrel
    have hnt := dropN_take n l k
    by_cases hlt : k < l.length
    · obtain ⟨b, off, x, rfl, hx, hc⟩ := Ints.elem (H.out.below hb) k hlt
      by_cases hq : x = n
      · have hfin := dropN_no (n := n) hx hq
        have HX := Lib.hid hx; clear hx; have HM' := Lib.hid hm'; clear hm'; have HFIN := Lib.hid hfin; clear hfin
        go_wp2_with fail
        go_roundw
        case rel => exact ⟨k + 1, a', cap', by omega, by go_num, by simp [HFIN.out], by rw [HFIN.out]; exact HM'.out, hb, hsz⟩
        case measure => simp [intOf]; omega
      · have hfin := dropN_yes (n := n) hx hq
        have HX := Lib.hid hx; clear hx; have HM' := Lib.hid hm'; clear hm'; have HFIN := Lib.hid hfin; clear hfin
        go_wp2_with (at_builtin; refine wpInts_push rfl _ _ 24 rfl 3 _ Try.underlying24 infoI rfl w.heap.size a' cap' (dropN n (l.take k)) rfl HM'.out hsz (by (repeat (first | with_reducible assumption | with_reducible exact Below.refl _ _ | with_reducible refine Below.drew ?_ | with_reducible refine belowDrewN ?_ _ | ((with_reducible refine Below.setCell ?_ ?_ _); rotate_left; focus (first | omega | (simp; done) | (simp; omega))) | ((with_reducible refine Below.alloc ?_ ?_ _); rotate_left; focus (first | omega | (simp; done) | (simp; omega)))))) x rfl (by omega) ?_)
        intro a3 cap3 w3 hm3 hb3 hz3
        have HM3 := Lib.hid hm3; clear hm3
        go_wp2_with fail
        go_roundw
        case rel => exact ⟨k + 1, a3, cap3, by omega, by go_num, by simp [HFIN.out], by rw [HFIN.out]; exact HM3.out, by (repeat (first | with_reducible assumption | with_reducible exact Below.refl _ _ | with_reducible refine Below.drew ?_ | with_reducible refine belowDrewN ?_ _ | ((with_reducible refine Below.setCell ?_ ?_ _); rotate_left; focus (first | omega | (simp; done) | (simp; omega))) | ((with_reducible refine Below.alloc ?_ ?_ _); rotate_left; focus (first | omega | (simp; done) | (simp; omega))) | ((with_reducible refine Below.trans ?_ (Below.mono hb3 ?_)); rotate_left; focus (first | omega | (simp; done) | (simp; omega))))), by omega⟩
        case measure => simp [intOf]; omega
    · have hk2 : k = l.length := by omega
      subst hk2
      rw [List.take_length] at *
      have HM' := Lib.hid hm'; clear hm'
      go_wp2_with fail
      go_ret
      exact ⟨_, _, rfl, HM'.out, hb⟩
theorem iFlippedScope_calls (a : Option Addr) (cap : Nat) (l : List Int) (n : Int) (w : World) (h : (M.sl a cap 1 3 (intM l)).In w) (hB : l.length ≤ 4000000) :
    Calls Try.prog 99 #[.slice a l.length cap, .int .i64 n] w (RetInts (flipS l n) w) := by
  have H := Lib.hid h; clear h
  go_enter Try.func99, Try.ntmps99
  go_wp2_with fail
  refine (iIsScopeSet_calls a cap l _ H.out).mono ?_
  rintro e w1 ⟨rfl, hb1⟩
  obtain ⟨hc1, hf1⟩ := bcell hb1; have hz1 := hb1.size; (try simp only [World.size_alloc, World.size_setCell, World.size_drew, sizeDrewN] at hz1 hc1 hf1)
  cases hs : ssB l with
  | false =>
    go_wp2_with fail
    refine (icopyInts_calls a cap l _ (H.out.below (by (repeat (first | with_reducible assumption | with_reducible exact Below.refl _ _ | with_reducible refine Below.drew ?_ | with_reducible refine belowDrewN ?_ _ | ((with_reducible refine Below.setCell ?_ ?_ _); rotate_left; focus (first | omega | (simp; done) | (simp; omega))) | ((with_reducible refine Below.alloc ?_ ?_ _); rotate_left; focus (first | omega | (simp; done) | (simp; omega))) | ((with_reducible refine Below.trans ?_ (Below.mono hb1 ?_)); rotate_left; focus (first | omega | (simp; done) | (simp; omega))))))) (by omega)).mono ?_
    rintro e w2 ⟨a2, c2, rfl, hm2, hb2⟩
    obtain ⟨hc2, hf2⟩ := bcell hb2; have hz2 := hb2.size; (try simp only [World.size_alloc, World.size_setCell, World.size_drew, sizeDrewN] at hz2 hc2 hf2)
    have HM2 := Lib.hid hm2; clear hm2
    go_wp2_with fail
    go_ret
    rw [show flipS l n = l by simp [flipS, hs]]
    exact ⟨_, _, rfl, HM2.out.mono hz1, by (repeat (first | with_reducible assumption | with_reducible exact Below.refl _ _ | with_reducible refine Below.drew ?_ | with_reducible refine belowDrewN ?_ _ | ((with_reducible refine Below.setCell ?_ ?_ _); rotate_left; focus (first | omega | (simp; done) | (simp; omega))) | ((with_reducible refine Below.alloc ?_ ?_ _); rotate_left; focus (first | omega | (simp; done) | (simp; omega))) | ((with_reducible refine Below.trans ?_ (Below.mono hb1 ?_)); rotate_left; focus (first | omega | (simp; done) | (simp; omega))) | ((with_reducible refine Below.trans ?_ (Below.mono hb2 ?_)); rotate_left; focus (first | omega | (simp; done) | (simp; omega)))))⟩
  | true =>
    go_wp2_with fail
    refine (iKindOfScope_ret n _).mono ?_
    rintro e w2 ⟨rfl, hb2⟩
    obtain ⟨hc2, hf2⟩ := bcell hb2; have hz2 := hb2.size; (try simp only [World.size_alloc, World.size_setCell, World.size_drew, sizeDrewN] at hz2 hc2 hf2)
    by_cases hk : kindS n = 0
    · go_wp2_with fail
      refine (icopyInts_calls a cap l _ (H.out.below (by (repeat (first | with_reducible assumption | with_reducible exact Below.refl _ _ | with_reducible refine Below.drew ?_ | with_reducible refine belowDrewN ?_ _ | ((with_reducible refine Below.setCell ?_ ?_ _); rotate_left; focus (first | omega | (simp; done) | (simp; omega))) | ((with_reducible refine Below.alloc ?_ ?_ _); rotate_left; focus (first | omega | (simp; done) | (simp; omega))) | ((with_reducible refine Below.trans ?_ (Below.mono hb1 ?_)); rotate_left; focus (first | omega | (simp; done) | (simp; omega))) | ((with_reducible refine Below.trans ?_ (Below.mono hb2 ?_)); rotate_left; focus (first | omega | (simp; done) | (simp; omega))))))) (by omega)).mono ?_
      rintro e w3 ⟨a2, c2, rfl, hm2, hb3⟩
      obtain ⟨hc3, hf3⟩ := bcell hb3; have hz3 := hb3.size; (try simp only [World.size_alloc, World.size_setCell, World.size_drew, sizeDrewN] at hz3 hc3 hf3)
      have HM2 := Lib.hid hm2; clear hm2
      go_wp2_with fail
      go_ret
      rw [show flipS l n = l by simp [flipS, hk]]
      exact ⟨_, _, rfl, HM2.out.mono (by omega), by (repeat (first | with_reducible assumption | with_reducible exact Below.refl _ _ | with_reducible refine Below.drew ?_ | with_reducible refine belowDrewN ?_ _ | ((with_reducible refine Below.setCell ?_ ?_ _); rotate_left; focus (first | omega | (simp; done) | (simp; omega))) | ((with_reducible refine Below.alloc ?_ ?_ _); rotate_left; focus (first | omega | (simp; done) | (simp; omega))) | ((with_reducible refine Below.trans ?_ (Below.mono hb1 ?_)); rotate_left; focus (first | omega | (simp; done) | (simp; omega))) | ((with_reducible refine Below.trans ?_ (Below.mono hb2 ?_)); rotate_left; focus (first | omega | (simp; done) | (simp; omega))) | ((with_reducible refine Below.trans ?_ (Below.mono hb3 ?_)); rotate_left; focus (first | omega | (simp; done) | (simp; omega)))))⟩
    · go_wp2_with fail
      refine (iHasScope_calls a cap l n _ (H.out.below (by (repeat (first | with_reducible assumption | with_reducible exact Below.refl _ _ | with_reducible refine Below.drew ?_ | with_reducible refine belowDrewN ?_ _ | ((with_reducible refine Below.setCell ?_ ?_ _); rotate_left; focus (first | omega | (simp; done) | (simp; omega))) | ((with_reducible refine Below.alloc ?_ ?_ _); rotate_left; focus (first | omega | (simp; done) | (simp; omega))) | ((with_reducible refine Below.trans ?_ (Below.mono hb1 ?_)); rotate_left; focus (first | omega | (simp; done) | (simp; omega))) | ((with_reducible refine Below.trans ?_ (Below.mono hb2 ?_)); rotate_left; focus (first | omega | (simp; done) | (simp; omega)))))))).mono ?_
      rintro e w3 ⟨rfl, rfl⟩
      cases hh : hasB l n with
      | false =>
        go_wp2_with fail
        refine (iPut_calls a cap l n _ (H.out.below (by (repeat (first | with_reducible assumption | with_reducible exact Below.refl _ _ | with_reducible refine Below.drew ?_ | with_reducible refine belowDrewN ?_ _ | ((with_reducible refine Below.setCell ?_ ?_ _); rotate_left; focus (first | omega | (simp; done) | (simp; omega))) | ((with_reducible refine Below.alloc ?_ ?_ _); rotate_left; focus (first | omega | (simp; done) | (simp; omega))) | ((with_reducible refine Below.trans ?_ (Below.mono hb1 ?_)); rotate_left; focus (first | omega | (simp; done) | (simp; omega))) | ((with_reducible refine Below.trans ?_ (Below.mono hb2 ?_)); rotate_left; focus (first | omega | (simp; done) | (simp; omega))))))) (by omega)).mono ?_
        rintro e w3 ⟨a2, c2, rfl, hm2, hb3⟩
        obtain ⟨hc3, hf3⟩ := bcell hb3; have hz3 := hb3.size; (try simp only [World.size_alloc, World.size_setCell, World.size_drew, sizeDrewN] at hz3 hc3 hf3)
        have HM2 := Lib.hid hm2; clear hm2
        go_wp2_with fail
        go_ret
        rw [show flipS l n = put n l by simp [flipS, hs, hk, flipL, hh]]
        exact ⟨_, _, rfl, HM2.out.mono (by omega), by (repeat (first | with_reducible assumption | with_reducible exact Below.refl _ _ | with_reducible refine Below.drew ?_ | with_reducible refine belowDrewN ?_ _ | ((with_reducible refine Below.setCell ?_ ?_ _); rotate_left; focus (first | omega | (simp; done) | (simp; omega))) | ((with_reducible refine Below.alloc ?_ ?_ _); rotate_left; focus (first | omega | (simp; done) | (simp; omega))) | ((with_reducible refine Below.trans ?_ (Below.mono hb1 ?_)); rotate_left; focus (first | omega | (simp; done) | (simp; omega))) | ((with_reducible refine Below.trans ?_ (Below.mono hb2 ?_)); rotate_left; focus (first | omega | (simp; done) | (simp; omega))) | ((with_reducible refine Below.trans ?_ (Below.mono hb3 ?_)); rotate_left; focus (first | omega | (simp; done) | (simp; omega)))))⟩
      | true =>
        go_wp2_with fail
        refine (iWithout_calls a cap l n _ (H.out.below (by (repeat (first | with_reducible assumption | with_reducible exact Below.refl _ _ | with_reducible refine Below.drew ?_ | with_reducible refine belowDrewN ?_ _ | ((with_reducible refine Below.setCell ?_ ?_ _); rotate_left; focus (first | omega | (simp; done) | (simp; omega))) | ((with_reducible refine Below.alloc ?_ ?_ _); rotate_left; focus (first | omega | (simp; done) | (simp; omega))) | ((with_reducible refine Below.trans ?_ (Below.mono hb1 ?_)); rotate_left; focus (first | omega | (simp; done) | (simp; omega))) | ((with_reducible refine Below.trans ?_ (Below.mono hb2 ?_)); rotate_left; focus (first | omega | (simp; done) | (simp; omega))))))) (by omega)).mono ?_
        rintro e w3 ⟨a2, c2, rfl, hm2, hb3⟩
        obtain ⟨hc3, hf3⟩ := bcell hb3; have hz3 := hb3.size; (try simp only [World.size_alloc, World.size_setCell, World.size_drew, sizeDrewN] at hz3 hc3 hf3)
        have HM2 := Lib.hid hm2; clear hm2
        go_wp2_with fail
        go_ret
        rw [show flipS l n = dropN n l by simp [flipS, hs, hk, flipL, hh]]
        exact ⟨_, _, rfl, HM2.out.mono (by omega), by (repeat (first | with_reducible assumption | with_reducible exact Below.refl _ _ | with_reducible refine Below.drew ?_ | with_reducible refine belowDrewN ?_ _ | ((with_reducible refine Below.setCell ?_ ?_ _); rotate_left; focus (first | omega | (simp; done) | (simp; omega))) | ((with_reducible refine Below.alloc ?_ ?_ _); rotate_left; focus (first | omega | (simp; done) | (simp; omega))) | ((with_reducible refine Below.trans ?_ (Below.mono hb1 ?_)); rotate_left; focus (first | omega | (simp; done) | (simp; omega))) | ((with_reducible refine Below.trans ?_ (Below.mono hb2 ?_)); rotate_left; focus (first | omega | (simp; done) | (simp; omega))) | ((with_reducible refine Below.trans ?_ (Below.mono hb3 ?_)); rotate_left; focus (first | omega | (simp; done) | (simp; omega)))))⟩
end Go.Proofs.Ytghbnehocggnnaa

/-
  Scopes mapped, in plain terms. No condition. (printed by wip/tools/mkms.py)
-/
set_option linter.unusedVariables false
set_option linter.unusedSimpArgs false
set_option maxRecDepth 100000
namespace Go.Proofs.Ytghbnehocggnnaa
open Go.RowKit

/-- Owned data whose blocks lie in lo..hi and are not g. -/
structure M.Free (m : M) (lo hi g : Nat) (w : World) : Prop where
  mine : m.Mine w lo
  lt : ∀ b ∈ m.blocks, b < hi ∧ b ≠ g
  hi : hi ≤ w.heap.size
theorem M.Free.keep {m : M} {lo hi g : Nat} {w w' : World} (h : m.Free lo hi g w) (hs : hi ≤ w'.heap.size) (hk : ∀ b, lo ≤ b → b < hi → b ≠ g → w'.heap[b]? = w.heap[b]?) : m.Free lo hi g w' :=
  ⟨⟨M.Own.frame m h.mine.own fun b hb => hk b (h.mine.lt b hb).1 (h.lt b hb).1 (h.lt b hb).2, h.mine.dup⟩, h.lt, hs⟩
def mapX (F : List Int → List Int) (k : Int) (x : List Int) : List Int := if k = 1 then F x else x
theorem mapX_one (F : List Int → List Int) (x : List Int) : mapX F 1 x = F x := by simp [mapX]
theorem mapX_other {k : Int} (h : ¬ k = 1) (F : List Int → List Int) (x : List Int) : mapX F k x = x := by simp [mapX, h]
mutual
def mapSyn (F : List Int → List Int) : Syn → Syn
  | .mk k n s x ds => .mk k n s (mapX F k x) (mapSynL F ds)
def mapSynL (F : List Int → List Int) : List Syn → List Syn
  | [] => []
  | d :: r => mapSyn F d :: mapSynL F r
end
theorem mapSynL_append (F : List Int → List Int) : ∀ (ds es : List Syn), mapSynL F (ds ++ es) = mapSynL F ds ++ mapSynL F es
  | [], es => by simp [mapSynL]
  | d :: r, es => by simp only [List.cons_append, mapSynL]; rw [mapSynL_append F r es]
theorem mapSynL_take {F : List Int → List Int} {ds : List Syn} {j : Nat} {k n : Int} {s : ByteArray} {x : List Int} {es : List Syn} (h : ds[j]? = some (.mk k n s x es)) : mapSynL F (ds.take (j + 1)) = mapSynL F (ds.take j) ++ [.mk k n s (mapX F k x) (mapSynL F es)] := by
  rw [take_snoc h, mapSynL_append]; simp [mapSynL, mapSyn]
theorem Syn.ok_items {k n : Int} {s : ByteArray} {x : List Int} {es : List Syn} (h : (Syn.mk k n s x es).ok) : Syn.okL es := h.2.2
theorem Syn.ok_set {k n : Int} {s : ByteArray} {x : List Int} {es : List Syn} (h : (Syn.mk k n s x es).ok) : ssB x = true := by
  have := h.2.1; simp only [scB, Bool.and_eq_true] at this; exact this.1
theorem mapX_length {F : List Int → List Int} (hF : ∀ x, (F x).length ≤ 2 * x.length + 1) (k : Int) (x : List Int) : (mapX F k x).length ≤ 2 * x.length + 1 := by
  unfold mapX; split
  · exact hF x
  · omega
theorem mapSynL_places {F : List Int → List Int} (hF : ∀ x, (F x).length ≤ 2 * x.length + 1) (ds : List Syn) : Syn.placesL (mapSynL F ds) ≤ 2 * Syn.placesL ds := by
  refine Syn.inductL (P := fun ds => Syn.placesL (mapSynL F ds) ≤ 2 * Syn.placesL ds) (fun ds ih => ?_) ds
  induction ds with
  | nil => simp [Syn.placesL, mapSynL]
  | cons d r ihr =>
    obtain ⟨k, n, s, x, es⟩ := d
    have h1 := ih k n s x es (List.mem_cons_self ..)
    have h2 := ihr fun k n s x es hm => ih k n s x es (List.mem_cons_of_mem _ hm)
    have h3 := mapX_length hF k x
    simp only [Syn.placesL, Syn.places, mapSynL, mapSyn] at *
    omega
theorem mapX_id (k : Int) (x : List Int) : mapX id k x = x := by simp [mapX]
theorem mapSynL_id (ds : List Syn) : mapSynL id ds = ds := by
  refine Syn.inductL (P := fun ds => mapSynL id ds = ds) (fun ds ih => ?_) ds
  induction ds with
  | nil => rfl
  | cons d r ihr =>
    obtain ⟨k, n, s, x, es⟩ := d
    have h1 := ih k n s x es (List.mem_cons_self ..)
    have h2 := ihr fun k n s x es hm => ih k n s x es (List.mem_cons_of_mem _ hm)
    simp only [mapSynL, mapSyn, mapX_id, h1, h2]
def flipTo (m : Int) (l : List Int) : List Int := flipL l m
def flipSo (m : Int) (l : List Int) : List Int := flipS l m
/-- two ways to map scopes that agree on sets of scopes agree on a right piece of syntax -/
theorem mapSynL_ok {F G : List Int → List Int} (hFG : ∀ x, ssB x = true → F x = G x) (ds : List Syn) (h : Syn.okL ds) : mapSynL F ds = mapSynL G ds := by
  revert h
  refine Syn.inductL (P := fun ds => Syn.okL ds → mapSynL F ds = mapSynL G ds) (fun ds ih => ?_) ds
  induction ds with
  | nil => intro _; rfl
  | cons d r ihr =>
    obtain ⟨k, n, s, x, es⟩ := d
    intro h
    have h1 := ih k n s x es (List.mem_cons_self ..) (Syn.ok_items h.1)
    have h2 := ihr (fun k n s x es hm => ih k n s x es (List.mem_cons_of_mem _ hm)) h.2
    have h3 := hFG x (Syn.ok_set h.1)
    simp only [mapSynL, mapSyn, mapX, h1, h2, h3]
/-- what changing the scopes of all identifiers hands back, if it may -/
noncomputable def mapGx (b : Bool) (F : List Int → List Int) (k : Int) (x : List Int) : List Int := if b = true then mapX F k x else x
noncomputable def mapGd (b : Bool) (F : List Int → List Int) (ds : List Syn) : List Syn := if b = true then mapSynL F ds else ds
theorem mapGx_yes (F : List Int → List Int) (k : Int) (x : List Int) : mapGx true F k x = mapX F k x := rfl
theorem mapGx_no (F : List Int → List Int) (k : Int) (x : List Int) : mapGx false F k x = x := rfl
theorem mapGd_yes (F : List Int → List Int) (ds : List Syn) : mapGd true F ds = mapSynL F ds := rfl
theorem mapGd_no (F : List Int → List Int) (ds : List Syn) : mapGd false F ds = ds := rfl
theorem mapG_places {F : List Int → List Int} (hF : ∀ x, (F x).length ≤ 2 * x.length + 1) (b : Bool) (k : Int) (x : List Int) (ds : List Syn) : (mapGx b F k x).length + Syn.placesL (mapGd b F ds) ≤ 2 * x.length + 1 + 2 * Syn.placesL ds := by
  cases b with
  | false => rw [mapGx_no, mapGd_no]; omega
  | true => rw [mapGx_yes, mapGd_yes]; have := mapX_length hF k x; have := mapSynL_places hF ds; omega
end Go.Proofs.Ytghbnehocggnnaa

/-
  Walks: copies of data, ListDatum. No condition.
-/
set_option linter.unusedVariables false
set_option linter.unusedSimpArgs false
set_option maxRecDepth 100000
namespace Go.Proofs.Ytghbnehocggnnaa
open Go.RowKit

end Go.Proofs.Ytghbnehocggnnaa

/-
  append as one step of a region that draws its order. No condition.
-/
set_option linter.unusedVariables false
namespace Go.Proofs.Ytghbnehocggnnaa
open Go.RowKit

theorem step_row {P : Program} (w : World) {ops : Array Oper} {o : Oper} {act : Act} {K : Act → World → Prop} {Q : Exit → Act → World → Prop} {E : Prop} (hgd : o.guard = none) (s x : Operand) (t : TypeId)
    (ho : o.op = .call { callee := .builtin .append, args := #[s, x], argTypes := #[t, t] })
    (e : TypeId) (z : Value) (size bytes : Nat) (ht : P.underlying t = some (.slice e)) (hinfo : (P.info? e).map (fun i => (i.zero, i.size, i.bytes)) = some (some z, size, bytes))
    (hzs : z.cells.size = size) (hsz : 0 < size)
    (base : Nat) (a : Option Addr) (n cap : Nat) (xs : List Value) (hs : act.eval s = .slice a n cap) (hown : w.ownsRow base e size (.slice a n cap) n xs)
    (ao : Option Addr) (m c : Nat) (news : List Value) (hx : act.eval x = .slice ao m c) (hl : news.length = m * size) (hno : ao = none → m = 0 ∧ c = 0)
    (hnews : ∀ ad, ao = some ad → ∀ (j : Nat) u, news[j]? = some u → w.cell? (ad.add j) = some u) (h1 : ∀ u ∈ news, u.oneCell' = true)
    (h63 : n + m ≤ maxLen) (hbytes : (n + m) * bytes ≤ 140737488355328) (hbase : base ≤ w.heap.size)
    (h : ∀ a' cap' w', w'.ownsRow base e size (.slice a' (n + m) cap') (n + m) (xs ++ news) → w.grownBy w' (Value.ownBlock (.slice a n cap)) → (∀ b ∈ addrBlocks a', b ∈ addrBlocks a ∨ w.heap.size ≤ b) →
      K (act.put o.dst (.slice a' (n + m) cap')) w') : if Region.wanted o (yielded ops act.tmps) = true then Oper.wp P o act w K Q else E := by
  have hw : Region.wanted o (yielded ops act.tmps) = true := by simp [Region.wanted, hgd]
  rw [if_pos hw]
  obtain ⟨i, hi, hz, hsize, hby⟩ := info_parts hinfo
  obtain ⟨a', cap', w', hr, h2, h3, h4⟩ := run_append_row (P := P) w base t o.type e i z size bytes ht hi hz hsize hby hzs hsz a n cap xs hown ao m c news hl hno hnews h1 h63 hbytes hbase
  unfold Oper.wp execOp
  simp only [ho, resolve, invoke, builtin, Sem.run_bind, Sem.run_pure, Result.andThen_ok, List.map_toArray, List.map_cons, List.map_nil, hs, hx, hr]
  exact h a' cap' w' h2 h3 h4

theorem step_push {P : Program} {wr w1 : World} {ops : Array Oper} {o : Oper} {act : Act} {K : Act → World → Prop} {Q : Exit → Act → World → Prop} {E : Prop} (hgd : o.guard = none) (s x : Operand) (t : TypeId)
    (ho : o.op = .call { callee := .builtin .append, args := #[s, x], argTypes := #[t, t] })
    (e : TypeId) (z : Value) (size bytes : Nat) (ht : P.underlying t = some (.slice e)) (hinfo : (P.info? e).map (fun i => (i.zero, i.size, i.bytes)) = some (some z, size, bytes))
    (hzs : z.cells.size = size) (hsz : 0 < size)
    (lo : Nat) (a : Option Addr) (cap : Nat) (xs : List M) (hs : act.eval s = .slice a xs.length cap) (hrow : (M.sl a cap size e xs).Mine wr lo) (hlo : lo ≤ wr.heap.size) (hb : Below wr.heap.size wr w1)
    (cs : Array Value) (m : M) (hmc : m.cells = cs.toList) (hml : cs.size = size) (c : Nat) (hm : m.Mine w1 c) (hc : wr.heap.size ≤ c)
    (hx : act.eval x = .slice (some ⟨w1.heap.size, 0, none⟩) 1 1) (h63 : xs.length + 1 ≤ maxLen) (hbytes : (xs.length + 1) * bytes ≤ 140737488355328)
    (h : ∀ a' cap' w', (M.sl a' cap' size e (xs ++ [m])).Mine w' lo → Below lo w1 w' → w1.heap.size ≤ w'.heap.size → (∀ b, b < w1.heap.size → b ∉ addrBlocks a → w'.heap[b]? = w1.heap[b]?) →
      K (act.put o.dst (.slice a' (xs.length + 1) cap')) w') : if Region.wanted o (yielded ops act.tmps) = true then Oper.wp P o act (w1.alloc (.cells cs e)) K Q else E := by
  have hsz1 := hb.size
  have hrw : (M.sl a cap size e xs).Mine (w1.alloc (.cells cs e)) lo := by
    refine M.Mine.keep hrow fun b h1 h2 => ?_
    rw [heapNew _ _ _ (by omega), hb.block b h2]
  have hmw : m.Mine (w1.alloc (.cells cs e)) lo := by
    refine M.Mine.mono (M.Mine.keep hm fun b h1 h2 => ?_) (by omega)
    rw [heapNew _ _ _ h2]
  have hlen : m.cells.length = size := by rw [hmc]; simpa using hml
  refine step_row _ hgd s x t ho e z size bytes ht hinfo hzs hsz lo a xs.length cap (M.cellsL xs) hs hrw.own.1.1 _ 1 1 m.cells hx (by omega) (by simp) ?_ ?_ h63 hbytes (by simp; omega) ?_
  · intro ad had j u hu
    obtain rfl := Option.some.inj had
    rw [addr_add, Nat.zero_add, World.cell?_alloc_new]
    rw [hmc] at hu
    simpa using hu
  · exact M.Own.one m hmw.own
  · intro a' cap' w' hr hg ha
    have hY : M.MineL (w1.alloc (.cells cs e)) lo [m] := ⟨⟨hmw.own, trivial⟩, by simpa [M.blocksL] using hmw.dup⟩
    have hp := M.Mine.push (ys := [m]) hrw (by simpa [M.cellsL] using hr) hg ha hY (by simpa using hlen) (fun b hb' => by
      have h1 := hm.lt b (by simpa [M.blocksL] using hb')
      have h2 : ∀ b' ∈ (M.sl a cap size e xs).blocks, b' < wr.heap.size := fun b' hb' => (hrow.lt b' hb').2
      exact ⟨fun hn => by have := h2 b (by simp [M.blocks, hn]); omega, fun hn => by have := h2 b (by simp [M.blocks, hn]); omega⟩)
    have hkeep : ∀ b, b < w1.heap.size → b ∉ addrBlocks a → w'.heap[b]? = w1.heap[b]? := fun b hb1 hn => by
      rw [hg.block b (by simp; omega) (fun he => hn (addrBlocks_own.1 he.symm)), heapNew _ _ _ hb1]
    have hgs := hg.size
    refine h a' cap' w' hp ?_ ?_ hkeep
    · have := grownBy_below (lo := lo) hg (B := lo) (by simp; omega) fun b hb => (Mine.addr_lo hrow b hb).1
      exact ⟨this.os, this.tape, this.output, by simp at hgs; omega, fun k hk => by rw [this.block k hk, heapNew _ _ _ (by omega)]⟩
    · simp at hgs; omega
end Go.Proofs.Ytghbnehocggnnaa

/-
  Walks: the reference's copy of data, ListDatum. No condition.
-/
set_option linter.unusedVariables false
set_option linter.unusedSimpArgs false
set_option maxRecDepth 100000
namespace Go.Proofs.Ytghbnehocggnnaa
open Go.RowKit

end Go.Proofs.Ytghbnehocggnnaa

/-
  Walks: the program's measure of a datum. No condition.
-/
set_option linter.unusedVariables false
set_option linter.unusedSimpArgs false
set_option maxRecDepth 100000
namespace Go.Proofs.Ytghbnehocggnnaa
open Go.RowKit

def MsOk (k n : Int) (s : ByteArray) (ds : List Dat) (D C : Int) : Prop := D + Dat.depthL ds ≤ 20 ∧ C + 1 + Dat.countL ds ≤ 600 ∧ (Dat.mk k n s ds).ok
def RetMs (ok : Prop) (C : Int) (m : Nat) (pb : Nat) (w : World) (e : Ending) (w' : World) : Prop :=
  ∃ (b : Bool) (C' : Int), e = .returned (.bool b) ∧ (b = true ↔ ok) ∧ (b = true → C' = C + m) ∧ C ≤ C' ∧ C' ≤ C + m ∧ w'.cell? ⟨pb, 0, none⟩ = some (.int .i64 C') ∧ w'.frozen? ⟨pb, 0, none⟩ = false ∧ OnlyIn pb (pb + 1) w w'
def MsDs (ds : List Dat) : Prop := ∀ (k n : Int) (s : ByteArray) (a : Option Addr) (cap : Nat) (ms : List M) (D : Int) (pb : Nat) (C : Int) (w0 w : World), (Dat.mk k n s ds).wf → Dat.countL ds ≤ 1000000000 → Dat.IsL 52 ds ms → (M.sl a cap 4 52 ms).In w0 →
    Below w0.heap.size w0 w → w0.heap.size ≤ pb → 0 ≤ D → D ≤ 1000000000 → 0 ≤ C → C ≤ 1000000000 → w.cell? ⟨pb, 0, none⟩ = some (.int .i64 C) → w.frozen? ⟨pb, 0, none⟩ = false →
    Calls Try.prog 105 #[.agg #[.int .i64 k, .int .i64 n, .string s, .slice a ms.length cap], .int .i64 D, .pointer (some ⟨pb, 0, none⟩)] w (RetMs (MsOk k n s ds D C) C (1 + Dat.countL ds) pb w)
theorem measure_calls : ∀ ds, MsDs ds := by
  refine Dat.inductL fun ds ih => ?_
  intro k n s a cap ms D pb C w0 w hwf hB hi hin hb0 hpb hD0 hD9 hC0 hC9 hp hpf
  have hl := hi.length
  have hcap := hin.len
  have hpw := World.block_lt_of_cell? w _ hp
  simp only at hpw
  have hs : s.size ≤ 9223372036854775807 := hwf.2.2.1
  have hwl := hwf.2.2.2
  have hok : MsOk k n s ds D C ↔ D + Dat.depthL ds ≤ 20 ∧ C + 1 + Dat.countL ds ≤ 600 ∧ nodeB k n s ms.length = true ∧ ∀ d ∈ ds, d.ok := by unfold MsOk; rw [Dat.ok_mk, ← hl]
  clear hwf
  have ho1 : OnlyIn pb (pb + 1) w (w.setCell ⟨pb, 0, none⟩ (.int .i64 (C + 1))) := (OnlyIn.refl pb (pb + 1) w).set ⟨pb, 0, none⟩ _ (Nat.le_refl _) (Nat.lt_succ_self _)
  by_cases hdeep : 20 < D
  · have hno : ¬ MsOk k n s ds D C := fun h => by have := h.1; omega
    have IH := Lib.hid ih; clear ih; have HIN := Lib.hid hin; clear hin; have HI := Lib.hid hi; clear hi; have HL := Lib.hid hl; clear hl; have HWL := Lib.hid hwl; clear hwl; have HOK := Lib.hid hok; clear hok; have HNO := Lib.hid hno; clear hno
    go_enter Try.func105, Try.ntmps105
    go_wp2_with fail
    go_ret
    refine ⟨false, C + 1, rfl, by simp [HNO.out], by simp, by omega, by omega, ?_, ?_, ?_⟩
    · simp (disch := (first | omega | (simp; omega))) [go_sem, hp]
    · simp (disch := (first | omega | (simp; omega))) [go_sem, hpf]
    · first | exact ho1 | exact ho1.new _
  · by_cases hmany : 600 < C + 1
    · have hno : ¬ MsOk k n s ds D C := fun h => by have := h.2.1; omega
      have IH := Lib.hid ih; clear ih; have HIN := Lib.hid hin; clear hin; have HI := Lib.hid hi; clear hi; have HL := Lib.hid hl; clear hl; have HWL := Lib.hid hwl; clear hwl; have HOK := Lib.hid hok; clear hok; have HNO := Lib.hid hno; clear hno
      go_enter Try.func105, Try.ntmps105
      go_wp2_with fail
      go_ret
      refine ⟨false, C + 1, rfl, by simp [HNO.out], by simp, by omega, by omega, ?_, ?_, ?_⟩
      · simp (disch := (first | omega | (simp; omega))) [go_sem, hp]
      · simp (disch := (first | omega | (simp; omega))) [go_sem, hpf]
      · first | exact ho1 | exact ho1.new _
    · cases hnode : nodeB k n s ms.length with
      | false =>
        have hno : ¬ MsOk k n s ds D C := fun h => by rw [hok, hnode] at h; simp at h
        have IH := Lib.hid ih; clear ih; have HIN := Lib.hid hin; clear hin; have HI := Lib.hid hi; clear hi; have HL := Lib.hid hl; clear hl; have HWL := Lib.hid hwl; clear hwl; have HOK := Lib.hid hok; clear hok; have HNO := Lib.hid hno; clear hno
        go_enter Try.func105, Try.ntmps105
        go_wp2_with fail
        refine (rightNode_calls k n s ms.length _ hs).mono ?_
        rintro e w1 ⟨rfl, rfl⟩
        go_wp2_with fail
        go_ret
        refine ⟨false, C + 1, rfl, by simp [HNO.out], by simp, by omega, by omega, ?_, ?_, ?_⟩
        · simp (disch := (first | omega | (simp; omega))) [go_sem, hp]
        · simp (disch := (first | omega | (simp; omega))) [go_sem, hpf]
        · first | exact ho1 | exact ho1.new _
      | true =>
        have IH := Lib.hid ih; clear ih; have HIN := Lib.hid hin; clear hin; have HI := Lib.hid hi; clear hi; have HL := Lib.hid hl; clear hl; have HWL := Lib.hid hwl; clear hwl; have HOK := Lib.hid hok; clear hok
        go_enter Try.func105, Try.ntmps105
        go_wp2_with fail
        refine (rightNode_calls k n s ms.length _ hs).mono ?_
        rintro e w1 ⟨rfl, rfl⟩
        go_wp2_with fail
        have hs' : (w.setCell ⟨pb, 0, none⟩ (.int .i64 (C + 1))).heap.size = w.heap.size := by simp
        go_loopw [38] (fun i wr => ∃ (j : Nat), j ≤ ms.length ∧ i = .int .i64 j ∧ D + Dat.depthL (ds.take j) ≤ 20 ∧ C + 1 + Dat.countL (ds.take j) ≤ 600 ∧ (∀ x ∈ ds.take j, x.ok) ∧ (wr.cell? ⟨pb, 0, none⟩ = some (.int .i64 (C + 1 + Dat.countL (ds.take j))) ∧ wr.frozen? ⟨pb, 0, none⟩ = false) ∧ OnlyIn pb (pb + 1) w wr ∧ w.heap.size + 1 ≤ wr.heap.size) (fun i _ => ms.length - (intOf i).toNat)
        case atStart =>
          refine ⟨0, Nat.zero_le _, rfl, by simp [Dat.depthL]; omega, by simp [Dat.countL]; omega, by simp, ?_, ho1.new _, by simp⟩
          simp (disch := (first | omega | (simp; omega))) [go_sem, hp, hpf, Dat.countL]
        case round =>
          obtain ⟨j, hj, rfl, hdp, hct, hpre, ⟨q, qf⟩, ho, hsz⟩ := hrel
          have hbz := ho.low hb0 hpb
          by_cases hlt : j < ms.length
          · obtain ⟨b, off, k1, n1, s1, ds1, a1, cap1, ms1, rfl, hd, hi1, hin1, c0, c1, c2, c3⟩ := Dat.elem HIN.out HI.out j hlt
            have hbl := World.block_lt_of_cell? w0 _ c0
            simp only at hbl
            have e0 := (hbz.cell (p := ⟨b, _, none⟩) hbl).trans c0
            have e1 := (hbz.cell (p := ⟨b, _, none⟩) hbl).trans c1
            have e2 := (hbz.cell (p := ⟨b, _, none⟩) hbl).trans c2
            have e3 := (hbz.cell (p := ⟨b, _, none⟩) hbl).trans c3
            clear c0 c1 c2 c3
            obtain ⟨ht, hle⟩ := Dat.countL_le ds j _ hd
            have htd := Dat.depthL_take hd
            have hgd := Dat.depthL_get hd
            have hw1 := Dat.wfL_get HWL.out hd
            have hmem := List.mem_of_getElem? hd
            simp only [Dat.count] at hle ht
            simp only [Dat.depth] at htd hgd
            have hD20 : D ≤ 20 := by omega
            have hbx := hbz.alloc (by first | exact hbz.size | omega) (.cells #[.int .i64 k1, .int .i64 n1, .string s1, .slice a1 ms1.length cap1] 52)
            generalize hCe : C + 1 + (Dat.countL (ds.take j) : Int) = C1 at *
            have hC1 : 0 ≤ C1 := by omega
            have hpr : pb < wr.heap.size := by omega
            have q1 : (wr.alloc (.cells #[.int .i64 k1, .int .i64 n1, .string s1, .slice a1 ms1.length cap1] 52)).cell? ⟨pb, 0, none⟩ = some (.int .i64 C1) := by simp (disch := (first | omega | (simp; omega))) [go_sem, q]
            have q1f : (wr.alloc (.cells #[.int .i64 k1, .int .i64 n1, .string s1, .slice a1 ms1.length cap1] 52)).frozen? ⟨pb, 0, none⟩ = false := by simp (disch := (first | omega | (simp; omega))) [go_sem, qf]
            have HD := Lib.hid hd; clear hd; have HI1 := Lib.hid hi1; clear hi1; have HIN1 := Lib.hid hin1; clear hin1; have HMEM := Lib.hid hmem; clear hmem; have HT := Lib.hid ht; clear ht; have HTD := Lib.hid htd; clear htd; have HGD := Lib.hid hgd; clear hgd; have HW1 := Lib.hid hw1; clear hw1; have HB0 := Lib.hid hb0; clear hb0; have HBZ := Lib.hid hbz; clear hbz; have HO := Lib.hid ho; clear ho; have HBX := Lib.hid hbx; clear hbx; have HPRE := Lib.hid hpre; clear hpre; have HCE := Lib.hid hCe; clear hCe; have Q1 := Lib.hid q1; clear q1; have Q1F := Lib.hid q1f; clear q1f
            go_wp2_with fail
            refine (IH.out k1 n1 s1 ds1 HMEM.out k1 n1 s1 a1 cap1 ms1 (D + 1) pb C1 w0 _ HW1.out (by omega) HI1.out HIN1.out HBX.out hpb (by omega) (by omega) hC1 (by omega) Q1.out Q1F.out).mono ?_
            rintro e w1 ⟨bb, C', rfl, hbb, hbc, hlo, hhi, q', qf', ho2⟩
            have hof := (HO.out.new (.cells #[.int .i64 k1, .int .i64 n1, .string s1, .slice a1 ms1.length cap1] 52)).trans ho2
            have hz2 := ho2.size
            simp only [World.size_alloc] at hz2
            cases bb with
            | true =>
              obtain ⟨m1, m2, m3⟩ := hbb.1 rfl
              have hcc := hbc rfl
              have hpre2 := ok_take HPRE.out HD.out m3
              have hdp2 : D + (Dat.depthL (ds.take (j + 1)) : Int) ≤ 20 := by rw [HTD.out]; omega
              have hct2 : C + 1 + (Dat.countL (ds.take (j + 1)) : Int) = C' := by rw [HT.out, hcc, ← HCE.out]; push_cast; omega
              have HOF := Lib.hid hof; clear hof; have HO2 := Lib.hid ho2; clear ho2; have HPRE2 := Lib.hid hpre2; clear hpre2; have HDP2 := Lib.hid hdp2; clear hdp2; have HBB := Lib.hid hbb; clear hbb; have HBC := Lib.hid hbc; clear hbc; have HCC := Lib.hid hcc; clear hcc; have M3 := Lib.hid m3; clear m3
              go_wp2_with fail
              go_roundw
              case rel => exact ⟨j + 1, by omega, by go_num, HDP2.out, by rw [hct2]; have := HCC.out; omega, HPRE2.out, ⟨by rw [hct2]; exact q', qf'⟩, HOF.out, by omega⟩
              case measure => simp [intOf]; omega
            | false =>
              have hno : ¬ MsOk k n s ds D C := fun h => by
                have h' := HOK.out.1 h
                have : ¬ MsOk k1 n1 s1 ds1 (D + 1) C1 := fun h2 => by have := hbb.2 h2; simp at this
                apply this
                refine ⟨?_, ?_, h'.2.2.2 _ HMEM.out⟩
                · have := HGD.out; omega
                · have := HCE.out; omega
              have hcl : C + ((1 + Dat.countL ds : Nat) : Int) = C + 1 + Dat.countL ds := by push_cast; omega
              have hce := HCE.out
              have HOF := Lib.hid hof; clear hof; have HO2 := Lib.hid ho2; clear ho2; have HBB := Lib.hid hbb; clear hbb; have HBC := Lib.hid hbc; clear hbc; have HNO := Lib.hid hno; clear hno
              go_wp2_with fail
              go_ret
              exact ⟨false, C', rfl, by simp [HNO.out], by simp, by omega, by push_cast at hhi ⊢; omega, q', qf', HOF.out⟩
          · have hk2 : j = ms.length := by omega
            subst hk2
            have hd2 : ds.take ms.length = ds := by rw [HL.out, List.take_length]
            rw [hd2] at q hdp hct hpre
            have hyes : MsOk k n s ds D C := HOK.out.2 ⟨hdp, hct, hnode, hpre⟩
            have HO := Lib.hid ho; clear ho; have HBZ := Lib.hid hbz; clear hbz; have HD2 := Lib.hid hd2; clear hd2; have HYES := Lib.hid hyes; clear hyes; have HPRE := Lib.hid hpre; clear hpre
            go_wp2_with fail
            go_ret
            exact ⟨true, _, rfl, by simp [HYES.out], fun _ => rfl, by push_cast; omega, Int.le_refl _, by rw [q]; congr 2; push_cast; omega, qf, HO.out⟩
end Go.Proofs.Ytghbnehocggnnaa

/-
  Walks: IsDatum. No condition.
-/
set_option linter.unusedVariables false
set_option linter.unusedSimpArgs false
set_option maxRecDepth 100000
namespace Go.Proofs.Ytghbnehocggnnaa
open Go.RowKit

def IsDatP (k n : Int) (s : ByteArray) (ds : List Dat) : Prop := 1 + Dat.countL ds ≤ 600 ∧ 1 + Dat.depthL ds ≤ 20 ∧ (Dat.mk k n s ds).ok
open Classical in
noncomputable def isDatB (k n : Int) (s : ByteArray) (ds : List Dat) : Bool := decide (IsDatP k n s ds)
theorem isDatB_yes {k n : Int} {s : ByteArray} {ds : List Dat} (h : IsDatP k n s ds) : isDatB k n s ds = true := by simp [isDatB, h]
theorem isDatB_no {k n : Int} {s : ByteArray} {ds : List Dat} (h : ¬ IsDatP k n s ds) : isDatB k n s ds = false := by simp [isDatB, h]

theorem iIsDatum_calls (k n : Int) (s : ByteArray) (ds : List Dat) (a : Option Addr) (cap : Nat) (ms : List M) (w : World) (hwf : (Dat.mk k n s ds).wf) (hB : Dat.countL ds ≤ 1000000000) (hi : Dat.IsL 52 ds ms) (hin : (M.sl a cap 4 52 ms).In w) :
    Calls Try.prog 71 #[.agg #[.int .i64 k, .int .i64 n, .string s, .slice a ms.length cap]] w (Ret (.bool (isDatB k n s ds)) w) := by
  have HI := Lib.hid hi; clear hi; have HIN := Lib.hid hin; clear hin; have HWF := Lib.hid hwf; clear hwf
  go_enter Try.func71, Try.ntmps71
  go_wp2_with fail
  refine (measure_calls ds k n s a cap ms 1 (w.heap.size + 1) 0 w _ HWF.out hB HI.out HIN.out (by (repeat (first | with_reducible assumption | with_reducible exact Below.refl _ _ | with_reducible refine Below.drew ?_ | with_reducible refine belowDrewN ?_ _ | ((with_reducible refine Below.setCell ?_ ?_ _); rotate_left; focus (first | omega | (simp; done) | (simp; omega))) | ((with_reducible refine Below.alloc ?_ ?_ _); rotate_left; focus (first | omega | (simp; done) | (simp; omega)))))) (by omega) (by omega) (by omega) (by omega) (by omega) (by simp [go_sem]) (by simp [go_sem])).mono ?_
  rintro e w1 ⟨bb, C', rfl, hbb, hbc, hlo, hhi, q', qf', ho2⟩
  have hbel : Below w.heap.size w w1 := ho2.low (by (repeat (first | with_reducible assumption | with_reducible exact Below.refl _ _ | with_reducible refine Below.drew ?_ | with_reducible refine belowDrewN ?_ _ | ((with_reducible refine Below.setCell ?_ ?_ _); rotate_left; focus (first | omega | (simp; done) | (simp; omega))) | ((with_reducible refine Below.alloc ?_ ?_ _); rotate_left; focus (first | omega | (simp; done) | (simp; omega)))))) (by omega)
  have hv : bb = isDatB k n s ds := by
    have hx : MsOk k n s ds 1 0 ↔ IsDatP k n s ds := by unfold MsOk IsDatP; constructor <;> (rintro ⟨h1, h2, h3⟩; exact ⟨by omega, by omega, h3⟩)
    cases bb with
    | true => exact (isDatB_yes (hx.1 (hbb.1 rfl))).symm
    | false => exact (isDatB_no fun h => by have := hbb.2 (hx.2 h); simp at this).symm
  have HBB := Lib.hid hbb; clear hbb; have HBC := Lib.hid hbc; clear hbc; have HO2 := Lib.hid ho2; clear ho2; have HBEL := Lib.hid hbel; clear hbel
  go_wp2_with fail
  go_ret
  exact ⟨rfl, HBEL.out⟩
theorem sIsDatum_calls (k n : Int) (s : ByteArray) (ds : List Dat) (a : Option Addr) (cap : Nat) (ms : List M) (w : World) (hwf : (Dat.mk k n s ds).wf) (hB : Dat.countL ds ≤ 1000000000) (hi : Dat.IsL 52 ds ms) (hin : (M.sl a cap 4 52 ms).In w) :
    Calls Try.prog 31 #[.agg #[.int .i64 k, .int .i64 n, .string s, .slice a ms.length cap]] w (Ret (.bool (isDatB k n s ds)) w) := by
  have hdl := Dat.depthL_le ds
  have HI := Lib.hid hi; clear hi; have HIN := Lib.hid hin; clear hin; have HWF := Lib.hid hwf; clear hwf
  go_enter Try.func31, Try.ntmps31
  go_wp2_with fail
  refine (l1Few_calls ds k n s a cap ms (w.heap.size + 1) 600 w _ hB HI.out HIN.out (by (repeat (first | with_reducible assumption | with_reducible exact Below.refl _ _ | with_reducible refine Below.drew ?_ | with_reducible refine belowDrewN ?_ _ | ((with_reducible refine Below.setCell ?_ ?_ _); rotate_left; focus (first | omega | (simp; done) | (simp; omega))) | ((with_reducible refine Below.alloc ?_ ?_ _); rotate_left; focus (first | omega | (simp; done) | (simp; omega)))))) (by omega) (by omega) (by omega) (by simp [go_sem]) (by simp [go_sem])).mono ?_
  rintro e w1 ⟨rfl, q', qf', ho1⟩
  obtain ⟨hc1, hf1⟩ := ocell ho1
  have hz1 := ho1.size
  simp only [World.size_alloc] at hz1 hc1
  have hb1 : Below w.heap.size w w1 := ho1.low (by (repeat (first | with_reducible assumption | with_reducible exact Below.refl _ _ | with_reducible refine Below.drew ?_ | with_reducible refine belowDrewN ?_ _ | ((with_reducible refine Below.setCell ?_ ?_ _); rotate_left; focus (first | omega | (simp; done) | (simp; omega))) | ((with_reducible refine Below.alloc ?_ ?_ _); rotate_left; focus (first | omega | (simp; done) | (simp; omega)))))) (by omega)
  have q0 : w1.cell? ⟨w.heap.size, 0, none⟩ = some (.int .i64 k) := by rw [hc1 _ _ (by omega) (by omega)]; simp [go_sem]
  have q1 : w1.cell? ⟨w.heap.size, 1, none⟩ = some (.int .i64 n) := by rw [hc1 _ _ (by omega) (by omega)]; simp [go_sem]
  have q2 : w1.cell? ⟨w.heap.size, 2, none⟩ = some (.string s) := by rw [hc1 _ _ (by omega) (by omega)]; simp [go_sem]
  have q3 : w1.cell? ⟨w.heap.size, 3, none⟩ = some (.slice a ms.length cap) := by rw [hc1 _ _ (by omega) (by omega)]; simp [go_sem]
  clear hc1 hf1
  have HO1 := Lib.hid ho1; clear ho1
  by_cases hfew : ((1 + Dat.countL ds : Nat) : Int) ≤ 600
  · have hpos : 0 ≤ few 600 (1 + Dat.countL ds) := by rw [few_pos hfew]; omega
    go_wp2_with fail
    refine (sDepthOf_calls ds k n s a cap ms _ (by omega) HI.out (HIN.out.below hb1)).mono ?_
    rintro e w2 ⟨rfl, hb2⟩
    obtain ⟨hc2, hf2⟩ := bcell hb2; have hz2 := hb2.size; (try simp only [World.size_alloc, World.size_setCell, World.size_drew, sizeDrewN] at hz2 hc2 hf2)
    have q0' := (hc2 _ _ (by omega)).trans q0
    have q1' := (hc2 _ _ (by omega)).trans q1
    have q2' := (hc2 _ _ (by omega)).trans q2
    have q3' := (hc2 _ _ (by omega)).trans q3
    by_cases hdp : ((1 + Dat.depthL ds : Nat) : Int) ≤ 20
    · go_wp2_with fail
      refine (l1Nodes_calls ds k n s a cap ms _ HWF.out HI.out (HIN.out.below (by (repeat (first | with_reducible assumption | with_reducible exact Below.refl _ _ | with_reducible refine Below.drew ?_ | with_reducible refine belowDrewN ?_ _ | ((with_reducible refine Below.setCell ?_ ?_ _); rotate_left; focus (first | omega | (simp; done) | (simp; omega))) | ((with_reducible refine Below.alloc ?_ ?_ _); rotate_left; focus (first | omega | (simp; done) | (simp; omega))) | ((with_reducible refine Below.trans ?_ (Below.mono hb1 ?_)); rotate_left; focus (first | omega | (simp; done) | (simp; omega))) | ((with_reducible refine Below.trans ?_ (Below.mono hb2 ?_)); rotate_left; focus (first | omega | (simp; done) | (simp; omega)))))))).mono ?_
      rintro e w3 ⟨rfl, hb3⟩
      obtain ⟨hc3, hf3⟩ := bcell hb3; have hz3 := hb3.size; (try simp only [World.size_alloc, World.size_setCell, World.size_drew, sizeDrewN] at hz3 hc3 hf3)
      have hv : (Dat.mk k n s ds).okB = isDatB k n s ds := by
        cases hq : (Dat.mk k n s ds).okB with
        | true => exact (isDatB_yes ⟨by omega, by omega, Dat.okB_true.1 hq⟩).symm
        | false => exact (isDatB_no fun h => Dat.okB_false.1 hq h.2.2).symm
      go_wp2_with fail
      go_ret
      exact ⟨rfl, by (repeat (first | with_reducible assumption | with_reducible exact Below.refl _ _ | with_reducible refine Below.drew ?_ | with_reducible refine belowDrewN ?_ _ | ((with_reducible refine Below.setCell ?_ ?_ _); rotate_left; focus (first | omega | (simp; done) | (simp; omega))) | ((with_reducible refine Below.alloc ?_ ?_ _); rotate_left; focus (first | omega | (simp; done) | (simp; omega))) | ((with_reducible refine Below.trans ?_ (Below.mono hb1 ?_)); rotate_left; focus (first | omega | (simp; done) | (simp; omega))) | ((with_reducible refine Below.trans ?_ (Below.mono hb2 ?_)); rotate_left; focus (first | omega | (simp; done) | (simp; omega))) | ((with_reducible refine Below.trans ?_ (Below.mono hb3 ?_)); rotate_left; focus (first | omega | (simp; done) | (simp; omega)))))⟩
    · have hno := isDatB_no (k := k) (n := n) (s := s) (ds := ds) fun h => hdp (by have := h.2.1; omega)
      have HNO := Lib.hid hno; clear hno
      go_wp2_with fail
      go_ret
      exact ⟨ret_b HNO.out.symm, by (repeat (first | with_reducible assumption | with_reducible exact Below.refl _ _ | with_reducible refine Below.drew ?_ | with_reducible refine belowDrewN ?_ _ | ((with_reducible refine Below.setCell ?_ ?_ _); rotate_left; focus (first | omega | (simp; done) | (simp; omega))) | ((with_reducible refine Below.alloc ?_ ?_ _); rotate_left; focus (first | omega | (simp; done) | (simp; omega))) | ((with_reducible refine Below.trans ?_ (Below.mono hb1 ?_)); rotate_left; focus (first | omega | (simp; done) | (simp; omega))) | ((with_reducible refine Below.trans ?_ (Below.mono hb2 ?_)); rotate_left; focus (first | omega | (simp; done) | (simp; omega)))))⟩
  · have hneg : ¬ 0 ≤ few 600 (1 + Dat.countL ds) := by rw [few_neg hfew]; omega
    have hno := isDatB_no (k := k) (n := n) (s := s) (ds := ds) fun h => hfew (by have := h.1; omega)
    have HNO := Lib.hid hno; clear hno
    go_wp2_with fail
    go_ret
    exact ⟨ret_b HNO.out.symm, by (repeat (first | with_reducible assumption | with_reducible exact Below.refl _ _ | with_reducible refine Below.drew ?_ | with_reducible refine belowDrewN ?_ _ | ((with_reducible refine Below.setCell ?_ ?_ _); rotate_left; focus (first | omega | (simp; done) | (simp; omega))) | ((with_reducible refine Below.alloc ?_ ?_ _); rotate_left; focus (first | omega | (simp; done) | (simp; omega))) | ((with_reducible refine Below.trans ?_ (Below.mono hb1 ?_)); rotate_left; focus (first | omega | (simp; done) | (simp; omega)))))⟩
end Go.Proofs.Ytghbnehocggnnaa
