/-
  Texts set together by wip/tools/merge.py: Mem, Dat, W1, W3, Open, Head, F1, At, W2, N1, N2, W4, W5, D1, N3, N4, Box. No condition beyond those told with each.
-/
import Derived.WalkKit
import Derived.WalkSpells
import Derived.Deep.QuietTactic
import Derived.BigQuiet
import Derived.Deep.LoopGhost
import Derived.Deep.RegionHeld3
import Derived.Lib.Hide
import Derived.Test.YtghbnehocggnnaaDoorProg
import Derived.ProofKit
import Derived.OpenShut
import Derived.ShutString
import Derived.ChangeOld
import Derived.ChangeArms
import Derived.Below
import Derived.Deep.Slices
import Derived.Test.YtghbnehocggnnaaDoorRows
import Derived.Lib.ItoaNum
import Derived.Lib.ItoaLen
/-
  What lies in memory: data with the addresses of their slices, what a call has made itself, append. No condition.
-/
set_option linter.unusedVariables false
set_option linter.unusedSimpArgs false
namespace Go.Proofs.YtghbnehocggnnaaDoor
open Go.RowKit

/-! ### Data in memory: a value with the addresses of its slices -/
inductive M where
  | c (v : Value)
  | sl (a : Option Addr) (cap sz : Nat) (e : TypeId) (xs : List M)
  | ag (xs : List M)

mutual
def M.cells : M → List Value
  | .c v => [v]
  | .sl a cap _ _ xs => [.slice a xs.length cap]
  | .ag xs => M.cellsL xs
def M.cellsL : List M → List Value
  | [] => []
  | x :: r => x.cells ++ M.cellsL r
end

def M.val : M → Value
  | .c v => v
  | .sl a cap _ _ xs => .slice a xs.length cap
  | .ag xs => .agg (M.cellsL xs).toArray

/-- The cells of a slice lie in the world. -/
structure HdrIn (w : World) (a : Option Addr) (cap sz n : Nat) (cs : List Value) : Prop where
  len : cs.length = n * sz
  pos : 0 < sz
  le : n ≤ cap
  max : cap ≤ maxLen
  nil : a = none → n = 0 ∧ cap = 0
  cell : ∀ ad, a = some ad → ∀ (j : Nat) u, cs[j]? = some u → w.cell? (ad.add j) = some u

mutual
def M.In (w : World) : M → Prop
  | .c _ => True
  | .sl a cap sz _ xs => (HdrIn w a cap sz xs.length (M.cellsL xs) ∧ ∀ x ∈ xs, x.cells.length = sz) ∧ M.InL w xs
  | .ag xs => M.InL w xs
def M.InL (w : World) : List M → Prop
  | [] => True
  | x :: r => x.In w ∧ M.InL w r
end

theorem M.InL_mem {w : World} {xs : List M} (h : M.InL w xs) : ∀ x ∈ xs, x.In w := by
  induction xs with
  | nil => intro x hx; cases hx
  | cons y r ih =>
    intro x hx
    rcases List.mem_cons.1 hx with rfl | hx
    · exact h.1
    · exact ih h.2 x hx

theorem M.InL_of {w : World} {xs : List M} (h : ∀ x ∈ xs, x.In w) : M.InL w xs := by
  induction xs with
  | nil => trivial
  | cons y r ih => exact ⟨h y (List.mem_cons_self ..), ih fun x hx => h x (List.mem_cons_of_mem _ hx)⟩

theorem M.cellsL_append (xs ys : List M) : M.cellsL (xs ++ ys) = M.cellsL xs ++ M.cellsL ys := by
  induction xs with
  | nil => rfl
  | cons x r ih => simp only [List.cons_append, M.cellsL, ih, List.append_assoc]

theorem M.cellsL_length {xs : List M} {sz : Nat} (h : ∀ x ∈ xs, x.cells.length = sz) : (M.cellsL xs).length = xs.length * sz := by
  induction xs with
  | nil => simp [M.cellsL]
  | cons x r ih =>
    simp only [M.cellsL, List.length_append, List.length_cons, h x (List.mem_cons_self ..), ih fun y hy => h y (List.mem_cons_of_mem _ hy)]
    rw [Nat.succ_mul]; omega

/-- element k's cells within the row -/
theorem M.cellsL_get {xs : List M} {sz : Nat} (h : ∀ x ∈ xs, x.cells.length = sz) (k : Nat) (hk : k < xs.length) (j : Nat) (hj : j < sz) :
    (M.cellsL xs)[k * sz + j]? = (xs[k]).cells[j]? := by
  induction xs generalizing k with
  | nil => simp at hk
  | cons x r ih =>
    have hx := h x (List.mem_cons_self ..)
    cases k with
    | zero =>
      simp only [M.cellsL, Nat.zero_mul, Nat.zero_add, List.getElem_cons_zero]
      rw [List.getElem?_append_left (by omega)]
    | succ k =>
      simp only [M.cellsL, List.getElem_cons_succ]
      rw [List.getElem?_append_right (by rw [hx, Nat.succ_mul]; omega), hx]
      rw [show (k + 1) * sz + j - sz = k * sz + j by rw [Nat.succ_mul]; omega]
      exact ih (fun y hy => h y (List.mem_cons_of_mem _ hy)) k (by simpa using hk)

theorem addr_add (b o k : Nat) : (⟨b, o, none⟩ : Addr).add k = ⟨b, o + k, none⟩ := by
  unfold Addr.add; split <;> simp_all

/-- A slice with an element has an address without a spot, and there its elements' cells lie. -/
theorem M.In.elem {w : World} {a : Option Addr} {cap sz : Nat} {e : TypeId} {xs : List M} (h : (M.sl a cap sz e xs).In w) (hne : 0 < xs.length) :
    ∃ b off, a = some ⟨b, off, none⟩ ∧ ∀ (k : Nat) (hk : k < xs.length) (j : Nat) (u : Value), (xs[k]).cells[j]? = some u → w.cell? ⟨b, off + (k * sz + j), none⟩ = some u := by
  obtain ⟨⟨hh, hu⟩, _⟩ := h
  cases a with
  | none => have := (hh.nil rfl).1; omega
  | some ad =>
    obtain ⟨b, off, spot⟩ := ad
    have hlen := M.cellsL_length hu
    have h0 : ∃ u, (M.cellsL xs)[0]? = some u := ⟨_, List.getElem?_eq_getElem (by rw [hlen]; exact Nat.mul_pos hne hh.pos)⟩
    obtain ⟨u0, h0⟩ := h0
    have hc := hh.cell _ rfl 0 u0 h0
    have hspot : spot = none := by
      cases spot with
      | none => rfl
      | some s =>
        simp [Addr.add, World.cell?] at hc
        split at hc <;> simp at hc
    subst hspot
    refine ⟨b, off, rfl, fun k hk j u hj => ?_⟩
    have hjs : j < sz := by
      have := (List.getElem?_eq_some_iff.1 hj).1
      rwa [hu _ (List.getElem_mem hk)] at this
    have := hh.cell _ rfl (k * sz + j) u (by rw [M.cellsL_get hu k hk j hjs]; exact hj)
    rwa [addr_add] at this

mutual
theorem M.In.frame {w w' : World} (hw : ∀ a v, w.cell? a = some v → w'.cell? a = some v) : ∀ m : M, m.In w → m.In w'
  | .c _, _ => trivial
  | .sl a cap sz e xs, ⟨⟨hh, hu⟩, hx⟩ => ⟨⟨⟨hh.len, hh.pos, hh.le, hh.max, hh.nil, fun ad had j u hj => hw _ _ (hh.cell ad had j u hj)⟩, hu⟩, M.InL.frame hw xs hx⟩
  | .ag xs, hx => M.InL.frame hw xs hx
theorem M.InL.frame {w w' : World} (hw : ∀ a v, w.cell? a = some v → w'.cell? a = some v) : ∀ xs : List M, M.InL w xs → M.InL w' xs
  | [], _ => trivial
  | x :: r, ⟨h1, h2⟩ => ⟨M.In.frame hw x h1, M.InL.frame hw r h2⟩
end

theorem M.In.below {w w' : World} {m : M} (h : m.In w) (hb : Below w.heap.size w w') : m.In w' :=
  M.In.frame (fun a v hc => (hb.cell (p := a) (World.block_lt_of_cell? w a hc)).trans hc) m h


/-! ### What a call has made itself -/
mutual
def M.Own (w : World) (lo : Nat) : M → Prop
  | .c v => v.oneCell' = true
  | .sl a cap sz e xs => (w.ownsRow lo e sz (.slice a xs.length cap) xs.length (M.cellsL xs) ∧ 0 < sz ∧ ∀ x ∈ xs, x.cells.length = sz) ∧ M.OwnL w lo xs
  | .ag xs => M.OwnL w lo xs
def M.OwnL (w : World) (lo : Nat) : List M → Prop
  | [] => True
  | x :: r => x.Own w lo ∧ M.OwnL w lo r
end

def addrBlocks : Option Addr → List Nat
  | none => []
  | some a => [a.block]

mutual
def M.blocks : M → List Nat
  | .c _ => []
  | .sl a _ _ _ xs => addrBlocks a ++ M.blocksL xs
  | .ag xs => M.blocksL xs
def M.blocksL : List M → List Nat
  | [] => []
  | x :: r => x.blocks ++ M.blocksL r
end

theorem M.blocksL_append (xs ys : List M) : M.blocksL (xs ++ ys) = M.blocksL xs ++ M.blocksL ys := by
  induction xs with
  | nil => rfl
  | cons x r ih => simp only [List.cons_append, M.blocksL, ih, List.append_assoc]

theorem M.OwnL_append {w : World} {lo : Nat} (xs ys : List M) : M.OwnL w lo (xs ++ ys) ↔ M.OwnL w lo xs ∧ M.OwnL w lo ys := by
  induction xs with
  | nil => simp [M.OwnL]
  | cons x r ih => simp only [List.cons_append, M.OwnL, ih, and_assoc]

theorem M.InL_append {w : World} (xs ys : List M) : M.InL w (xs ++ ys) ↔ M.InL w xs ∧ M.InL w ys := by
  induction xs with
  | nil => simp [M.InL]
  | cons x r ih => simp only [List.cons_append, M.InL, ih, and_assoc]

mutual
theorem M.Own.lt {w : World} {lo : Nat} : ∀ m : M, m.Own w lo → ∀ b ∈ m.blocks, lo ≤ b ∧ b < w.heap.size
  | .c _, _, b, hb => by simp [M.blocks] at hb
  | .sl a cap sz e xs, ⟨⟨hr, _⟩, hx⟩, b, hb => by
    simp only [M.blocks, List.mem_append] at hb
    rcases hb with hb | hb
    · refine hr.lt b ?_
      cases a with
      | none => simp [addrBlocks] at hb
      | some ad => simp [addrBlocks] at hb; simp [Value.ownBlock, hb]
    · exact M.OwnL.lt xs hx b hb
  | .ag xs, hx, b, hb => M.OwnL.lt xs hx b (by simpa [M.blocks] using hb)
theorem M.OwnL.lt {w : World} {lo : Nat} : ∀ xs : List M, M.OwnL w lo xs → ∀ b ∈ M.blocksL xs, lo ≤ b ∧ b < w.heap.size
  | [], _, b, hb => by simp [M.blocksL] at hb
  | x :: r, ⟨h1, h2⟩, b, hb => by
    simp only [M.blocksL, List.mem_append] at hb
    rcases hb with hb | hb
    · exact M.Own.lt x h1 b hb
    · exact M.OwnL.lt r h2 b hb
end

theorem ownsRow_frame {w w' : World} {lo sz n : Nat} {e : TypeId} {a : Option Addr} {cap : Nat} {cs : List Value} (h : w.ownsRow lo e sz (.slice a n cap) n cs)
    (hw : ∀ b ∈ addrBlocks a, w'.heap[b]? = w.heap[b]?) : w'.ownsRow lo e sz (.slice a n cap) n cs := by
  refine ⟨h.1, ?_⟩
  rcases h.2 with h2 | ⟨g, cap', cur, hv, hb, hg, r⟩
  · exact .inl h2
  · refine .inr ⟨g, cap', cur, hv, hb, ?_, r⟩
    simp at hv
    rw [hw g (by simp [hv.1, addrBlocks])]; exact hg

mutual
theorem M.Own.frame {w w' : World} {lo : Nat} : ∀ m : M, m.Own w lo → (∀ b ∈ m.blocks, w'.heap[b]? = w.heap[b]?) → m.Own w' lo
  | .c _, h, _ => h
  | .sl a cap sz e xs, ⟨⟨hr, h2⟩, hx⟩, hw => ⟨⟨ownsRow_frame hr fun b hb => hw b (by simp [M.blocks, hb]), h2⟩, M.OwnL.frame xs hx fun b hb => hw b (by simp [M.blocks, hb])⟩
  | .ag xs, hx, hw => M.OwnL.frame xs hx fun b hb => hw b (by simpa [M.blocks] using hb)
theorem M.OwnL.frame {w w' : World} {lo : Nat} : ∀ xs : List M, M.OwnL w lo xs → (∀ b ∈ M.blocksL xs, w'.heap[b]? = w.heap[b]?) → M.OwnL w' lo xs
  | [], _, _ => trivial
  | x :: r, ⟨h1, h2⟩, hw => ⟨M.Own.frame x h1 fun b hb => hw b (by simp [M.blocksL, hb]), M.OwnL.frame r h2 fun b hb => hw b (by simp [M.blocksL, hb])⟩
end

theorem M.Own.below {w w' : World} {lo : Nat} {m : M} (h : m.Own w lo) (hb : Below w.heap.size w w') : m.Own w' lo :=
  M.Own.frame m h fun b hm => hb.block b (M.Own.lt m h b hm).2
theorem M.OwnL.below {w w' : World} {lo : Nat} {xs : List M} (h : M.OwnL w lo xs) (hb : Below w.heap.size w w') : M.OwnL w' lo xs :=
  M.OwnL.frame xs h fun b hm => hb.block b (M.OwnL.lt xs h b hm).2

theorem ownsRow_mono {w : World} {lo lo' sz n : Nat} {e : TypeId} {v : Value} {cs : List Value} (h : w.ownsRow lo e sz v n cs) (hl : lo' ≤ lo) : w.ownsRow lo' e sz v n cs := by
  refine ⟨h.1, ?_⟩
  rcases h.2 with h2 | ⟨g, cap', cur, hv, hb, r⟩
  · exact .inl h2
  · exact .inr ⟨g, cap', cur, hv, by omega, r⟩
mutual
theorem M.Own.mono {w : World} {lo lo' : Nat} (hl : lo' ≤ lo) : ∀ m : M, m.Own w lo → m.Own w lo'
  | .c _, h => h
  | .sl _ _ _ _ xs, ⟨⟨hr, h2⟩, hx⟩ => ⟨⟨ownsRow_mono hr hl, h2⟩, M.OwnL.mono hl xs hx⟩
  | .ag xs, hx => M.OwnL.mono hl xs hx
theorem M.OwnL.mono {w : World} {lo lo' : Nat} (hl : lo' ≤ lo) : ∀ xs : List M, M.OwnL w lo xs → M.OwnL w lo' xs
  | [], _ => trivial
  | x :: r, ⟨h1, h2⟩ => ⟨M.Own.mono hl x h1, M.OwnL.mono hl r h2⟩
end

theorem ownsRow_hdr {w : World} {lo sz n : Nat} {e : TypeId} {a : Option Addr} {cap : Nat} {cs : List Value} (h : w.ownsRow lo e sz (.slice a n cap) n cs) (hs : 0 < sz) : HdrIn w a cap sz n cs := by
  rcases h.2 with ⟨hv, hn⟩ | ⟨g, cap', cur, hv, hb, hg, h1, h2, h3, h4⟩
  · simp at hv
    exact ⟨h.1, hs, by omega, by simp [hv], fun _ => ⟨hn, hv.2.2⟩, fun ad had => by simp [hv.1] at had⟩
  · simp at hv
    obtain ⟨rfl, rfl⟩ := hv
    refine ⟨h.1, hs, h1, h2, by simp, fun ad had j u hj => ?_⟩
    obtain rfl := Option.some.inj had
    exact h.cells (g := g) rfl j u hj

mutual
theorem M.Own.in_ {w : World} {lo : Nat} : ∀ m : M, m.Own w lo → m.In w
  | .c _, _ => trivial
  | .sl _ _ _ _ xs, ⟨⟨hr, hs, hu⟩, hx⟩ => ⟨⟨ownsRow_hdr hr hs, hu⟩, M.OwnL.in_ xs hx⟩
  | .ag xs, hx => M.OwnL.in_ xs hx
theorem M.OwnL.in_ {w : World} {lo : Nat} : ∀ xs : List M, M.OwnL w lo xs → M.InL w xs
  | [], _ => trivial
  | x :: r, ⟨h1, h2⟩ => ⟨M.Own.in_ x h1, M.OwnL.in_ r h2⟩
end

mutual
theorem M.Own.one {w : World} {lo : Nat} : ∀ m : M, m.Own w lo → ∀ u ∈ m.cells, u.oneCell' = true
  | .c v, h, u, hu => by simp [M.cells] at hu; subst hu; exact h
  | .sl _ _ _ _ _, _, u, hu => by simp [M.cells] at hu; subst hu; rfl
  | .ag xs, h, u, hu => M.OwnL.one xs h u (by simpa [M.cells] using hu)
theorem M.OwnL.one {w : World} {lo : Nat} : ∀ xs : List M, M.OwnL w lo xs → ∀ u ∈ M.cellsL xs, u.oneCell' = true
  | [], _, u, hu => by simp [M.cellsL] at hu
  | x :: r, ⟨h1, h2⟩, u, hu => by
    simp only [M.cellsL, List.mem_append] at hu
    rcases hu with hu | hu
    · exact M.Own.one x h1 u hu
    · exact M.OwnL.one r h2 u hu
end

/-- Its own, and no two slices of it in one block. -/
structure M.Mine (w : World) (lo : Nat) (m : M) : Prop where
  own : m.Own w lo
  dup : m.blocks.Nodup
structure M.MineL (w : World) (lo : Nat) (xs : List M) : Prop where
  own : M.OwnL w lo xs
  dup : (M.blocksL xs).Nodup

theorem M.Mine.below {w w' : World} {lo : Nat} {m : M} (h : m.Mine w lo) (hb : Below w.heap.size w w') : m.Mine w' lo := ⟨h.own.below hb, h.dup⟩
theorem M.Mine.in_ {w : World} {lo : Nat} {m : M} (h : m.Mine w lo) : m.In w := M.Own.in_ m h.own
theorem M.Mine.mono {w : World} {lo lo' : Nat} {m : M} (h : m.Mine w lo) (hl : lo' ≤ lo) : m.Mine w lo' := ⟨M.Own.mono hl m h.own, h.dup⟩
theorem M.Mine.lt {w : World} {lo : Nat} {m : M} (h : m.Mine w lo) : ∀ b ∈ m.blocks, lo ≤ b ∧ b < w.heap.size := M.Own.lt m h.own

theorem M.Mine.nil (w : World) (lo sz : Nat) (e : TypeId) (hs : 0 < sz) : (M.sl none 0 sz e []).Mine w lo :=
  ⟨⟨⟨World.ownsRow_nil w lo e sz, hs, by simp⟩, trivial⟩, by simp [M.blocks, addrBlocks, M.blocksL]⟩

/-! ### append -/
section
variable {P : Program} (w : World)

theorem run_append_row (base : Nat) (t ty e : TypeId) (i : TypeInfo) (z : Value) (size bytes : Nat) (ht : P.underlying t = some (.slice e)) (hi : P.info? e = some i) (hz : i.zero = some z)
    (hsize : i.size = size) (hby : i.bytes = bytes) (hzs : z.cells.size = size) (hsz : 0 < size)
    (a : Option Addr) (n cap : Nat) (xs : List Value) (hown : w.ownsRow base e size (.slice a n cap) n xs)
    (ao : Option Addr) (m c : Nat) (news : List Value) (hl : news.length = m * size) (hno : ao = none → m = 0 ∧ c = 0) (hnews : ∀ ad, ao = some ad → ∀ (j : Nat) u, news[j]? = some u → w.cell? (ad.add j) = some u) (h1 : ∀ u ∈ news, u.oneCell' = true)
    (h63 : n + m ≤ maxLen) (hbytes : (n + m) * bytes ≤ 140737488355328) (hbase : base ≤ w.heap.size) :
    ∃ a' cap' w', (Builtin.append_ #[t, t] ty #[.slice a n cap, .slice ao m c]).run P w = .ok (.slice a' (n + m) cap') w' ∧ w'.ownsRow base e size (.slice a' (n + m) cap') (n + m) (xs ++ news) ∧
      w.grownBy w' (Value.ownBlock (.slice a n cap)) ∧ (∀ b ∈ addrBlocks a', b ∈ addrBlocks a ∨ w.heap.size ≤ b) := by
  subst hsize
  subst hby
  have hsmall : n + m ≤ 9223372036854775807 := by simp only [maxLen] at h63; omega
  have hlen : (xs ++ news).length = (n + m) * i.size := by rw [List.length_append, hown.1, hl, Nat.add_mul]
  have grown : ∀ (old : Nat), old < n + m → ∀ (row : Option Nat),
      (w.drew.alloc (.cells (xs.toArray ++ news.toArray ++ Builtin.zeroCells z.cells (grownCap w (n + m) old e - (n + m))) e)).ownsRow base e i.size
        (.slice (some ⟨w.heap.size, 0, none⟩) (n + m) (grownCap w (n + m) old e)) (n + m) (xs ++ news) ∧
      w.grownBy (w.drew.alloc (.cells (xs.toArray ++ news.toArray ++ Builtin.zeroCells z.cells (grownCap w (n + m) old e - (n + m))) e)) row := by
    intro old ho row
    have hge := grownCap_ge w (n + m) old e
    have hcm : grownCap w (n + m) old e ≤ maxLen := grownCap_le_maxLen w (n + m) old e h63
    refine ⟨⟨hlen, .inr ⟨w.heap.size, _, _, rfl, hbase, heap_alloc_new w.drew _, hge, hcm, ?_, ?_⟩⟩, ⟨rfl, rfl, rfl, by simp, fun k hk _ => Below.heap_alloc w.drew _ k hk⟩⟩
    · simp only [Array.size_append, List.size_toArray, size_zeroCells, hzs, hown.1, hl, ← Nat.add_mul]
      congr 1
      omega
    · simp only [Array.toList_append, List.append_assoc]
      rw [← List.append_assoc, ← hlen]
      exact List.take_left
  cases ao with
  | none =>
    obtain ⟨rfl, rfl⟩ := hno rfl
    have hn : news = [] := List.eq_nil_of_length_eq_zero (by simpa using hl)
    subst hn
    have hr := run_append_owned_none (P := P) w base t ty e i i.size ht hi _ n xs hown
    exact ⟨a, cap, w, by simpa using hr, by simpa using hown, ⟨rfl, rfl, rfl, Nat.le_refl _, fun _ _ _ => rfl⟩, fun b hb => .inl hb⟩
  | some ad =>
    have hnews' := hnews ad rfl
    rcases hown.2 with ⟨hv, rfl⟩ | ⟨g, cap', cur, hv, hbg, hg, hnc, hcm, hcs, htake⟩
    · obtain ⟨rfl, rfl⟩ : a = none ∧ cap = 0 := by simpa using hv
      have hx : xs = [] := List.eq_nil_of_length_eq_zero (by simpa using hown.1)
      subst hx
      by_cases hm : m = 0
      · subst hm
        have hn : news = [] := List.eq_nil_of_length_eq_zero (by simpa using hl)
        subst hn
        refine ⟨none, 0, w, ?_, by simpa using World.ownsRow_nil w base e i.size, ⟨rfl, rfl, rfl, Nat.le_refl _, fun _ _ _ => rfl⟩, by simp [addrBlocks]⟩
        simp [Builtin.append_, run_underlying ht, sizeOf, typeInfo, hi, Builtin.lenOf, Builtin.firstCells, loadCells, loadCellsFrom]
      · have hr := run_append_nil (P := P) w t ty e i z ht hi hz ad m c news hl hnews' (by omega) (by omega) (by have hb := hbytes; simp only [Nat.zero_add] at hb; omega)
        have hgr := grown 0 (by omega) (Value.ownBlock (.slice none 0 0))
        simp only [Nat.zero_add, List.nil_append, Array.empty_append] at hgr ⊢
        exact ⟨_, _, _, hr, hgr.1, hgr.2, by simp [addrBlocks]⟩
    · obtain ⟨rfl, rfl⟩ : a = some ⟨g, 0, none⟩ ∧ cap = cap' := by simpa using hv
      by_cases hroom : n + m ≤ cap
      · have hfit : n * i.size + news.length ≤ cur.size := by rw [hl, hcs, ← Nat.add_mul]; exact Nat.mul_le_mul_right _ hroom
        have hr := run_append_room (P := P) w t ty e i ht hi g n cap cur hg ad m c news hl hnews' h1 hroom hfit
        refine ⟨_, _, _, hr, ⟨hlen, .inr ⟨g, cap, _, rfl, hbg, setRow_heap w g cur _ e _ hg, hroom, hcm, ?_, ?_⟩⟩, ⟨rfl, rfl, rfl, by simp, fun k _ hk => setRow_other w g k _ (fun e => hk (by simp [Value.ownBlock, e]))⟩, fun b hb => .inl hb⟩
        · simp only [List.size_toArray, List.length_append, List.length_take, List.length_drop, Array.length_toList]
          omega
        · rw [htake, ← hlen]
          exact List.take_left
      · have holds : ∀ j u, xs[j]? = some u → w.cell? ((⟨g, 0, none⟩ : Addr).add j) = some u := hown.cells (g := g) rfl
        have hr := run_append_grow (P := P) w t ty e i z ht hi hz ⟨g, 0, none⟩ n cap xs hown.1 holds ad m c news hl hnews' (by omega) (by omega) (growslice_fits (by omega) hbytes)
        have hgr := grown cap (by omega) (Value.ownBlock (.slice (some ⟨g, 0, none⟩) n cap))
        exact ⟨_, _, _, hr, hgr.1, hgr.2, by simp [addrBlocks]⟩
end

theorem addrBlocks_own {a : Option Addr} {n cap : Nat} {k : Nat} : Value.ownBlock (.slice a n cap) = some k ↔ k ∈ addrBlocks a := by
  cases a with
  | none => simp [Value.ownBlock, addrBlocks]
  | some ad => simp [Value.ownBlock, addrBlocks, eq_comm]

/-- append, the walk's law: a row of one's own grows by what lies in another slice. -/
theorem wpList_row {P : Program} (w : World) {ops : Array Oper} {rest : List Oper} {o : Oper} {act : Act} {Q : Exit → Act → World → Prop} (hgd : o.guard = none) (s x : Operand) (t : TypeId)
    (ho : o.op = .call { callee := .builtin .append, args := #[s, x], argTypes := #[t, t] })
    (e : TypeId) (z : Value) (size bytes : Nat) (ht : P.underlying t = some (.slice e)) (hinfo : (P.info? e).map (fun i => (i.zero, i.size, i.bytes)) = some (some z, size, bytes))
    (hzs : z.cells.size = size) (hsz : 0 < size)
    (base : Nat) (a : Option Addr) (n cap : Nat) (xs : List Value) (hs : act.eval s = .slice a n cap) (hown : w.ownsRow base e size (.slice a n cap) n xs)
    (ao : Option Addr) (m c : Nat) (news : List Value) (hx : act.eval x = .slice ao m c) (hl : news.length = m * size) (hno : ao = none → m = 0 ∧ c = 0)
    (hnews : ∀ ad, ao = some ad → ∀ (j : Nat) u, news[j]? = some u → w.cell? (ad.add j) = some u) (h1 : ∀ u ∈ news, u.oneCell' = true)
    (h63 : n + m ≤ maxLen) (hbytes : (n + m) * bytes ≤ 140737488355328) (hbase : base ≤ w.heap.size)
    (h : ∀ a' cap' w', w'.ownsRow base e size (.slice a' (n + m) cap') (n + m) (xs ++ news) → w.grownBy w' (Value.ownBlock (.slice a n cap)) → (∀ b ∈ addrBlocks a', b ∈ addrBlocks a ∨ w.heap.size ≤ b) →
      wpList P ops Q rest (act.put o.dst (.slice a' (n + m) cap')) w') : wpList P ops Q (o :: rest) act w := by
  obtain ⟨i, hi, hz, hsize, hby⟩ := info_parts hinfo
  refine wpList_plain hgd fun _ hK => ?_
  obtain ⟨a', cap', w', hr, h2, h3, h4⟩ := run_append_row (P := P) w base t o.type e i z size bytes ht hi hz hsize hby hzs hsz a n cap xs hown ao m c news hl hno hnews h1 h63 hbytes hbase
  unfold Oper.wp execOp
  simp only [ho, resolve, invoke, builtin, Sem.run_bind, Sem.run_pure, Result.andThen_ok, List.map_toArray, List.map_cons, List.map_nil, hs, hx, hr]
  exact hK _ _ (h a' cap' w' h2 h3 h4)

/-- One's own row, grown by elements of one's own that lie elsewhere. -/
theorem M.Mine.push {w w' : World} {lo : Nat} {a a' : Option Addr} {cap cap' sz : Nat} {e : TypeId} {xs ys : List M} (h : (M.sl a cap sz e xs).Mine w lo)
    (hr : w'.ownsRow lo e sz (.slice a' (xs.length + ys.length) cap') (xs.length + ys.length) (M.cellsL xs ++ M.cellsL ys))
    (hg : w.grownBy w' (Value.ownBlock (.slice a xs.length cap))) (ha : ∀ b ∈ addrBlocks a', b ∈ addrBlocks a ∨ w.heap.size ≤ b)
    (hy : M.MineL w lo ys) (hyl : ∀ y ∈ ys, y.cells.length = sz) (hdisj : ∀ b ∈ M.blocksL ys, b ∉ addrBlocks a ∧ b ∉ M.blocksL xs) : (M.sl a' cap' sz e (xs ++ ys)).Mine w' lo := by
  obtain ⟨⟨⟨hrow, hs, hu⟩, hx⟩, hd⟩ := h
  simp only [M.blocks] at hd
  rw [List.nodup_append] at hd
  obtain ⟨hd1, hd2, hd3⟩ := hd
  have keep : ∀ b, b < w.heap.size → b ∉ addrBlocks a → w'.heap[b]? = w.heap[b]? := fun b hb hn => hg.block b hb fun he => hn (addrBlocks_own.1 he.symm)
  have hxlt := M.OwnL.lt xs hx
  have hylt := M.OwnL.lt ys hy.own
  have hnx : ∀ b ∈ M.blocksL xs, b ∉ addrBlocks a := fun b hb hn => hd3 b hn b hb rfl
  refine ⟨⟨⟨?_, hs, ?_⟩, ?_⟩, ?_⟩
  · rw [M.cellsL_append, List.length_append]; exact hr
  · intro x hx
    rcases List.mem_append.1 hx with hx | hx
    · exact hu x hx
    · exact hyl x hx
  · rw [M.OwnL_append]
    exact ⟨M.OwnL.frame xs hx fun b hb => keep b (hxlt b hb).2 (hnx b hb), M.OwnL.frame ys hy.own fun b hb => keep b (hylt b hb).2 (hdisj b hb).1⟩
  · simp only [M.blocks, M.blocksL_append]
    rw [List.nodup_append]
    refine ⟨?_, ?_, ?_⟩
    · cases a' with
      | none => simp [addrBlocks]
      | some ad => simp [addrBlocks]
    · rw [List.nodup_append]
      exact ⟨hd2, hy.dup, fun b hb b' hb' he => (hdisj b' hb').2 (he ▸ hb)⟩
    · intro b hb b' hb' he
      subst he
      rcases List.mem_append.1 hb' with hb' | hb'
      · rcases ha b hb with h | h
        · exact hnx b hb' h
        · have := (hxlt b hb').2; omega
      · rcases ha b hb with h | h
        · exact (hdisj b hb').1 h
        · have := (hylt b hb').2; omega

theorem grownBy_below {w w' : World} {lo n cap : Nat} {a : Option Addr} {B : Nat} (hg : w.grownBy w' (Value.ownBlock (.slice a n cap))) (hB : B ≤ w.heap.size) (ha : ∀ b ∈ addrBlocks a, B ≤ b) : Below B w w' :=
  ⟨hg.os, hg.tape, hg.output, hg.size, fun k hk => hg.block k (by omega) fun he => by have := ha k (addrBlocks_own.1 he.symm); omega⟩

theorem Mine.addr_lo {w : World} {lo cap sz : Nat} {a : Option Addr} {e : TypeId} {xs : List M} (h : (M.sl a cap sz e xs).Mine w lo) : ∀ b ∈ addrBlocks a, lo ≤ b ∧ b < w.heap.size :=
  fun b hb => h.lt b (by simp [M.blocks, hb])


/-- Behind a call: what lay there before it reads as it did (two rules for the walk). -/
theorem bcell {W w1 : World} (hb : Below W.heap.size W w1) : (∀ b o, b < W.heap.size → w1.cell? ⟨b, o, none⟩ = W.cell? ⟨b, o, none⟩) ∧ (∀ b o, b < W.heap.size → w1.frozen? ⟨b, o, none⟩ = W.frozen? ⟨b, o, none⟩) :=
  ⟨fun b o h => hb.cell (p := ⟨b, o, none⟩) h, fun b o h => hb.frozen (p := ⟨b, o, none⟩) h⟩

theorem M.In.len {w : World} {a : Option Addr} {cap sz : Nat} {e : TypeId} {xs : List M} (h : (M.sl a cap sz e xs).In w) : xs.length ≤ cap ∧ cap ≤ 9223372036854775807 := by
  have h1 := h.1.1.le; have h2 := h.1.1.max; unfold maxLen at h2; omega


/-- What a cell holds that has just been written, if it is one. -/
@[go_sem] theorem cell?_setCell_eq (w : World) (a : Addr) (v : Value) : (w.setCell a v).cell? a = (w.cell? a).map fun _ => v := by
  cases h : w.cell? a with
  | some u => exact World.cell?_setCell_same w a v h
  | none =>
    simp only [Option.map_none]
    unfold World.cell? at h ⊢
    simp only [World.setCell, Array.getElem?_modify, ↓reduceIte]
    cases hb : w.heap[a.block]? with
    | none => simp
    | some o =>
      cases o <;> simp
      rename_i c e f
      simp only [hb] at h
      cases hs : a.spot with
      | some s => simp
      | none =>
        simp [hs] at h ⊢
        omega

theorem M.Mine.keep {w w' : World} {lo : Nat} {m : M} (h : m.Mine w lo) (hw : ∀ b, lo ≤ b → b < w.heap.size → w'.heap[b]? = w.heap[b]?) : m.Mine w' lo :=
  ⟨M.Own.frame m h.own fun b hb => hw b (h.lt b hb).1 (h.lt b hb).2, h.dup⟩
theorem heapSet (w : World) (a : Addr) (u : Value) (k : Nat) (h : k ≠ a.block) : (w.setCell a u).heap[k]? = w.heap[k]? := Below.heap_setCell w a u k h
theorem heapNew (w : World) (o : Obj) (k : Nat) (h : k < w.heap.size) : (w.alloc o).heap[k]? = w.heap[k]? := Below.heap_alloc w o k h
theorem heapDrew (w : World) (k : Nat) : w.drew.heap[k]? = w.heap[k]? := rfl

theorem M.Mine.c {w : World} {lo : Nat} {v : Value} (h : v.oneCell' = true) : (M.c v).Mine w lo := ⟨h, by simp [M.blocks]⟩

/-- 'out = append(out, x)': the row that a call builds, its world at the round's head 'wr'; x has been made since, and lies in a block of its own. -/
theorem wpList_push {P : Program} {wr w1 : World} {ops : Array Oper} {rest : List Oper} {o : Oper} {act : Act} {Q : Exit → Act → World → Prop} (hgd : o.guard = none) (s x : Operand) (t : TypeId)
    (ho : o.op = .call { callee := .builtin .append, args := #[s, x], argTypes := #[t, t] })
    (e : TypeId) (z : Value) (size bytes : Nat) (ht : P.underlying t = some (.slice e)) (hinfo : (P.info? e).map (fun i => (i.zero, i.size, i.bytes)) = some (some z, size, bytes))
    (hzs : z.cells.size = size) (hsz : 0 < size)
    (lo : Nat) (a : Option Addr) (cap : Nat) (xs : List M) (hs : act.eval s = .slice a xs.length cap) (hrow : (M.sl a cap size e xs).Mine wr lo) (hlo : lo ≤ wr.heap.size) (hb : Below wr.heap.size wr w1)
    (cs : Array Value) (m : M) (hmc : m.cells = cs.toList) (hml : cs.size = size) (c : Nat) (hm : m.Mine w1 c) (hc : wr.heap.size ≤ c)
    (hx : act.eval x = .slice (some ⟨w1.heap.size, 0, none⟩) 1 1) (h63 : xs.length + 1 ≤ maxLen) (hbytes : (xs.length + 1) * bytes ≤ 140737488355328)
    (h : ∀ a' cap' w', (M.sl a' cap' size e (xs ++ [m])).Mine w' lo → Below lo w1 w' → w1.heap.size ≤ w'.heap.size → (∀ b, b < w1.heap.size → b ∉ addrBlocks a → w'.heap[b]? = w1.heap[b]?) →
      wpList P ops Q rest (act.put o.dst (.slice a' (xs.length + 1) cap')) w') : wpList P ops Q (o :: rest) act (w1.alloc (.cells cs e)) := by
  have hsz1 := hb.size
  have hrw : (M.sl a cap size e xs).Mine (w1.alloc (.cells cs e)) lo := by
    refine M.Mine.keep hrow fun b h1 h2 => ?_
    rw [heapNew _ _ _ (by omega), hb.block b h2]
  have hmw : m.Mine (w1.alloc (.cells cs e)) lo := by
    refine M.Mine.mono (M.Mine.keep hm fun b h1 h2 => ?_) (by omega)
    rw [heapNew _ _ _ h2]
  have hlen : m.cells.length = size := by rw [hmc]; simpa using hml
  refine wpList_row _ hgd s x t ho e z size bytes ht hinfo hzs hsz lo a xs.length cap (M.cellsL xs) hs hrw.own.1.1 _ 1 1 m.cells hx (by omega) (by simp) ?_ ?_ h63 hbytes (by simp; omega) ?_
  · intro ad had j u hu
    obtain rfl := Option.some.inj had
    rw [addr_add, Nat.zero_add, World.cell?_alloc_new]
    rw [hmc] at hu
    simpa using hu
  · exact M.Own.one m hmw.own
  · intro a' cap' w' hr hg ha
    have hY : M.MineL (w1.alloc (.cells cs e)) lo [m] := ⟨⟨hmw.own, trivial⟩, by simpa [M.blocksL] using hmw.dup⟩
    have hp := M.Mine.push (ys := [m]) hrw (by simpa [M.cellsL] using hr) hg ha hY (by simpa using hlen) (fun b hb' => by
      have h1 := hm.lt b (by simpa [M.blocksL] using hb')
      have h2 : ∀ b' ∈ (M.sl a cap size e xs).blocks, b' < wr.heap.size := fun b' hb' => (hrow.lt b' hb').2
      exact ⟨fun hn => by have := h2 b (by simp [M.blocks, hn]); omega, fun hn => by have := h2 b (by simp [M.blocks, hn]); omega⟩)
    have hkeep : ∀ b, b < w1.heap.size → b ∉ addrBlocks a → w'.heap[b]? = w1.heap[b]? := fun b hb1 hn => by
      rw [hg.block b (by simp; omega) (fun he => hn (addrBlocks_own.1 he.symm)), heapNew _ _ _ hb1]
    have hgs := hg.size
    simp only [World.size_alloc] at hgs
    refine h a' cap' w' hp ⟨hg.os, hg.tape, hg.output, by omega, fun k hk => hkeep k (by omega) fun hn => ?_⟩ (by omega) hkeep
    have := (Mine.addr_lo hrow k hn).1
    omega

theorem belowDrewN {B : Nat} {a w : World} (h : Below B a w) (n : Nat) : Below B a (w.drewN n) := ⟨h.os, h.tape, h.output, h.size, h.block⟩
theorem _root_.Go.RowKit.Below.step {a b c : World} (h : Below a.heap.size a b) (k : Below b.heap.size b c) : Below a.heap.size a c := h.trans (k.mono h.size)
theorem heapDrewN (w : World) (n k : Nat) : (w.drewN n).heap[k]? = w.heap[k]? := rfl
theorem sizeDrewN (w : World) (n : Nat) : (w.drewN n).heap.size = w.heap.size := rfl
attribute [simp] sizeDrewN
theorem take_snoc {α : Type} {l : List α} {k : Nat} {x : α} (h : l[k]? = some x) : l.take (k + 1) = l.take k ++ [x] := by
  obtain ⟨hk, rfl⟩ := List.getElem?_eq_some_iff.1 h
  exact List.take_succ_eq_append_getElem hk

/-! ### Stores into a row of one's own -/
def setCells (w : World) (g : Nat) : Nat → List Value → World
  | _, [] => w
  | o, u :: us => setCells (w.setCell ⟨g, o, none⟩ u) g (o + 1) us

theorem setCells_size (g : Nat) : ∀ (us : List Value) (w : World) (o : Nat), (setCells w g o us).heap.size = w.heap.size
  | [], _, _ => rfl
  | u :: us, w, o => by rw [setCells, setCells_size g us]; simp
theorem setCells_other (g k : Nat) (hk : k ≠ g) : ∀ (us : List Value) (w : World) (o : Nat), (setCells w g o us).heap[k]? = w.heap[k]?
  | [], _, _ => rfl
  | u :: us, w, o => by rw [setCells, setCells_other g k hk us, heapSet _ _ _ _ hk]
theorem setCells_rest (g : Nat) : ∀ (us : List Value) (w : World) (o : Nat), (setCells w g o us).os = w.os ∧ (setCells w g o us).tape = w.tape ∧ (setCells w g o us).output = w.output
  | [], _, _ => ⟨rfl, rfl, rfl⟩
  | u :: us, w, o => by rw [setCells]; exact setCells_rest g us _ _
theorem setCells_heap (g : Nat) (e : TypeId) : ∀ (us : List Value) (w : World) (o : Nat) (cur : Array Value), w.heap[g]? = some (.cells cur e (0, 0)) → o + us.length ≤ cur.size →
    (setCells w g o us).heap[g]? = some (.cells (cur.toList.take o ++ us ++ cur.toList.drop (o + us.length)).toArray e (0, 0))
  | [], w, o, cur, hg, _ => by simp [setCells, hg]
  | u :: us, w, o, cur, hg, hl => by
    rw [setCells, setCells_heap g e us _ _ _ (heap_setCell_same w g o cur e u hg) (by simp at hl ⊢; omega)]
    congr 2
    simp only [List.length_cons] at hl
    apply Array.ext'
    simp only [Array.toList_setIfInBounds]
    have ho : o < cur.toList.length := by simp; omega
    rw [List.take_set, List.drop_set]
    rw [if_pos (by omega)]
    have h1 : (cur.toList.take (o + 1)).set o u = cur.toList.take o ++ [u] := by
      rw [List.take_succ_eq_append_getElem ho, List.set_append, List.length_take, Nat.min_eq_left (by omega), if_neg (by omega)]
      simp
    rw [h1, List.length_cons, show o + (us.length + 1) = o + 1 + us.length by omega]
    simp

theorem cellsL_set {sz : Nat} : ∀ (xs : List M) (k : Nat) (m : M), (∀ x ∈ xs, x.cells.length = sz) → k < xs.length → m.cells.length = sz →
    M.cellsL (xs.set k m) = (M.cellsL xs).take (k * sz) ++ m.cells ++ (M.cellsL xs).drop (k * sz + sz)
  | [], k, m, _, hk, _ => by simp at hk
  | x :: r, 0, m, hu, _, hm => by
    have hx := hu x (List.mem_cons_self ..)
    simp [M.cellsL, List.drop_append, hx]
  | x :: r, k + 1, m, hu, hk, hm => by
    have hx := hu x (List.mem_cons_self ..)
    have ih := cellsL_set r k m (fun y hy => hu y (List.mem_cons_of_mem _ hy)) (by simpa using hk) hm
    simp only [List.set_cons_succ, M.cellsL, ih]
    rw [List.take_append, List.drop_append, hx]
    rw [show (k + 1) * sz - sz = k * sz by rw [Nat.succ_mul]; omega, show (k + 1) * sz + sz - sz = k * sz + sz by rw [Nat.succ_mul]; omega]
    rw [List.take_of_length_le (l := x.cells) (by rw [hx, Nat.succ_mul]; omega), List.drop_of_length_le (l := x.cells) (by rw [hx, Nat.succ_mul]; omega)]
    simp

theorem mem_blocksL {b : Nat} {xs : List M} : b ∈ M.blocksL xs ↔ ∃ x ∈ xs, b ∈ x.blocks := by
  induction xs with
  | nil => simp [M.blocksL]
  | cons x r ih => simp [M.blocksL, ih]
theorem OwnL_iff {w : World} {lo : Nat} {xs : List M} : M.OwnL w lo xs ↔ ∀ x ∈ xs, x.Own w lo := by
  induction xs with
  | nil => simp [M.OwnL]
  | cons x r ih => simp [M.OwnL, ih]
theorem blocksL_nodup_set : ∀ (xs : List M) (k : Nat) (m : M), (M.blocksL xs).Nodup → m.blocks.Nodup → (∀ b ∈ m.blocks, (∀ h : k < xs.length, b ∈ (xs[k]).blocks) ∨ b ∉ M.blocksL xs) → (M.blocksL (xs.set k m)).Nodup
  | [], _, _, h, _, _ => by simpa using h
  | x :: r, 0, m, h, hm, hd => by
    simp only [M.blocksL, List.set_cons_zero] at h ⊢
    rw [List.nodup_append] at h ⊢
    refine ⟨hm, h.2.1, fun b hb b' hb' he => ?_⟩
    subst he
    rcases hd b hb with h1 | h1
    · exact h.2.2 b (h1 (by simp)) b hb' rfl
    · exact h1 (by simp [M.blocksL, hb'])
  | x :: r, k + 1, m, h, hm, hd => by
    simp only [M.blocksL, List.set_cons_succ] at h ⊢
    rw [List.nodup_append] at h ⊢
    refine ⟨h.1, blocksL_nodup_set r k m h.2.1 hm fun b hb => ?_, fun b hb b' hb' he => ?_⟩
    · rcases hd b hb with h1 | h1
      · exact .inl fun hk => by have := h1 (by simpa using hk); rwa [List.getElem_cons_succ] at this
      · exact .inr fun hn => h1 (by simp [M.blocksL, hn])
    · subst he
      obtain ⟨y, hy, hby⟩ := mem_blocksL.1 hb'
      rcases List.mem_or_eq_of_mem_set hy with hy | rfl
      · exact h.2.2 b hb b (mem_blocksL.2 ⟨y, hy, hby⟩) rfl
      · rcases hd b hby with h1 | h1
        · by_cases hk : k < r.length
          · have := h1 (by simpa using hk)
            simp only [List.getElem_cons_succ] at this
            exact h.2.2 b hb b (mem_blocksL.2 ⟨_, List.getElem_mem hk, this⟩) rfl
          · rw [List.set_eq_of_length_le (by omega)] at hy
            exact h.2.2 b hb b (mem_blocksL.2 ⟨_, hy, hby⟩) rfl
        · exact h1 (by simp [M.blocksL, hb])

/-- Element k of a row of one's own is written anew, cell by cell. -/
theorem M.Mine.setElem {w : World} {lo g cap sz : Nat} {e : TypeId} {xs : List M} (h : (M.sl (some ⟨g, 0, none⟩) cap sz e xs).Mine w lo) (k : Nat) (hk : k < xs.length) (m : M) (hmc : m.cells.length = sz) (hm : m.Mine w lo)
    (hdis : ∀ b ∈ m.blocks, b ≠ g ∧ (b ∈ (xs[k]).blocks ∨ b ∉ M.blocksL xs)) : (M.sl (some ⟨g, 0, none⟩) cap sz e (xs.set k m)).Mine (setCells w g (k * sz) m.cells) lo := by
  obtain ⟨⟨⟨hrow, hs, hu⟩, hx⟩, hd⟩ := h
  simp only [M.blocks] at hd
  rw [List.nodup_append] at hd
  obtain ⟨hd1, hd2, hd3⟩ := hd
  have hng : ∀ b ∈ M.blocksL xs, b ≠ g := fun b hb he => hd3 g (by simp [addrBlocks]) b hb he.symm
  have hlen := M.cellsL_length hu
  have hlen2 : (xs.set k m).length = xs.length := by simp
  have hu2 : ∀ x ∈ xs.set k m, x.cells.length = sz := fun x hx => by
    rcases List.mem_or_eq_of_mem_set hx with hx | rfl
    · exact hu x hx
    · exact hmc
  have hkb : k * sz + sz ≤ xs.length * sz := by rw [← Nat.succ_mul]; exact Nat.mul_le_mul_right _ hk
  refine ⟨⟨⟨?_, hs, hu2⟩, ?_⟩, ?_⟩
  · refine ⟨by rw [M.cellsL_length hu2], ?_⟩
    rcases hrow.2 with ⟨hv, _⟩ | ⟨g', cap', cur, hv, hb, hg, h1, h2, h3, h4⟩
    · simp at hv
    · simp only [Value.slice.injEq, Option.some.injEq, Addr.mk.injEq, true_and, and_true] at hv
      obtain ⟨rfl, rfl⟩ := hv
      have hcur : xs.length * sz ≤ cur.size := by rw [h3]; exact Nat.mul_le_mul_right _ h1
      have hh := setCells_heap g e m.cells w (k * sz) cur hg (by rw [hmc]; omega)
      rw [hlen2]
      refine .inr ⟨g, cap, _, rfl, hb, hh, h1, h2, ?_, ?_⟩
      · simp only [List.size_toArray, List.length_append, List.length_take, List.length_drop, Array.length_toList, hmc]; omega
      · rw [cellsL_set xs k m hu hk hmc, ← h4, hmc]
        simp only []
        have hA : k * sz ≤ xs.length * sz := by omega
        rw [List.take_take, Nat.min_eq_left hA, List.append_assoc, List.append_assoc]
        rw [List.take_append, List.length_take, List.take_take, Nat.min_eq_right hA]
        rw [Nat.min_eq_left (by simp; omega)]
        congr 1
        rw [List.take_append, hmc, List.take_of_length_le (by rw [hmc]; omega)]
        congr 1
        rw [List.drop_take]
        congr 1
        omega
  · rw [OwnL_iff] at hx ⊢
    intro x hx2
    rcases List.mem_or_eq_of_mem_set hx2 with h1 | rfl
    · exact M.Own.frame x (hx x h1) fun b hb => setCells_other g b (hng b (mem_blocksL.2 ⟨x, h1, hb⟩)) _ _ _
    · exact M.Own.frame x hm.own fun b hb => setCells_other g b (hdis b hb).1 _ _ _
  · simp only [M.blocks]
    rw [List.nodup_append]
    refine ⟨by simp [addrBlocks], blocksL_nodup_set xs k m hd2 hm.dup fun b hb => ?_, fun b hb b' hb' he => ?_⟩
    · rcases (hdis b hb).2 with h1 | h1
      · exact .inl fun _ => h1
      · exact .inr h1
    · simp [addrBlocks] at hb
      subst hb
      obtain ⟨y, hy, hby⟩ := mem_blocksL.1 hb'
      rcases List.mem_or_eq_of_mem_set hy with h1 | rfl
      · exact hng b' (mem_blocksL.2 ⟨y, h1, hby⟩) he.symm
      · exact (hdis b' hby).1 he.symm

theorem madeCells_rows (z : Array Value) (n : Nat) : (madeCells z (n * z.size)).toList = (List.replicate n z.toList).flatten := by
  unfold madeCells
  rw [Array.toList_map, Array.toList_range]
  induction n with
  | zero => simp
  | succ n ih =>
    rw [Nat.succ_mul, List.range_add, List.map_append, ih, List.replicate_succ', List.flatten_append]
    congr 1
    simp only [List.map_map, List.flatten_cons, List.flatten_nil, List.append_nil]
    apply List.ext_getElem
    · simp
    · intro i h1 h2
      have hi : i < z.size := by simpa using h2
      simp only [List.getElem_map, List.getElem_range, Function.comp_apply]
      rw [Nat.mul_add_mod_self_right, Nat.mod_eq_of_lt hi]
      simp [hi]
theorem cellsL_replicate (m : M) (n : Nat) : M.cellsL (List.replicate n m) = (List.replicate n m.cells).flatten := by
  induction n with
  | zero => rfl
  | succ n ih => simp [List.replicate_succ, M.cellsL, ih]
theorem blocksL_replicate (m : M) (n : Nat) (h : m.blocks = []) : M.blocksL (List.replicate n m) = [] := by
  induction n with
  | zero => rfl
  | succ n ih => simp [List.replicate_succ, M.blocksL, h, ih]
theorem set_take {α : Type} {l : List α} {k n : Nat} {x z : α} (hx : l[k]? = some x) (hn : n = l.length) : (l.take k ++ List.replicate (n - k) z).set k x = l.take (k + 1) ++ List.replicate (n - (k + 1)) z := by
  have hk := (List.getElem?_eq_some_iff.1 hx).1
  subst hn
  rw [List.set_append, List.length_take, Nat.min_eq_left (by omega), if_neg (by omega), Nat.sub_self]
  rw [show l.length - k = (l.length - (k + 1)) + 1 by omega, List.replicate_succ, List.set_cons_zero, take_snoc hx]
  simp
/-- A new row of n zero elements. -/
theorem M.Mine.made {w : World} {lo g n sz : Nat} {e : TypeId} {z : Array Value} (m : M) (hmz : m.cells = z.toList) (hsz : z.size = sz) (hp : 0 < sz) (hb : m.blocks = []) (hm : ∀ w' lo', m.Own w' lo')
    (hr : w.ownsRow lo e sz (.slice (some ⟨g, 0, none⟩) n n) n (madeCells z (n * sz)).toList) : (M.sl (some ⟨g, 0, none⟩) n sz e (List.replicate n m)).Mine w lo := by
  subst hsz
  rw [madeCells_rows, ← hmz, ← cellsL_replicate] at hr
  refine ⟨⟨⟨by simpa using hr, hp, ?_⟩, ?_⟩, ?_⟩
  · intro x hx; rw [List.eq_of_mem_replicate hx, hmz]; simp
  · rw [OwnL_iff]; intro x hx; rw [List.eq_of_mem_replicate hx]; exact hm _ _
  · simp [M.blocks, blocksL_replicate m n hb, addrBlocks]

/-- Of what was there only the blocks bs may have changed. -/
structure Only (bs : List Nat) (w w' : World) : Prop where
  os : w'.os = w.os
  tape : w'.tape = w.tape
  output : w'.output = w.output
  size : w.heap.size ≤ w'.heap.size
  block : ∀ k, k < w.heap.size → k ∉ bs → w'.heap[k]? = w.heap[k]?
theorem Only.refl (bs : List Nat) (w : World) : Only bs w w := ⟨rfl, rfl, rfl, Nat.le_refl _, fun _ _ _ => rfl⟩
theorem Only.trans {bs : List Nat} {a b c : World} (h : Only bs a b) (k : Only bs b c) : Only bs a c :=
  ⟨k.os.trans h.os, k.tape.trans h.tape, k.output.trans h.output, Nat.le_trans h.size k.size, fun i hi hn => (k.block i (Nat.lt_of_lt_of_le hi h.size) hn).trans (h.block i hi hn)⟩
theorem Only.of_below {bs : List Nat} {a b : World} (h : Below a.heap.size a b) : Only bs a b := ⟨h.os, h.tape, h.output, h.size, fun k hk _ => h.block k hk⟩
theorem Only.mono {bs cs : List Nat} {a b : World} (h : Only bs a b) (hs : ∀ x ∈ bs, x ∈ cs) : Only cs a b := ⟨h.os, h.tape, h.output, h.size, fun k hk hn => h.block k hk fun hb => hn (hs k hb)⟩
theorem Only.below {bs : List Nat} {a b : World} {B : Nat} (h : Only bs a b) (hB : B ≤ a.heap.size) (hs : ∀ x ∈ bs, B ≤ x) : Below B a b :=
  ⟨h.os, h.tape, h.output, h.size, fun k hk => h.block k (by omega) fun hb => by have := hs k hb; omega⟩
theorem Only.setCell {bs : List Nat} {a w : World} (h : Only bs a w) {p : Addr} (hp : p.block ∈ bs) (u : Value) : Only bs a (w.setCell p u) :=
  h.trans ⟨rfl, rfl, rfl, by simp, fun k _ hn => heapSet _ _ _ _ (fun e => hn (e ▸ hp))⟩
theorem Only.alloc {bs : List Nat} {a w : World} (h : Only bs a w) (o : Obj) : Only bs a (w.alloc o) := h.trans ⟨rfl, rfl, rfl, by simp, fun k hk _ => heapNew _ _ _ hk⟩
theorem Only.drewN {bs : List Nat} {a w : World} (h : Only bs a w) (n : Nat) : Only bs a (w.drewN n) := h.trans ⟨rfl, rfl, rfl, Nat.le_refl _, fun k hk _ => rfl⟩
theorem M.Mine.only {bs : List Nat} {w w' : World} {lo : Nat} {m : M} (h : m.Mine w lo) (k : Only bs w w') (hd : ∀ b ∈ m.blocks, b ∉ bs) : m.Mine w' lo :=
  ⟨M.Own.frame m h.own fun b hb => k.block b (h.lt b hb).2 (hd b hb), h.dup⟩

theorem M.Mine.new {w : World} {lo sz n : Nat} {e : TypeId} {cs : Array Value} {xs : List M} (hn : n = xs.length) (hlo : lo ≤ w.heap.size) (hc : M.cellsL xs = cs.toList) (hp : 0 < sz) (hu : ∀ x ∈ xs, x.cells.length = sz) (hm : n ≤ maxLen) (h : M.MineL w lo xs) :
    (M.sl (some ⟨w.heap.size, 0, none⟩) n sz e xs).Mine (w.alloc (.cells cs e)) lo := by
  subst hn
  have hlen := M.cellsL_length hu
  have hlt := M.OwnL.lt xs h.own
  refine ⟨⟨⟨⟨hlen, .inr ⟨w.heap.size, xs.length, cs, rfl, hlo, heap_alloc_new w _, Nat.le_refl _, hm, ?_, ?_⟩⟩, hp, hu⟩, ?_⟩, ?_⟩
  · rw [← hlen, hc]; simp
  · rw [← hlen, hc]; exact List.take_of_length_le (by simp)
  · exact M.OwnL.frame xs h.own fun b hb => heapNew _ _ _ (hlt b hb).2
  · simp only [M.blocks, addrBlocks]
    rw [List.nodup_append]
    exact ⟨by simp, h.dup, fun b hb b' hb' he => by simp at hb; subst hb; subst he; have := (hlt _ hb').2; omega⟩

theorem M.Mine.only_lt {bs : List Nat} {w w' : World} {lo : Nat} {m : M} (h : m.Mine w lo) (k : Only bs w w') (c : Nat) (h1 : ∀ b ∈ m.blocks, b < c) (h2 : ∀ b ∈ bs, c ≤ b) : m.Mine w' lo :=
  h.only k fun b hb hn => by have := h1 b hb; have := h2 b hn; omega
theorem M.Mine.lt_size {w : World} {lo : Nat} {m : M} (h : m.Mine w lo) : ∀ b ∈ m.blocks, b < w.heap.size := fun b hb => (h.lt b hb).2
theorem Only.lift {w w' : World} {lo cap sz B : Nat} {a : Option Addr} {e : TypeId} {xs : List M} (h : Only (addrBlocks a) w w') (hm : (M.sl a cap sz e xs).Mine w lo) (hB : B ≤ lo) (hw : B ≤ w.heap.size) : Below B w w' :=
  h.below hw fun b hb => by have := (Mine.addr_lo hm b hb).1; omega

theorem M.Mine.row {w : World} {lo g cap sz : Nat} {e : TypeId} {xs : List M} (h : (M.sl (some ⟨g, 0, none⟩) cap sz e xs).Mine w lo) (j : Nat) (hj : j < xs.length * sz) :
    (∃ u, w.cell? ⟨g, j, none⟩ = some u) ∧ w.frozen? ⟨g, j, none⟩ = false := by
  obtain ⟨⟨⟨hrow, hs, hu⟩, hx⟩, hd⟩ := h
  rcases hrow.2 with ⟨hv, _⟩ | ⟨g', cap', cur, hv, hb, hg, h1, h2, h3, h4⟩
  · simp at hv
  · simp only [Value.slice.injEq, Option.some.injEq, Addr.mk.injEq, true_and, and_true] at hv
    obtain ⟨rfl, rfl⟩ := hv
    have hcur : xs.length * sz ≤ cur.size := by rw [h3]; exact Nat.mul_le_mul_right _ h1
    exact ⟨⟨cur[j]'(by omega), by rw [cell_of_row w g j cur e _ hg]; exact Array.getElem?_eq_getElem (by omega)⟩, frozen_of_row w g j cur e hg⟩
/-- The address of a row of one's own that has an element. -/
theorem M.Mine.addr {w : World} {lo cap sz : Nat} {a : Option Addr} {e : TypeId} {xs : List M} (h : (M.sl a cap sz e xs).Mine w lo) (hne : 0 < xs.length) : ∃ g, a = some ⟨g, 0, none⟩ ∧ lo ≤ g ∧ g < w.heap.size := by
  rcases h.own.1.1.2 with ⟨hv, hn⟩ | ⟨g', cap', cur, hv, hb, hg, _⟩
  · omega
  · simp only [Value.slice.injEq] at hv
    exact ⟨g', hv.1, hb, (Array.getElem?_eq_some_iff.1 hg).1⟩

end Go.Proofs.YtghbnehocggnnaaDoor

/-
  Datum: its tree, its place in memory, its sizes. No condition.
-/
set_option linter.unusedVariables false
set_option linter.unusedSimpArgs false
namespace Go.Proofs.YtghbnehocggnnaaDoor
open Go.RowKit

theorem ba_inj {s t : ByteArray} : s.toList = t.toList ↔ s = t := by
  constructor
  · intro h
    rw [ByteArray.toList_eq, ByteArray.toList_eq] at h
    exact ByteArray.ext (Array.toList_inj.mp h)
  · rintro rfl; rfl
theorem ba_ne {s t : ByteArray} (h : ¬ s = t) : (s.toList == t.toList) = false := by simpa using fun e => h (ba_inj.1 e)

/-! ### Datum -/
inductive Dat where
  | mk (k n : Int) (s : ByteArray) (ds : List Dat)

mutual
def Dat.Is (e : TypeId) : Dat → M → Prop
  | .mk k n s ds, m => ∃ a cap ms, m = .ag [.c (.int .i64 k), .c (.int .i64 n), .c (.string s), .sl a cap 4 e ms] ∧ Dat.IsL e ds ms
def Dat.IsL (e : TypeId) : List Dat → List M → Prop
  | [], ms => ms = []
  | d :: ds, ms => ∃ m r, ms = m :: r ∧ d.Is e m ∧ Dat.IsL e ds r
end

theorem Dat.IsL.length {e : TypeId} : ∀ {ds : List Dat} {ms : List M}, Dat.IsL e ds ms → ms.length = ds.length
  | [], _, h => by simp [Dat.IsL] at h; simp [h]
  | d :: ds, ms, h => by
    obtain ⟨m, r, rfl, _, h2⟩ := h
    simp [Dat.IsL.length h2]

theorem Dat.IsL.get {e : TypeId} : ∀ {ds : List Dat} {ms : List M}, Dat.IsL e ds ms → ∀ (k : Nat) (hk : k < ds.length) (hk' : k < ms.length), (ds[k]).Is e (ms[k])
  | [], _, h, k, hk, _ => by simp at hk
  | d :: ds, ms, h, k, hk, hk' => by
    obtain ⟨m, r, rfl, h1, h2⟩ := h
    cases k with
    | zero => exact h1
    | succ k => exact Dat.IsL.get h2 k (by simpa using hk) (by simpa using hk')

mutual
def Dat.count : Dat → Nat
  | .mk _ _ _ ds => 1 + Dat.countL ds
def Dat.countL : List Dat → Nat
  | [] => 0
  | d :: ds => d.count + Dat.countL ds
end

theorem Dat.countL_append (xs ys : List Dat) : Dat.countL (xs ++ ys) = Dat.countL xs + Dat.countL ys := by
  induction xs with
  | nil => simp [Dat.countL]
  | cons x r ih => simp only [List.cons_append, Dat.countL, ih]; omega
theorem Dat.count_pos (d : Dat) : 0 < d.count := by cases d; simp only [Dat.count]; omega
theorem Dat.countL_get (ds : List Dat) (k : Nat) (hk : k < ds.length) : Dat.countL (ds.take k) + (ds[k]).count + Dat.countL (ds.drop (k + 1)) = Dat.countL ds := by
  conv => rhs; rw [← List.take_append_drop k ds, ← List.getElem_cons_drop hk, Dat.countL_append, Dat.countL]
  omega
theorem Dat.countL_take (ds : List Dat) (k : Nat) (hk : k < ds.length) : Dat.countL (ds.take (k + 1)) = Dat.countL (ds.take k) + (ds[k]).count := by
  rw [List.take_succ_eq_append_getElem hk, Dat.countL_append]; simp [Dat.countL]


theorem M.In.sub {w : World} {a : Option Addr} {cap sz : Nat} {e : TypeId} {xs : List M} (h : (M.sl a cap sz e xs).In w) (k : Nat) (hk : k < xs.length) : (xs[k]).In w :=
  M.InL_mem h.2 _ (List.getElem_mem hk)

/-- element k of a slice of data: its four cells, as the walk writes their addresses -/
theorem Dat.elem {w : World} {a : Option Addr} {cap : Nat} {e : TypeId} {ds : List Dat} {ms : List M} (h : (M.sl a cap 4 e ms).In w) (hi : Dat.IsL e ds ms) (k : Nat) (hk : k < ms.length) :
    ∃ b off k1 n1 s1 ds1 a1 cap1 ms1, a = some ⟨b, off, none⟩ ∧ ds[k]? = some (.mk k1 n1 s1 ds1) ∧ Dat.IsL e ds1 ms1 ∧ (M.sl a1 cap1 4 e ms1).In w ∧
      w.cell? ⟨b, off + k * 4, none⟩ = some (.int .i64 k1) ∧ w.cell? ⟨b, off + k * 4 + 1, none⟩ = some (.int .i64 n1) ∧
      w.cell? ⟨b, off + k * 4 + 2, none⟩ = some (.string s1) ∧ w.cell? ⟨b, off + k * 4 + 3, none⟩ = some (.slice a1 ms1.length cap1) := by
  obtain ⟨b, off, ha, hel⟩ := h.elem (by omega)
  have hl := hi.length
  have hg := hi.get k (by omega) hk
  have hs := h.sub k hk
  obtain ⟨k1, n1, s1, ds1, hd⟩ : ∃ k1 n1 s1 ds1, ds[k] = .mk k1 n1 s1 ds1 := by cases ds[k]; exact ⟨_, _, _, _, rfl⟩
  rw [hd] at hg
  obtain ⟨a1, cap1, ms1, hm, hi1⟩ := hg
  rw [hm] at hs
  refine ⟨b, off, k1, n1, s1, ds1, a1, cap1, ms1, ha, by rw [← hd]; exact List.getElem?_eq_getElem (by omega), hi1, hs.2.2.2.1, ?_, ?_, ?_, ?_⟩
  · exact hel k hk 0 _ (by rw [hm]; rfl)
  · exact hel k hk 1 _ (by rw [hm]; rfl)
  · exact hel k hk 2 _ (by rw [hm]; rfl)
  · exact hel k hk 3 _ (by rw [hm]; rfl)

theorem Dat.countL_le (ds : List Dat) (k : Nat) (d : Dat) (h : ds[k]? = some d) : Dat.countL (ds.take (k+1)) = Dat.countL (ds.take k) + d.count ∧ Dat.countL (ds.take k) + d.count ≤ Dat.countL ds := by
  obtain ⟨hk, rfl⟩ := List.getElem?_eq_some_iff.1 h
  have := Dat.countL_get ds k hk
  exact ⟨Dat.countL_take ds k hk, by omega⟩
theorem Dat.length_le (ds : List Dat) : ds.length ≤ Dat.countL ds := by
  induction ds with
  | nil => simp
  | cons d r ih => have := d.count_pos; simp only [Dat.countL, List.length_cons]; omega

theorem Dat.IsL.snoc {e : TypeId} : ∀ {ds : List Dat} {ms : List M} {d : Dat} {m : M}, Dat.IsL e ds ms → d.Is e m → Dat.IsL e (ds ++ [d]) (ms ++ [m])
  | [], ms, d, m, h, hd => by simp [Dat.IsL] at h; subst h; exact ⟨m, [], rfl, hd, rfl⟩
  | x :: ds, ms, d, m, h, hd => by
    obtain ⟨y, r, rfl, h1, h2⟩ := h
    exact ⟨y, r ++ [m], rfl, h1, Dat.IsL.snoc h2 hd⟩
/-- a datum's own memory is that of its items -/
theorem Dat.mine {w : World} {lo : Nat} {e : TypeId} {k n : Int} {s : ByteArray} {a : Option Addr} {cap : Nat} {ms : List M} (h : (M.sl a cap 4 e ms).Mine w lo) :
    (M.ag [.c (.int .i64 k), .c (.int .i64 n), .c (.string s), .sl a cap 4 e ms]).Mine w lo :=
  ⟨⟨rfl, rfl, rfl, h.own, trivial⟩, by simpa [M.blocks, M.blocksL] using h.dup⟩

/-- What a function that makes data hands back. -/
def RetDats (e : TypeId) (ds : List Dat) (w : World) (en : Ending) (w' : World) : Prop :=
  ∃ a cap ms, en = .returned (.slice a ms.length cap) ∧ Dat.IsL e ds ms ∧ (M.sl a cap 4 e ms).Mine w' w.heap.size ∧ Below w.heap.size w w'
def Dat.k : Dat → Int | .mk k _ _ _ => k
def Dat.n : Dat → Int | .mk _ n _ _ => n
def Dat.s : Dat → ByteArray | .mk _ _ s _ => s
def Dat.ds : Dat → List Dat | .mk _ _ _ ds => ds
@[simp] theorem Dat.k_mk (k n : Int) (s : ByteArray) (ds : List Dat) : (Dat.mk k n s ds).k = k := rfl
@[simp] theorem Dat.n_mk (k n : Int) (s : ByteArray) (ds : List Dat) : (Dat.mk k n s ds).n = n := rfl
@[simp] theorem Dat.s_mk (k n : Int) (s : ByteArray) (ds : List Dat) : (Dat.mk k n s ds).s = s := rfl
@[simp] theorem Dat.ds_mk (k n : Int) (s : ByteArray) (ds : List Dat) : (Dat.mk k n s ds).ds = ds := rfl
def RetDat (e : TypeId) (d : Dat) (w : World) (en : Ending) (w' : World) : Prop :=
  ∃ a cap ms, en = .returned (.agg #[.int .i64 d.k, .int .i64 d.n, .string d.s, .slice a ms.length cap]) ∧ Dat.IsL e d.ds ms ∧ (M.sl a cap 4 e ms).Mine w' w.heap.size ∧ Below w.heap.size w w'

def I64 (n : Int) : Prop := -9223372036854775808 ≤ n ∧ n ≤ 9223372036854775807
mutual
/-- the numbers are Go's ints -/
def Dat.wf : Dat → Prop
  | .mk k n s ds => I64 k ∧ I64 n ∧ s.size ≤ 9223372036854775807 ∧ Dat.wfL ds
def Dat.wfL : List Dat → Prop
  | [] => True
  | d :: ds => d.wf ∧ Dat.wfL ds
end
theorem Dat.wfL_get : ∀ {ds : List Dat}, Dat.wfL ds → ∀ {k : Nat} {d : Dat}, ds[k]? = some d → d.wf
  | [], _, k, d, h => by simp at h
  | x :: r, h, 0, d, e => by simp at e; exact e ▸ h.1
  | x :: r, h, k + 1, d, e => Dat.wfL_get h.2 (by simpa using e)

/-- What holds of a list of data if it holds of the items of each holds of all. -/
theorem Dat.inductL {P : List Dat → Prop} (h : ∀ ds, (∀ k n s es, Dat.mk k n s es ∈ ds → P es) → P ds) (ds : List Dat) : P ds := by
  have key : ∀ B ds, Dat.countL ds ≤ B → P ds := by
    intro B
    induction B with
    | zero =>
      intro ds hB
      cases ds with
      | nil => exact h [] fun _ _ _ _ hm => by cases hm
      | cons d r => have := d.count_pos; simp only [Dat.countL] at hB; omega
    | succ B ih =>
      intro ds hB
      refine h ds fun k n s es hm => ih es ?_
      obtain ⟨i, hi, he⟩ := List.mem_iff_getElem.1 hm
      have := (Dat.countL_le ds i _ (by rw [List.getElem?_eq_getElem hi, he])).2
      simp only [Dat.count] at this
      omega
  exact key _ ds (Nat.le_refl _)

mutual
/-- how many values and letters a datum holds, itself aside -/
def Dat.wt : Dat → Nat
  | .mk _ _ s ds => s.size + (ds.length + Dat.wtX ds)
def Dat.wtX : List Dat → Nat
  | [] => 0
  | d :: ds => d.wt + Dat.wtX ds
end
theorem Dat.wtX_append (xs ys : List Dat) : Dat.wtX (xs ++ ys) = Dat.wtX xs + Dat.wtX ys := by
  induction xs with
  | nil => simp [Dat.wtX]
  | cons x r ih => simp only [List.cons_append, Dat.wtX, ih]; omega
theorem Dat.wtX_take {ds : List Dat} {k : Nat} {d : Dat} (h : ds[k]? = some d) : Dat.wtX (ds.take (k + 1)) = Dat.wtX (ds.take k) + d.wt := by
  rw [take_snoc h, Dat.wtX_append]; simp [Dat.wtX]
theorem Dat.countL_wt (ds : List Dat) : Dat.countL ds ≤ ds.length + Dat.wtX ds := by
  refine Dat.inductL (P := fun ds => Dat.countL ds ≤ ds.length + Dat.wtX ds) (fun ds ih => ?_) ds
  induction ds with
  | nil => simp [Dat.countL]
  | cons d r ihr =>
    obtain ⟨k, n, s, es⟩ := d
    have h1 := ih k n s es (List.mem_cons_self ..)
    have h2 := ihr fun k n s es hm => ih k n s es (List.mem_cons_of_mem _ hm)
    simp only [Dat.countL, Dat.count, Dat.wtX, Dat.wt, List.length_cons]
    omega

mutual
def Dat.depth : Dat → Nat
  | .mk _ _ _ ds => Dat.depthL ds + 1
def Dat.depthL : List Dat → Nat
  | [] => 0
  | d :: ds => max d.depth (Dat.depthL ds)
end
theorem Dat.depthL_append (xs ys : List Dat) : Dat.depthL (xs ++ ys) = max (Dat.depthL xs) (Dat.depthL ys) := by
  induction xs with
  | nil => simp [Dat.depthL]
  | cons x r ih => simp only [List.cons_append, Dat.depthL, ih]; omega
theorem Dat.depthL_take {ds : List Dat} {k : Nat} {d : Dat} (h : ds[k]? = some d) : Dat.depthL (ds.take (k + 1)) = max (Dat.depthL (ds.take k)) d.depth := by
  rw [take_snoc h, Dat.depthL_append]; simp [Dat.depthL]
theorem Dat.depthL_get {ds : List Dat} {k : Nat} {d : Dat} (h : ds[k]? = some d) : d.depth ≤ Dat.depthL ds := by
  have : Dat.depthL ds = max (Dat.depthL (ds.take (k + 1))) (Dat.depthL (ds.drop (k + 1))) := by rw [← Dat.depthL_append, List.take_append_drop]
  rw [this, Dat.depthL_take h]; omega
theorem Dat.depthL_le (ds : List Dat) : Dat.depthL ds ≤ Dat.countL ds := by
  refine Dat.inductL (P := fun ds => Dat.depthL ds ≤ Dat.countL ds) (fun ds ih => ?_) ds
  induction ds with
  | nil => simp [Dat.countL, Dat.depthL]
  | cons d r ihr =>
    obtain ⟨k, n, s, es⟩ := d
    have h1 := ih k n s es (List.mem_cons_self ..)
    have h2 := ihr fun k n s es hm => ih k n s es (List.mem_cons_of_mem _ hm)
    simp only [Dat.countL, Dat.count, Dat.depthL, Dat.depth]
    omega

end Go.Proofs.YtghbnehocggnnaaDoor

/-
  Walks: numbers, bytes. No condition.
-/
set_option linter.unusedVariables false
set_option linter.unusedSimpArgs false
namespace Go.Proofs.YtghbnehocggnnaaDoor
open Go.RowKit

/-- It hands back v and leaves the world alone. -/
def RetEq (v : Value) (w : World) (e : Ending) (w' : World) : Prop := e = .returned v ∧ w = w'
/-- It hands back v; what was there is as it was. -/
def Ret (v : Value) (w : World) (e : Ending) (w' : World) : Prop := e = .returned v ∧ Below w.heap.size w w'
theorem ret_b {a b : Bool} (h : a = b) : Ending.returned (.bool a) = .returned (.bool b) := by rw [h]
theorem ret_i {k : IntKind} {a b : Int} (h : a = b) : Ending.returned (.int k a) = .returned (.int k b) := by rw [h]

def inB (n a b : Int) : Bool := decide (a ≤ n) && decide (n ≤ b)

theorem l1In_calls (n a b : Int) (w : World) : Calls Tryd.prog 42 #[.int .i64 n, .int .i64 a, .int .i64 b] w (RetEq (.bool (inB n a b)) w) := by
  by_cases h1 : a ≤ n
  · by_cases h2 : n ≤ b
    · go_enter Tryd.func42, Tryd.ntmps42
      go_wp2
      go_ret
      exact ⟨ret_b (by simp [inB, h1, h2]), rfl⟩
    · go_enter Tryd.func42, Tryd.ntmps42
      go_wp2
      go_ret
      exact ⟨ret_b (by simp [inB, h1, h2]), rfl⟩
  · go_enter Tryd.func42, Tryd.ntmps42
    go_wp2
    go_ret
    exact ⟨ret_b (by simp [inB]; omega), rfl⟩

def kindS (n : Int) : Int := if n < 1 ∨ 99999 < n then 0 else if n % 3 = 1 then 1 else if n % 3 = 2 then 2 else 3

theorem iKindOfScope_calls (n : Int) (w : World) : Calls Tryd.prog 70 #[.int .i64 n] w (RetEq (.int .i64 (kindS n)) w) := by
  go_enter Tryd.func70, Tryd.ntmps70
  go_wp2
  all_goals go_ret
  all_goals refine ⟨ret_i ?_, rfl⟩
  all_goals (try simp only [beq_iff_eq, beq_eq_false_iff_ne] at *)
  all_goals (unfold kindS; repeat' split)
  all_goals (first | rfl | omega)

theorem sKindOfScope_calls (n : Int) (w : World) : Calls Tryd.prog 67 #[.int .i64 n] w (Ret (.int .i64 (kindS n)) w) := by
  by_cases h : inB n 1 99999 = true
  · have h1 : 1 ≤ n := by simp [inB] at h; omega
    have h2 : n ≤ 99999 := by simp [inB] at h; omega
    have h3 : n % 3 = 0 ∨ n % 3 = 1 ∨ n % 3 = 2 := by omega
    rcases h3 with h3 | h3 | h3
    all_goals
      go_enter Tryd.func67, Tryd.ntmps67
      go_wp2_with (go_at_call 42; refine (l1In_calls _ _ _ _).mono ?_; rintro e w' ⟨rfl, rfl⟩)
      go_ret
      refine ⟨ret_i ?_, (Below.refl _ _).alloc (Nat.le_refl _) _⟩
      unfold kindS
      repeat' split
      all_goals (first | rfl | omega)
  · have h' : inB n 1 99999 = false := by simpa using h
    go_enter Tryd.func67, Tryd.ntmps67
    go_wp2_with (go_at_call 42; refine (l1In_calls _ _ _ _).mono ?_; rintro e w' ⟨rfl, rfl⟩)
    go_ret
    refine ⟨ret_i ?_, Below.refl _ _⟩
    unfold kindS
    simp [inB] at h'

    rw [if_pos (by omega)]

def digB (b : Int) : Bool := decide (48 ≤ b) && decide (b ≤ 57)
def symB (b : Int) : Bool := decide (97 ≤ b ∧ b ≤ 122) || digB b || b == 33 || b == 63 || b == 42 || b == 60 || b == 62 || b == 61 || b == 47 || b == 43 || b == 45 || b == 46 || b == 95

theorem l1Digit_calls (b : Int) (w : World) : Calls Tryd.prog 65 #[.int .u8 b] w (RetEq (.bool (digB b)) w) := by
  go_enter Tryd.func65, Tryd.ntmps65
  go_wp2
  all_goals go_ret
  all_goals exact ⟨ret_b (by simp [digB]; try omega), rfl⟩
theorem isDigit_calls (b : Int) (w : World) : Calls Tryd.prog 68 #[.int .u8 b] w (RetEq (.bool (digB b)) w) := by
  go_enter Tryd.func68, Tryd.ntmps68
  go_wp2
  all_goals go_ret
  all_goals exact ⟨ret_b (by simp [digB]; try omega), rfl⟩
theorem digB_iff (b : Int) : digB b = true ↔ (48 ≤ b ∧ b ≤ 57) := by simp [digB]
theorem symB_iff (b : Int) : symB b = true ↔ ((97 ≤ b ∧ b ≤ 122) ∨ (48 ≤ b ∧ b ≤ 57) ∨ b = 33 ∨ b = 63 ∨ b = 42 ∨ b = 60 ∨ b = 62 ∨ b = 61 ∨ b = 47 ∨ b = 43 ∨ b = 45 ∨ b = 46 ∨ b = 95) := by
  simp only [symB, Bool.or_eq_true, digB_iff, decide_eq_true_eq, beq_iff_eq, or_assoc]
theorem symbolByte_calls (b : Int) (w : World) : Calls Tryd.prog 69 #[.int .u8 b] w (RetEq (.bool (symB b)) w) := by
  go_enter Tryd.func69, Tryd.ntmps69
  go_wp2
  all_goals go_ret
  all_goals refine ⟨?_, rfl⟩
  all_goals (try simp only [beq_iff_eq, beq_eq_false_iff_ne] at *)
  all_goals first | (refine ret_b (Eq.symm ?_); rw [symB_iff]; omega) | (refine ret_b (Eq.symm (Bool.eq_false_iff.2 ?_)); rw [Ne, symB_iff]; omega)

def marks : List Int := [33, 63, 42, 60, 62, 61, 47, 43, 45, 46, 95]
theorem marks_get (k : Nat) (h : k < (⟨#[33, 63, 42, 60, 62, 61, 47, 43, 45, 46, 95]⟩ : ByteArray).size) : (((⟨#[33, 63, 42, 60, 62, 61, 47, 43, 45, 46, 95]⟩ : ByteArray)[k]'h).toNat : Int) = marks.getD k 0 := by
  have hk : k < 11 := h
  have hk' : k = 0 ∨ k = 1 ∨ k = 2 ∨ k = 3 ∨ k = 4 ∨ k = 5 ∨ k = 6 ∨ k = 7 ∨ k = 8 ∨ k = 9 ∨ k = 10 := by omega
  rcases hk' with rfl | rfl | rfl | rfl | rfl | rfl | rfl | rfl | rfl | rfl | rfl <;> rfl
theorem marks_sym (k : Nat) (h : k < 11) : symB (marks.getD k 0) = true := by
  have hk' : k = 0 ∨ k = 1 ∨ k = 2 ∨ k = 3 ∨ k = 4 ∨ k = 5 ∨ k = 6 ∨ k = 7 ∨ k = 8 ∨ k = 9 ∨ k = 10 := by omega
  rcases hk' with rfl | rfl | rfl | rfl | rfl | rfl | rfl | rfl | rfl | rfl | rfl <;> rfl
theorem marks_not (b : Int) (h : ¬ (48 ≤ b ∧ b ≤ 57) ∧ ¬ (97 ≤ b ∧ b ≤ 122)) (h3 : ∀ j, j < 11 → marks.getD j 0 ≠ b) : symB b = false := by
  refine Bool.eq_false_iff.2 fun hs => ?_
  have h1 := (symB_iff b).1 hs
  have e0 := h3 0 (by omega); have e1 := h3 1 (by omega); have e2 := h3 2 (by omega); have e3 := h3 3 (by omega); have e4 := h3 4 (by omega); have e5 := h3 5 (by omega)
  have e6 := h3 6 (by omega); have e7 := h3 7 (by omega); have e8 := h3 8 (by omega); have e9 := h3 9 (by omega); have e10 := h3 10 (by omega)
  simp [marks] at e0 e1 e2 e3 e4 e5 e6 e7 e8 e9 e10
  omega
theorem l1Mark_calls (b : Int) (w : World) : Calls Tryd.prog 66 #[.int .u8 b] w (RetEq (.bool (symB b)) w) := by
  by_cases hd : digB b = true
  · have hd' := (digB_iff b).1 hd
    have HD := Lib.hid hd'
    go_enter Tryd.func66, Tryd.ntmps66
    go_wp2_with (go_at_call 65; refine (l1Digit_calls _ _).mono ?_; rintro e w' ⟨rfl, rfl⟩)
    all_goals go_ret
    all_goals exact ⟨ret_b (Eq.symm ((symB_iff b).2 (by omega))), rfl⟩
  by_cases ha : 97 ≤ b ∧ b ≤ 122
  · obtain ⟨ha1, ha2⟩ := ha
    go_enter Tryd.func66, Tryd.ntmps66
    go_wp2_with (go_at_call 65; refine (l1Digit_calls _ _).mono ?_; rintro e w' ⟨rfl, rfl⟩)
    all_goals go_ret
    all_goals exact ⟨ret_b (Eq.symm ((symB_iff b).2 (by omega))), rfl⟩
  have hd' : digB b = false := by simpa using hd
  have hn : ¬ (48 ≤ b ∧ b ≤ 57) := fun h => hd ((digB_iff b).2 h)
  have HN : Hid (¬ (48 ≤ b ∧ b ≤ 57) ∧ ¬ (97 ≤ b ∧ b ≤ 122)) := ⟨hn, ha⟩
  have ha' : b < 97 ∨ 122 < b := by omega
  clear hn ha hd
  rcases ha' with ha' | ha'
  all_goals
    go_enter Tryd.func66, Tryd.ntmps66
    go_wp2_with (go_at_call 65; refine (l1Digit_calls _ _).mono ?_; rintro e w' ⟨rfl, rfl⟩)
    go_loop [4] (fun i => ∃ k : Nat, k ≤ 11 ∧ i = .int .i64 k ∧ ∀ j, j < k → marks.getD j 0 ≠ b) (fun i => 11 - (intOf i).toNat)
    case atStart => exact ⟨0, by omega, rfl, fun j h => by omega⟩
    case round =>
      obtain ⟨k, hk, rfl, hno⟩ := hrel
      have HNO := Lib.hid hno
      clear hno
      by_cases hlt : k < 11
      · have hm := marks_get k hlt
        have hy := marks_sym k hlt
        have HM := Lib.hid hm
        have HY := Lib.hid hy
        clear hm hy
        go_wp2
        · rename_i h _
          rw [HM.out] at h
          go_ret
          rw [beq_iff_eq] at h
          exact ⟨ret_b (by rw [← h, HY.out]), rfl⟩
        · rename_i h
          rw [HM.out, beq_eq_false_iff_ne] at h
          go_round
          case rel => exact ⟨k + 1, by omega, by go_num, fun j hj => by
            by_cases e : j = k
            · subst e; exact h
            · exact HNO.out j (by omega)⟩
          case measure => simp [intOf]; omega
      · go_wp2
        go_ret
        have hk11 : k = 11 := by omega
        subst hk11
        exact ⟨ret_b (marks_not b HN.out HNO.out).symm, rfl⟩
end Go.Proofs.YtghbnehocggnnaaDoor

/-
  Walks: slices of numbers. No condition.
-/
set_option linter.unusedVariables false
set_option linter.unusedSimpArgs false
namespace Go.Proofs.YtghbnehocggnnaaDoor
open Go.RowKit

def intM (l : List Int) : List M := l.map fun n => .c (.int .i64 n)
theorem intM_length (l : List Int) : (intM l).length = l.length := by simp [intM]
theorem intM_append (l r : List Int) : intM (l ++ r) = intM l ++ intM r := by simp [intM]
theorem intM_blocks (l : List Int) : M.blocksL (intM l) = [] := by
  induction l with
  | nil => rfl
  | cons x r ih => simp only [intM, List.map_cons, M.blocksL, M.blocks, List.nil_append]; exact ih
theorem intM_cells (l : List Int) : M.cellsL (intM l) = l.map (Value.int .i64) := by
  induction l with
  | nil => rfl
  | cons x r ih => simp only [intM, List.map_cons, M.cellsL, M.cells, List.singleton_append]; exact congrArg _ ih

/-- 'v' is a slice of the numbers l, in w. -/
def IntsIn (w : World) (e : TypeId) (l : List Int) (v : Value) : Prop := ∃ a cap, v = .slice a l.length cap ∧ (M.sl a cap 1 e (intM l)).In w

theorem Ints.elem {w : World} {a : Option Addr} {cap : Nat} {e : TypeId} {l : List Int} (h : (M.sl a cap 1 e (intM l)).In w) (k : Nat) (hk : k < l.length) :
    ∃ b off x, a = some ⟨b, off, none⟩ ∧ l[k]? = some x ∧ w.cell? ⟨b, off + k, none⟩ = some (.int .i64 x) := by
  have hk' : k < (intM l).length := by rw [intM_length]; exact hk
  obtain ⟨b, off, ha, hel⟩ := h.elem (by omega)
  refine ⟨b, off, l[k], ha, List.getElem?_eq_getElem hk, ?_⟩
  have := hel k hk' 0 (.int .i64 l[k]) (by simp [intM, M.cells])
  simpa using this
theorem Ints.len {w : World} {a : Option Addr} {cap : Nat} {e : TypeId} {l : List Int} (h : (M.sl a cap 1 e (intM l)).In w) : l.length ≤ cap ∧ cap ≤ 9223372036854775807 := by
  have := h.len
  rwa [intM_length] at this
theorem Ints.addr {w : World} {a : Option Addr} {cap : Nat} {e : TypeId} {l : List Int} (h : (M.sl a cap 1 e (intM l)).In w) (hl : 0 < l.length) : ∃ b off, a = some ⟨b, off, none⟩ := by
  obtain ⟨b, off, _, ha, _⟩ := Ints.elem h 0 hl
  exact ⟨b, off, ha⟩

theorem mem_take_succ {α : Type} {l : List α} {k : Nat} {x n : α} (h : l[k]? = some x) : n ∈ l.take (k + 1) ↔ n ∈ l.take k ∨ n = x := by
  rw [take_snoc h]; simp

def hasB (l : List Int) (n : Int) : Bool := l.contains n
theorem hasB_iff (l : List Int) (n : Int) : hasB l n = true ↔ n ∈ l := by simp [hasB]
theorem hasB_not (l : List Int) (n : Int) : hasB l n = false ↔ ¬ n ∈ l := by rw [← hasB_iff]; simp

/-- two lists of numbers are one -/
def eqL (l r : List Int) : Bool := decide (l = r)
theorem eqL_iff (l r : List Int) : eqL l r = true ↔ l = r := by simp [eqL]
theorem eqL_not (l r : List Int) : eqL l r = false ↔ ¬ l = r := by simp [eqL]

theorem take_eq_succ {α : Type} {l r : List α} {k : Nat} {x y : α} (h : l.take k = r.take k) (hx : l[k]? = some x) (hy : r[k]? = some y) (e : x = y) : l.take (k + 1) = r.take (k + 1) := by
  rw [take_snoc hx, take_snoc hy, h, e]
theorem ne_of_get {α : Type} {l r : List α} {k : Nat} {x y : α} (hx : l[k]? = some x) (hy : r[k]? = some y) (e : ¬ x = y) : ¬ l = r := by
  intro h; subst h; rw [hx] at hy; exact e (Option.some.inj hy)

theorem eqIntS_calls (a : Option Addr) (cap : Nat) (l : List Int) (a2 : Option Addr) (cap2 : Nat) (r : List Int) (w : World) (h : (M.sl a cap 1 3 (intM l)).In w) (h2 : (M.sl a2 cap2 1 3 (intM r)).In w) :
    Calls Tryd.prog 24 #[.slice a l.length cap, .slice a2 r.length cap2] w (Ret (.bool (eqL l r)) w) := by
  have hl := Ints.len h
  have hr := Ints.len h2
  by_cases he : l.length = r.length
  · have hb : ((l.length : Int) != (r.length : Int)) = false := by simp [he]
    have H := Lib.hid h; clear h; have H2 := Lib.hid h2; clear h2; have HE := Lib.hid he; clear he
    go_enter Tryd.func24, Tryd.ntmps24
    go_wp2
    go_loopw [5] (fun i wr => ∃ k : Nat, k ≤ l.length ∧ i = .int .i64 k ∧ l.take k = r.take k ∧ Below w.heap.size w wr) (fun i _ => l.length - (intOf i).toNat)
    case atStart => exact ⟨0, Nat.zero_le _, rfl, by simp, Below.refl _ _⟩
    case round =>
      obtain ⟨k, hk, rfl, hno, hbl⟩ := hrel
      have HNO := Lib.hid hno; clear hno
      by_cases hlt : k < l.length
      · have hlt2 : k < r.length := by have := HE.out; omega
        obtain ⟨b, off, x, rfl, hx, hc⟩ := Ints.elem (H.out.below hbl) k hlt
        obtain ⟨b2, off2, y, rfl, hy, hc2⟩ := Ints.elem (H2.out.below hbl) k hlt2
        have HX := Lib.hid hx; clear hx; have HY := Lib.hid hy; clear hy
        by_cases hxy : x = y
        · have e1 : (x != y) = false := by simp [hxy]
          have HXY := Lib.hid hxy; clear hxy
          go_wp2_with fail
          go_quiet (fail)
          go_wp2_with fail
          have hnx : l.take (k + 1) = r.take (k + 1) := take_eq_succ HNO.out HX.out HY.out HXY.out
          go_roundw
          case rel => exact ⟨k + 1, by omega, by go_num, hnx, belowDrewN hbl _⟩
          case measure => simp [intOf]; omega
        · have e1 : (x != y) = true := by simp [hxy]
          have HXY := Lib.hid hxy; clear hxy
          go_wp2_with fail
          go_quiet (fail)
          go_wp2_with fail
          go_ret
          exact ⟨ret_b ((eqL_not _ _).2 (ne_of_get HX.out HY.out HXY.out)).symm, belowDrewN hbl _⟩
      · go_wp2
        go_ret
        have hk2 : k = l.length := by omega
        subst hk2
        refine ⟨ret_b ((eqL_iff _ _).2 ?_).symm, hbl⟩
        have h := HNO.out
        rw [List.take_length, HE.out, List.take_length] at h
        exact h
  · have hb : ((l.length : Int) != (r.length : Int)) = true := by simp; omega
    have H := Lib.hid h; clear h; have H2 := Lib.hid h2; clear h2; have HE := Lib.hid he; clear he
    go_enter Tryd.func24, Tryd.ntmps24
    go_wp2
    go_ret
    exact ⟨ret_b ((eqL_not _ _).2 (fun e => HE.out (by rw [e]))).symm, Below.refl _ _⟩

theorem infoI : (Tryd.prog.info? 3).map (fun i => (i.zero, i.size, i.bytes)) = some (some (.int .i64 0), 1, 8) := by kernel_rfl

/-- A new slice of numbers. -/
def RetInts (l : List Int) (w : World) (e : Ending) (w' : World) : Prop := ∃ a cap, e = .returned (.slice a l.length cap) ∧ (M.sl a cap 1 3 (intM l)).Mine w' w.heap.size ∧ Below w.heap.size w w'

theorem Ints.set {w : World} {lo g cap : Nat} {e : TypeId} {l : List Int} (h : (M.sl (some ⟨g, 0, none⟩) cap 1 e (intM l)).Mine w lo) (k : Nat) (hk : k < l.length) (x : Int) :
    (M.sl (some ⟨g, 0, none⟩) cap 1 e (intM (l.set k x))).Mine (w.setCell ⟨g, k, none⟩ (.int .i64 x)) lo := by
  have := h.setElem k (by rw [intM_length]; exact hk) (.c (.int .i64 x)) rfl (M.Mine.c rfl) (by simp [M.blocks])
  simp only [M.cells, setCells, Nat.mul_one] at this
  rwa [show intM (l.set k x) = (intM l).set k (.c (.int .i64 x)) by simp [intM, List.map_set]]

theorem toIntS_calls (a : Option Addr) (cap : Nat) (l : List Int) (w : World) (h : (M.sl a cap 1 3 (intM l)).In w) (hB : l.length ≤ 1048576) :
    Calls Tryd.prog 20 #[.slice a l.length cap] w (RetInts l w) := by
  have hl := Ints.len h
  obtain ⟨i0, hi, hz0, hz1, hz2⟩ := info_parts infoI
  have H := Lib.hid h; clear h
  go_enter Tryd.func20, Tryd.ntmps20
  go_wp2_with (at_make; refine wpList_make_full _ rfl _ _ 22 rfl w.heap.size 3 i0 (.int .i64 0) 1 Tryd.underlying22 hi hz0 hz1 _ _ _ _ l.length rfl rfl rfl rfl ?b2 ?b3 ?b4 ?_)
  case b2 => rw [hz2]; omega
  case b3 => unfold maxLen; omega
  case b4 => omega
  intro w1 hown hgrow
  have hm : (M.sl (some ⟨w.heap.size, 0, none⟩) l.length 1 3 (intM (List.replicate l.length 0))).Mine w1 w.heap.size := by
    rw [show intM (List.replicate l.length 0) = List.replicate l.length (M.c (.int .i64 0)) by simp [intM]]
    exact M.Mine.made (.c (.int .i64 0)) rfl rfl (by decide) rfl (fun _ _ => rfl) (by rw [Nat.mul_one]; exact hown)
  have hb1 : Below w.heap.size w w1 := ⟨hgrow.os, hgrow.tape, hgrow.output, hgrow.size, fun k hk => hgrow.block k hk (by simp)⟩
  have hlt1 : 0 < l.length → w.heap.size < w1.heap.size := fun h0 => by
    obtain ⟨g, hg, _, h2⟩ := hm.addr (by rw [intM_length]; simpa using h0)
    simp at hg; omega
  have HOWN := Lib.hid hown; clear hown; have HGROW := Lib.hid hgrow; clear hgrow; have HM := Lib.hid hm; clear hm; have HLT1 := Lib.hid hlt1; clear hlt1
  go_wp2_with fail
  go_loopw [4] (fun i wr => ∃ k : Nat, k ≤ l.length ∧ i = .int .i64 k ∧ (M.sl (some ⟨w.heap.size, 0, none⟩) l.length 1 3 (intM (l.take k ++ List.replicate (l.length - k) 0))).Mine wr w.heap.size ∧ Below w.heap.size w wr) (fun i _ => l.length - (intOf i).toNat)
  case atStart => exact ⟨0, Nat.zero_le _, rfl, by simpa using HM.out, hb1⟩
  case round =>
    obtain ⟨k, hk, rfl, hm, hb⟩ := hrel
    by_cases hlt : k < l.length
    · obtain ⟨b, off, x, rfl, hx, hc⟩ := Ints.elem (H.out.below hb) k hlt
      obtain ⟨⟨u, hu⟩, hf⟩ := hm.row k (by rw [intM_length]; simp; omega)
      have hs := Ints.set hm k (by simp; omega) x
      rw [set_take hx rfl] at hs
      have HX := Lib.hid hx; clear hx; have HM := Lib.hid hm; clear hm; have HS := Lib.hid hs; clear hs
      go_wp2_with fail
      go_roundw
      case rel => exact ⟨k + 1, by omega, by go_num, HS.out, Below.setCell hb (by simp) _⟩
      case measure => simp [intOf]; omega
    · go_wp2
      go_ret
      have hk2 : k = l.length := by omega
      subst hk2
      refine ⟨_, _, rfl, ?_, hb⟩
      simpa using hm
end Go.Proofs.YtghbnehocggnnaaDoor

/-
  The arguments of a law, opened: what is read as data lies in memory as such. No condition.
-/
set_option linter.unusedVariables false
set_option maxRecDepth 100000
set_option linter.unusedSimpArgs false
namespace Go.Proofs.YtghbnehocggnnaaDoor
open Go.ChangeShapes Go.WideShapes Go.ChangeAt Go.RowKit

def Rel2 {α : Type} (R : α → M → Prop) : List α → List M → Prop
  | [], ms => ms = []
  | y :: ys, ms => ∃ m r, ms = m :: r ∧ R y m ∧ Rel2 R ys r
theorem Rel2.snoc {α : Type} {R : α → M → Prop} : ∀ {ys : List α} {ms : List M} {y : α} {m : M}, Rel2 R ys ms → R y m → Rel2 R (ys ++ [y]) (ms ++ [m])
  | [], ms, y, m, h, hd => by simp [Rel2] at h; subst h; exact ⟨m, [], rfl, hd, rfl⟩
  | x :: ds, ms, d, m, h, hd => by
    obtain ⟨y, r, rfl, h1, h2⟩ := h
    exact ⟨y, r ++ [m], rfl, h1, Rel2.snoc h2 hd⟩

theorem I64_of {n : Int} (h : (Lit.int .i64 n).wf = true) : I64 n := by
  simp [Lit.wf, IntKind.min, IntKind.max, IntKind.signed, IntKind.bits] at h
  exact h

section
variable {H : Type} {enc : TypeId × Value → H} {P : Program} {w : World} {sp : Nat → Bool} {hd : Bool}

theorem op_slice {α : Type} (R : α → M → Prop) {t e : TypeId} {fuel sz : Nat} {cs : List Value} {x : DataW H × List MemPlace} (ht : P.underlying t = some (.slice e)) (hsz : P.cellsOf e = sz) (hp : 0 < sz)
    (h : DataW.trod enc P w 0 sp hd fuel t cs = some x) (hel : ∀ f cs' x', f < fuel → DataW.trod enc P w 0 sp hd f e cs' = some x' → ∃ y m, R y m ∧ m.cells = cs' ∧ m.In w) :
    ∃ a cap ys ms, cs = [.slice a ms.length cap] ∧ Rel2 R ys ms ∧ (M.sl a cap sz e ms).In w := by
  rcases DataW.trod_slice ht h with ⟨rfl, _⟩ | ⟨a, len, cap, elems, rest, n, rfl, rfl, rfl, hb, hl, hm, hlen, hel2, _, _⟩
  · exact ⟨none, 0, [], [], rfl, rfl, ⟨⟨by simp [M.cellsL], hp, Nat.le_refl _, by simp [maxLen], fun _ => ⟨rfl, rfl⟩, (fun ad had => by cases had)⟩, by simp⟩, trivial⟩
  · have key : ∀ j, j ≤ len → ∃ ys ms, ms.length = j ∧ Rel2 R ys ms ∧ M.InL w ms ∧ (∀ m ∈ ms, m.cells.length = sz) ∧ ∀ (i : Nat) u, (M.cellsL ms)[i]? = some u → w.cell? (a.add i) = some u := by
      intro j
      induction j with
      | zero => intro _; exact ⟨[], [], rfl, rfl, trivial, by simp, by simp [M.cellsL]⟩
      | succ j ih =>
        intro hj
        obtain ⟨ys, ms, h1, h2, h3, h4, h5⟩ := ih (by omega)
        have he := hel2 j (by omega)
        rw [List.getElem?_eq_getElem (by omega)] at he
        obtain ⟨cs', hc, ht'⟩ := Option.bind_eq_some_iff.1 he
        obtain ⟨y, m, hr, hmc, hin⟩ := hel n cs' _ (by omega) ht'
        obtain ⟨_, hcl, hcell⟩ := World.cells?_some hc
        rw [hsz] at hcl hcell
        refine ⟨ys ++ [y], ms ++ [m], by simp [h1], h2.snoc hr, (M.InL_append _ _).2 ⟨h3, hin, trivial⟩, ?_, ?_⟩
        · intro m' hm'
          rcases List.mem_append.1 hm' with h | h
          · exact h4 m' h
          · simp at h; subst h; rw [hmc, hcl]
        · intro i u hu
          rw [M.cellsL_append] at hu
          have hlen' := M.cellsL_length h4
          rw [h1] at hlen'
          by_cases hi : i < j * sz
          · rw [List.getElem?_append_left (by omega)] at hu
            exact h5 i u hu
          · rw [List.getElem?_append_right (by omega), hlen'] at hu
            simp only [M.cellsL, List.append_nil, hmc] at hu
            have hlt := (List.getElem?_eq_some_iff.1 hu).1
            have := hcell (i - j * sz) (by omega)
            rw [hu] at this
            rwa [Go.Deep.add_add, show j * sz + (i - j * sz) = i by omega] at this
    obtain ⟨ys, ms, h1, h2, h3, h4, h5⟩ := key len (Nat.le_refl _)
    refine ⟨some a, cap, ys, ms, by rw [h1], h2, ⟨⟨M.cellsL_length h4, hp, by omega, hm, (fun h => by cases h), fun ad had j u hu => ?_⟩, h4⟩, h3⟩
    obtain rfl := Option.some.inj had
    exact h5 j u hu
end

section
variable {H : Type} {enc : TypeId × Value → H} {w : World} {sp : Nat → Bool} {hd : Bool}
theorem cellsInt : Tryd.prog.cellsOf 3 = 1 := by kernel_rfl
theorem cellsStr : Tryd.prog.cellsOf 9 = 1 := by kernel_rfl
theorem rel_ints : ∀ {ys : List Int} {ms : List M}, Rel2 (fun (n : Int) m => m = .c (.int .i64 n) ∧ I64 n) ys ms → ms = intM ys ∧ ∀ n ∈ ys, I64 n
  | [], _, h => by simp [Rel2] at h; simp [h, intM]
  | y :: ys, ms, h => by
    obtain ⟨m, r, rfl, ⟨rfl, h1⟩, h2⟩ := h
    obtain ⟨rfl, h3⟩ := rel_ints h2
    exact ⟨rfl, by intro n hn; rcases List.mem_cons.1 hn with rfl | hn; exact h1; exact h3 n hn⟩

theorem op_ints {fuel : Nat} {cs : List Value} {x : DataW H × List MemPlace} (h : DataW.trod enc Tryd.prog w 0 sp hd fuel 22 cs = some x) :
    ∃ a cap l, cs = [.slice a l.length cap] ∧ (M.sl a cap 1 3 (intM l)).In w ∧ ∀ n ∈ l, I64 n := by
  obtain ⟨a, cap, ys, ms, rfl, hr, hin⟩ := op_slice (fun (n : Int) m => m = .c (.int .i64 n) ∧ I64 n) Tryd.underlying22 cellsInt (by decide) h (fun f cs' x' _ hx => by
    obtain ⟨n, rfl, _, hw⟩ := DataW.trod_int Tryd.underlying3 hx
    exact ⟨n, .c (.int .i64 n), ⟨rfl, I64_of hw⟩, rfl, trivial⟩)
  obtain ⟨rfl, hn⟩ := rel_ints hr
  exact ⟨a, cap, ys, by rw [intM_length], hin, hn⟩

theorem arg_ints {v : Value} {d : DataW H} {p : List MemPlace} {b : Nat} (hv : Value.okWide Tryd.prog w .any b 22 v) (h : DataW.Trod enc Tryd.prog w 0 sp hd 22 v d p) :
    ∃ a cap l, v = .slice a l.length cap ∧ (M.sl a cap 1 3 (intM l)).In w ∧ ∀ n ∈ l, I64 n := by
  obtain ⟨a0, len0, cap0, rfl⟩ := okWide_slice Tryd.underlying22 hv
  obtain ⟨f, hf⟩ := h
  obtain ⟨a, cap, l, hcs, h1, h2⟩ := op_ints hf
  simp [Value.cells] at hcs
  obtain ⟨rfl, rfl, rfl⟩ := hcs
  exact ⟨_, _, _, rfl, h1, h2⟩
theorem arg_int {v : Value} {d : DataW H} {p : List MemPlace} {b : Nat} (hv : Value.okWide Tryd.prog w .any b 3 v) (h : DataW.Trod enc Tryd.prog w 0 sp hd 3 v d p) : ∃ n, v = .int .i64 n ∧ I64 n := by
  obtain ⟨n, rfl, _, _, hw⟩ := open_int Tryd.underlying3 hv h
  exact ⟨n, rfl, I64_of hw⟩
theorem arg_str {v : Value} {d : DataW H} {p : List MemPlace} {b : Nat} (hv : Value.okWide Tryd.prog w .any b 9 v) (h : DataW.Trod enc Tryd.prog w 0 sp hd 9 v d p) : ∃ s, v = .string s ∧ s.size ≤ 9223372036854775807 := by
  obtain ⟨n, rfl, _, _, hw⟩ := Go.ChangeMaps.open_string Tryd.underlying9 hv h
  exact ⟨n, rfl, by unfold maxLen at hw; omega⟩
theorem arg_bool {v : Value} {d : DataW H} {p : List MemPlace} {b : Nat} (hv : Value.okWide Tryd.prog w .any b 4 v) (h : DataW.Trod enc Tryd.prog w 0 sp hd 4 v d p) : ∃ x, v = .bool x := by
  obtain ⟨n, rfl, _, _⟩ := open_bool Tryd.underlying4 hv h
  exact ⟨n, rfl⟩

/-! ### Datum -/
theorem rel_dats {e : TypeId} : ∀ {ys : List Dat} {ms : List M}, Rel2 (fun (d : Dat) m => d.Is e m ∧ d.wf) ys ms → Dat.IsL e ys ms ∧ Dat.wfL ys
  | [], _, h => by simp [Rel2] at h; simp [h, Dat.IsL, Dat.wfL]
  | y :: ys, ms, h => by
    obtain ⟨m, r, rfl, ⟨h0, h1⟩, h2⟩ := h
    obtain ⟨h3, h4⟩ := rel_dats h2
    exact ⟨⟨m, r, rfl, h0, h3⟩, h1, h4⟩

end
end Go.Proofs.YtghbnehocggnnaaDoor

/-
  The head of the translation as lists of signs, and the closed facts that read it (by the lists: the kernel takes a long string apart at too great a cost). No condition.
-/
set_option maxRecDepth 100000
namespace Go.Proofs.YtghbnehocggnnaaDoor
def sgHarness : List Char := [104, 97, 114, 110, 101, 115, 115].map Char.ofNat
def sgSum : List Char := [51, 50, 52, 97, 57, 100, 56, 51, 51, 52, 53, 100, 102, 51, 49, 51, 51, 55, 55, 97, 53, 55, 55, 98, 99, 99, 57, 100, 101, 99, 102, 50, 97, 53, 100, 101, 98, 98, 57, 51, 54, 54, 100, 57, 52, 99, 100, 101, 51, 57, 97, 50, 97, 52, 101, 54, 56, 97, 49, 99, 48, 50, 99, 100].map Char.ofNat
def sgCut : List Char := [99, 117, 116].map Char.ofNat
def sgRest : List Char := [97, 116, 32, 108, 111, 111, 112, 46, 101, 120, 97, 109, 112, 108, 101, 47, 103, 48, 51, 50, 50, 48, 47, 108, 97, 119, 115, 46, 70, 110, 69, 120, 97, 99, 116, 70, 111, 114, 109, 97, 116, 66, 105, 110, 100, 105, 110, 103, 32, 108, 111, 111, 112, 46, 101, 120, 97, 109, 112, 108, 101, 47, 103, 48, 51, 50, 50, 48, 47, 108, 97, 119, 115, 46, 70, 110, 83, 111, 117, 114, 99, 101, 84, 101, 120, 116].map Char.ofNat
def sgBlank : Char := Char.ofNat 32
def headSigns : List Char := sgHarness ++ sgBlank :: (sgSum ++ sgBlank :: (sgCut ++ sgBlank :: sgRest))
theorem head_eq : Tryd.prog.initOrder = String.ofList headSigns := by kernel_rfl
theorem head_list : Tryd.prog.initOrder.toList = headSigns := by rw [head_eq]; exact String.toList_ofList
theorem words_cons (w r : List Char) (h : ∀ c ∈ w, c ≠ sgBlank) : wordsSigns (w ++ sgBlank :: r) = w :: wordsSigns r := by
  induction w with
  | nil => rfl
  | cons c w ih =>
    have h0 := h c (List.mem_cons_self ..)
    have h1 := ih fun d hd => h d (List.mem_cons_of_mem _ hd)
    rw [List.cons_append, wordsSigns.eq_3 _ _ (by simpa [sgBlank] using h0), h1]
theorem behind_of (a b c : List Char) (tl : List (List Char)) (h : (a == "harness".toList) = true) (h2 : isSumSigns b = true) : behindMainWord (a :: b :: c :: tl) = c :: tl := by
  show (if ((a == "harness".toList || a == "ownmain".toList) && isSumSigns b) = true then c :: tl else a :: b :: c :: tl) = c :: tl
  rw [h, h2]
  rfl
theorem head_words : ∃ tl, behindMainWord (wordsSigns Tryd.prog.initOrder.toList) = sgCut :: tl := by
  rw [head_list, headSigns, words_cons _ _ (by decide +kernel), words_cons _ _ (by decide +kernel), words_cons _ _ (by decide +kernel)]
  exact ⟨_, behind_of _ _ _ _ (by decide +kernel) (by decide +kernel)⟩
theorem and_mk {a b : Bool} (ha : a = true) (hb : b = true) : (a && b) = true := by rw [ha, hb]; rfl
theorem sgCut_eq : sgCut = "cut".toList := by decide +kernel
theorem strip_cut (tl : List (List Char)) : stripLifts liftWords (sgCut :: tl) = ([], sgCut :: tl) := by kernel_rfl
theorem headLifts_of {P : Program} {tl : List (List Char)} (h : behindMainWord (wordsSigns P.initOrder.toList) = sgCut :: tl) : P.headLifts = [] := by
  unfold Program.headLifts
  rw [h, strip_cut]
  simp
theorem lifts_of {P : Program} {tl : List (List Char)} (h : behindMainWord (wordsSigns P.initOrder.toList) = sgCut :: tl) : P.liftsFinal = false := by
  unfold Program.liftsFinal
  rw [headLifts_of h, h, sgCut_eq]
  simp
theorem make_of {P : Program} {tl : List (List Char)} (h : behindMainWord (wordsSigns P.initOrder.toList) = sgCut :: tl) : P.make = some .cut := by
  unfold Program.make
  rw [h, sgCut_eq]
  simp
theorem mayEnter_of {P : Program} {tl : List (List Char)} (h : behindMainWord (wordsSigns P.initOrder.toList) = sgCut :: tl) (h1 : P.laysLater = false) (h2 : P.bearsReflect = false) (h3 : P.doorFits [] = true) : P.mayEnter = true := by
  unfold Program.mayEnter
  rw [h]
  simp only [strip_cut, h1, h2, h3]
  rw [sgCut_eq]
  simp
theorem lays_ : Tryd.prog.laysLater = false := by kernel_rfl
theorem bears_ : Tryd.prog.bearsReflect = false := by kernel_rfl
theorem door_ : Tryd.prog.doorFits [] = true := by kernel_rfl
theorem mayEnter_ : Tryd.prog.mayEnter = true := by obtain ⟨tl, h⟩ := head_words; exact mayEnter_of h lays_ bears_ door_
theorem lifts_ : Tryd.prog.liftsFinal = false := by obtain ⟨tl, h⟩ := head_words; exact lifts_of h
theorem make_ : Tryd.prog.make = some .cut := by obtain ⟨tl, h⟩ := head_words; exact make_of h
end Go.Proofs.YtghbnehocggnnaaDoor

/-
  The text of a number, of a datum and of a piece of syntax, in plain terms. No condition.
-/
set_option linter.unusedVariables false
set_option linter.unusedSimpArgs false
namespace Go.Proofs.YtghbnehocggnnaaDoor
open Go.RowKit

theorem decDigits_low {u : Nat} (h : u < 10) : Lib.decDigits u = [UInt8.ofNat (48 + u)] := by rw [Lib.decDigits, dif_pos h]
theorem decDigits_step {u : Nat} (h : ¬ u < 10) : Lib.decDigits u = Lib.decDigits (u / 10) ++ [UInt8.ofNat (48 + u % 10)] := by rw [Lib.decDigits, dif_neg h]
/-- what is still to be written in front -/
def numRest (u : Nat) : List UInt8 := if u = 0 then [] else Lib.decDigits u
theorem numRest_zero : numRest 0 = [] := rfl
theorem numRest_pos {u : Nat} (h : u ≠ 0) : numRest u = Lib.decDigits u := by simp [numRest, h]
theorem numRest_step {u : Nat} (h : u ≠ 0) : numRest u = numRest (u / 10) ++ [UInt8.ofNat (48 + u % 10)] := by
  rw [numRest_pos h]
  by_cases h10 : u < 10
  · rw [decDigits_low h10, Nat.div_eq_of_lt h10, Nat.mod_eq_of_lt h10, numRest_zero]; rfl
  · rw [decDigits_step h10, numRest_pos (by omega)]
theorem itoa_zero : Lib.itoa 0 = [48] := by unfold Lib.itoa; rw [if_neg (by decide)]; exact decDigits_low (by decide)
theorem itoa_pos {n : Int} (h0 : n ≠ 0) (h : ¬ n < 0) : Lib.itoa n = numRest n.natAbs := by
  unfold Lib.itoa; rw [if_neg h, numRest_pos (by omega)]; congr 1; omega
theorem itoa_neg' {n : Int} (h : n < 0) : Lib.itoa n = 45 :: numRest n.natAbs := by
  unfold Lib.itoa; rw [if_pos h, numRest_pos (by omega)]

/-- the texts with something between each two -/
def joinB (sep : List UInt8) : List (List UInt8) → List UInt8
  | [] => []
  | a :: r => if r.isEmpty then a else a ++ sep ++ joinB sep r
theorem joinB_snoc (sep : List UInt8) : ∀ (l : List (List UInt8)) (x : List UInt8), joinB sep (l ++ [x]) = if l.isEmpty then x else joinB sep l ++ sep ++ x
  | [], x => by simp [joinB]
  | [a], x => by simp [joinB]
  | a :: b :: r, x => by
    have h := joinB_snoc sep (b :: r) x
    simp only [List.isEmpty_cons, Bool.false_eq_true, if_false] at h
    show joinB sep (a :: ((b :: r) ++ [x])) = _
    rw [joinB, if_neg (by simp), h]
    simp [joinB]
theorem joinB_length (sep : List UInt8) : ∀ (l : List (List UInt8)), (joinB sep l).length ≤ (l.map fun x => x.length + sep.length).sum
  | [] => by simp [joinB]
  | a :: r => by
    have h := joinB_length sep r
    rw [joinB]
    split
    · simp; omega
    · simp; omega
mutual
/-- the text of a datum -/
def fmtD : Dat → List UInt8
  | .mk k n s ds => if k = 1 then s.data.toList else if k = 2 then Lib.itoa n else if k = 3 then (if n = 1 then [35, 116] else [35, 102]) else if k = 4 then 34 :: (s.data.toList ++ [34]) else 40 :: (joinB [32] (fmtL ds) ++ [41])
def fmtL : List Dat → List (List UInt8)
  | [] => []
  | d :: r => fmtD d :: fmtL r
end
theorem fmtL_map : ∀ ds : List Dat, fmtL ds = ds.map fmtD
  | [] => rfl
  | d :: r => by rw [fmtL, fmtL_map r]; rfl
theorem fmtL_take {ds : List Dat} {j : Nat} {d : Dat} (h : ds[j]? = some d) : fmtL (ds.take (j + 1)) = fmtL (ds.take j) ++ [fmtD d] := by
  rw [fmtL_map, fmtL_map, take_snoc h, List.map_append]; rfl
theorem fmtL_length (ds : List Dat) : (fmtL ds).length = ds.length := by rw [fmtL_map]; simp
theorem fmtD_sym (n : Int) (s : ByteArray) (ds : List Dat) : fmtD (.mk 1 n s ds) = s.data.toList := by rw [fmtD, if_pos rfl]
theorem fmtD_num (n : Int) (s : ByteArray) (ds : List Dat) : fmtD (.mk 2 n s ds) = Lib.itoa n := by rw [fmtD, if_neg (by decide), if_pos rfl]
theorem fmtD_tr (s : ByteArray) (ds : List Dat) : fmtD (.mk 3 1 s ds) = [35, 116] := by rw [fmtD, if_neg (by decide), if_neg (by decide), if_pos rfl, if_pos rfl]
theorem fmtD_fa {n : Int} (h : n ≠ 1) (s : ByteArray) (ds : List Dat) : fmtD (.mk 3 n s ds) = [35, 102] := by rw [fmtD, if_neg (by decide), if_neg (by decide), if_pos rfl, if_neg h]
theorem fmtD_str (n : Int) (s : ByteArray) (ds : List Dat) : fmtD (.mk 4 n s ds) = 34 :: (s.data.toList ++ [34]) := by rw [fmtD, if_neg (by decide), if_neg (by decide), if_neg (by decide), if_pos rfl]
theorem fmtD_list {k : Int} (h1 : k ≠ 1) (h2 : k ≠ 2) (h3 : k ≠ 3) (h4 : k ≠ 4) (n : Int) (s : ByteArray) (ds : List Dat) : fmtD (.mk k n s ds) = 40 :: (joinB [32] (fmtL ds) ++ [41]) := by
  rw [fmtD, if_neg h1, if_neg h2, if_neg h3, if_neg h4]
theorem fmt_wt (ds : List Dat) (hw : Dat.wfL ds) : ((fmtL ds).map fun x => x.length + 1).sum ≤ 23 * (ds.length + Dat.wtX ds) := by
  revert hw
  refine Dat.inductL (P := fun ds => Dat.wfL ds → ((fmtL ds).map fun x => x.length + 1).sum ≤ 23 * (ds.length + Dat.wtX ds)) (fun ds ih => ?_) ds
  induction ds with
  | nil => intro _; simp [fmtL]
  | cons d r ihr =>
    obtain ⟨k, n, s, es⟩ := d
    intro hw
    have hw' : (Dat.mk k n s es).wf ∧ Dat.wfL r := hw
    have hw1 : I64 n ∧ Dat.wfL es := ⟨by have := hw'.1; simp only [Dat.wf] at this; exact this.2.1, by have := hw'.1; simp only [Dat.wf] at this; exact this.2.2.2⟩
    have h1 := ih k n s es (List.mem_cons_self ..) hw1.2
    have h2 := ihr (fun k n s es hm => ih k n s es (List.mem_cons_of_mem _ hm)) hw'.2
    have h3 : (fmtD (.mk k n s es)).length ≤ 22 + 23 * (s.size + (es.length + Dat.wtX es)) := by
      have hj := joinB_length [32] (fmtL es)
      have hi := Lib.itoa_length_le n hw1.1.1 hw1.1.2
      have hs : s.data.toList.length = s.size := rfl
      simp only [List.length_singleton] at hj
      rw [fmtD]
      split
      · omega
      · split
        · omega
        · split
          · split <;> (simp only [List.length_cons, List.length_nil]; omega)
          · split
            · simp only [List.length_cons, List.length_append, List.length_nil]; omega
            · simp only [List.length_cons, List.length_append, List.length_nil]; omega
    simp only [fmtL, List.map_cons, List.sum_cons, List.length_cons, Dat.wtX, Dat.wt] at *
    omega
end Go.Proofs.YtghbnehocggnnaaDoor

/-
  Memory in ranges of blocks: what a call has made lies in a range; marking writes in that range alone. No condition.
-/
set_option linter.unusedVariables false
namespace Go.Proofs.YtghbnehocggnnaaDoor
open Go.RowKit

/-- Owned data whose blocks lie in lo..hi. -/
structure M.At (m : M) (lo hi : Nat) (w : World) : Prop where
  mine : m.Mine w lo
  lt : ∀ b ∈ m.blocks, b < hi
  hi : hi ≤ w.heap.size
theorem M.At.of {m : M} {lo : Nat} {w : World} (h : m.Mine w lo) : m.At lo w.heap.size w := ⟨h, h.lt_size, Nat.le_refl _⟩
theorem M.At.in_ {m : M} {lo hi : Nat} {w : World} (h : m.At lo hi w) : m.In w := h.mine.in_
theorem M.At.below {m : M} {lo hi : Nat} {w w' : World} (h : m.At lo hi w) (hb : Below w.heap.size w w') : m.At lo hi w' := ⟨h.mine.below hb, h.lt, Nat.le_trans h.hi hb.size⟩
/-- Of what was there only the blocks lo..hi may have changed. -/
structure OnlyIn (lo hi : Nat) (w w' : World) : Prop where
  os : w'.os = w.os
  tape : w'.tape = w.tape
  output : w'.output = w.output
  size : w.heap.size ≤ w'.heap.size
  block : ∀ k, k < w.heap.size → (k < lo ∨ hi ≤ k) → w'.heap[k]? = w.heap[k]?
theorem OnlyIn.of {bs : List Nat} {lo hi : Nat} {w w' : World} (h : Only bs w w') (hs : ∀ x ∈ bs, lo ≤ x ∧ x < hi) : OnlyIn lo hi w w' :=
  ⟨h.os, h.tape, h.output, h.size, fun k hk hd => h.block k hk fun hb => by have := hs k hb; omega⟩
theorem OnlyIn.below {lo hi B : Nat} {w w' : World} (h : OnlyIn lo hi w w') (hB : B ≤ lo) (hw : B ≤ w.heap.size) : Below B w w' :=
  ⟨h.os, h.tape, h.output, h.size, fun k hk => h.block k (by omega) (.inl (by omega))⟩
theorem OnlyIn.before {lo hi : Nat} {w W w' : World} (h : OnlyIn lo hi W w') (hb : Below w.heap.size w W) : OnlyIn lo hi w w' :=
  ⟨h.os.trans hb.os, h.tape.trans hb.tape, h.output.trans hb.output, Nat.le_trans hb.size h.size, fun k hk hd => (h.block k (Nat.lt_of_lt_of_le hk hb.size) hd).trans (hb.block k hk)⟩
theorem M.At.onlyIn {m : M} {lo hi lo' hi' : Nat} {w w' : World} (h : m.At lo hi w) (k : OnlyIn lo' hi' w w') (hd : hi ≤ lo' ∨ hi' ≤ lo) : m.At lo hi w' :=
  ⟨⟨M.Own.frame m h.mine.own fun b hb => k.block b (h.mine.lt b hb).2 (by have := h.lt b hb; have := (h.mine.lt b hb).1; omega), h.mine.dup⟩, h.lt, Nat.le_trans h.hi k.size⟩
theorem ocell {lo hi : Nat} {w w' : World} (h : OnlyIn lo hi w w') :
    (∀ b o, (b < lo ∨ hi ≤ b) → b < w.heap.size → w'.cell? ⟨b, o, none⟩ = w.cell? ⟨b, o, none⟩) ∧ (∀ b o, (b < lo ∨ hi ≤ b) → b < w.heap.size → w'.frozen? ⟨b, o, none⟩ = w.frozen? ⟨b, o, none⟩) :=
  ⟨fun b o h1 h2 => World.cell?_of_block (w := w) (h.block b h2 h1), fun b o h1 h2 => World.frozen?_of_block (w := w) (h.block b h2 h1)⟩
/-- What marking leaves: the end value, the marked data in the old range, nothing else changed. -/
def MarkedAt (v : Value) (m : M) (lo hi : Nat) (w : World) (e : Ending) (w' : World) : Prop := e = .returned v ∧ m.At lo hi w' ∧ OnlyIn lo hi w w'
theorem MarkedAt.of {v : Value} {m m' : M} {lo hi : Nat} {w : World} {e : Ending} {w' : World} {bs : List Nat} (h : m.At lo hi w) (hv : e = .returned v) (hm : m'.Mine w' lo) (ho : Only bs w w')
    (hs : ∀ b ∈ bs, b ∈ m.blocks) (hs' : ∀ b ∈ m'.blocks, b ∈ m.blocks) : MarkedAt v m' lo hi w e w' :=
  ⟨hv, ⟨hm, fun b hb => h.lt b (hs' b hb), Nat.le_trans h.hi ho.size⟩, OnlyIn.of ho fun x hx => ⟨(h.mine.lt x (hs x hx)).1, h.lt x (hs x hx)⟩⟩
end Go.Proofs.YtghbnehocggnnaaDoor

/-
  Walks: symbols. No condition.
-/
set_option linter.unusedVariables false
set_option linter.unusedSimpArgs false
namespace Go.Proofs.YtghbnehocggnnaaDoor
open Go.RowKit

def byteAt (s : ByteArray) (k : Nat) : Int := ((s.data.toList.getD k 0).toNat : Int)
theorem byteAt_eq (s : ByteArray) (k : Nat) (h : k < s.size) : ((s[k]'h).toNat : Int) = byteAt s k := by
  unfold byteAt
  have h' : k < s.data.toList.length := by simpa using h
  rw [List.getD, List.getElem?_eq_getElem h']
  rfl
def isSymB (s : ByteArray) : Bool :=
  inB s.size 1 16 && (!digB (byteAt s 0) && (!(byteAt s 0 == 45 && (decide (1 < s.size) && digB (byteAt s 1))) && (List.range s.size).all fun k => symB (byteAt s k)))
theorem isSym_1 {s : ByteArray} (h : inB s.size 1 16 = false) : isSymB s = false := by simp [isSymB, h]
theorem isSym_2 {s : ByteArray} (h : digB (byteAt s 0) = true) : isSymB s = false := by simp [isSymB, h]
theorem isSym_3 {s : ByteArray} (h : byteAt s 0 = 45) (h1 : 1 < s.size) (h2 : digB (byteAt s 1) = true) : isSymB s = false := by simp [isSymB, h, h1, h2]
theorem isSym_4 {s : ByteArray} {k : Nat} (h : k < s.size) (h1 : symB (byteAt s k) = false) : isSymB s = false := by
  have : (List.range s.size).all (fun k => symB (byteAt s k)) = false := by
    rw [List.all_eq_false]; exact ⟨k, by simpa using h, by simp [h1]⟩
  simp [isSymB, this]
theorem isSym_5 {s : ByteArray} (h : inB s.size 1 16 = true) (h1 : digB (byteAt s 0) = false) (h2 : ¬ (byteAt s 0 = 45 ∧ 1 < s.size ∧ digB (byteAt s 1) = true)) (h3 : ∀ j, j < s.size → symB (byteAt s j) = true) : isSymB s = true := by
  have h4 : (List.range s.size).all (fun k => symB (byteAt s k)) = true := by
    rw [List.all_eq_true]; intro k hk; exact h3 k (by simpa using hk)
  have h5 : (byteAt s 0 == 45 && (decide (1 < s.size) && digB (byteAt s 1))) = false := by
    rw [Bool.eq_false_iff]; intro h; apply h2; simpa using h
  simp [isSymB, h, h1, h4, h5]

def SymHead (s : ByteArray) : Prop := inB s.size 1 16 = true ∧ digB (byteAt s 0) = false ∧ ¬ (byteAt s 0 = 45 ∧ 1 < s.size ∧ digB (byteAt s 1) = true)

theorem w_2 {s : ByteArray} (h0 : 0 < s.size) (h : digB ((s[0]'h0).toNat : Int) = true) : isSymB s = false := isSym_2 (by rw [← byteAt_eq s 0 h0]; exact h)
theorem w_3 {s : ByteArray} (h0 : 0 < s.size) (h1 : 1 < s.size) (h : ((s[0]'h0).toNat : Int) = 45) (h2 : digB ((s[1]'h1).toNat : Int) = true) : isSymB s = false :=
  isSym_3 (by rw [← byteAt_eq s 0 h0]; exact h) h1 (by rw [← byteAt_eq s 1 h1]; exact h2)
theorem hd_a {s : ByteArray} (h0 : 0 < s.size) (h : inB s.size 1 16 = true) (h1 : ¬ digB ((s[0]'h0).toNat : Int) = true) (h2 : ¬ ((s[0]'h0).toNat : Int) = 45) : SymHead s :=
  ⟨h, by rw [← byteAt_eq s 0 h0]; simpa using h1, fun hh => h2 (by rw [byteAt_eq s 0 h0]; exact hh.1)⟩
theorem hd_b {s : ByteArray} (h0 : 0 < s.size) (h : inB s.size 1 16 = true) (h1 : ¬ digB ((s[0]'h0).toNat : Int) = true) (h2 : (s.size : Int) ≤ 1) : SymHead s :=
  ⟨h, by rw [← byteAt_eq s 0 h0]; simpa using h1, fun hh => by omega⟩
theorem hd_c {s : ByteArray} (h0 : 0 < s.size) (h1' : 1 < s.size) (h : inB s.size 1 16 = true) (h1 : ¬ digB ((s[0]'h0).toNat : Int) = true) (h2 : digB ((s[1]'h1').toNat : Int) = false) : SymHead s :=
  ⟨h, by rw [← byteAt_eq s 0 h0]; simpa using h1, fun hh => by rw [← byteAt_eq s 1 h1', h2] at hh; simp at hh⟩

theorem sIsSymbol_calls (s : ByteArray) (w : World) (hs : s.size ≤ 9223372036854775807) : Calls Tryd.prog 40 #[.string s] w (RetEq (.bool (isSymB s)) w) := by
  by_cases h0 : 0 < s.size
  · go_enter Tryd.func40, Tryd.ntmps40
    go_wp2_with (first | (go_at_call 42; refine (l1In_calls _ _ _ _).mono ?_; rintro e w' ⟨rfl, rfl⟩) | (go_at_call 65; refine (l1Digit_calls _ _).mono ?_; rintro e w' ⟨rfl, rfl⟩))
    all_goals try (go_ret; refine ⟨ret_b (Eq.symm ?_), rfl⟩; first | exact w_2 h0 (by assumption) | exact w_3 h0 (by omega) (by assumption) (by assumption) | exact isSym_1 (by simpa using ‹¬ inB _ _ _ = true›))
    all_goals
      have HH : Hid (SymHead s) := by first | exact hd_a h0 ‹_› ‹_› ‹_› | exact hd_b h0 ‹_› ‹_› ‹_› | exact hd_c h0 (by omega) ‹_› ‹_› ‹_›
      try simp only [‹digB _ = false›]
      go_loop [3] (fun i => ∃ k : Nat, k ≤ s.size ∧ i = .int .i64 k ∧ ∀ j, j < k → symB (byteAt s j) = true) (fun i => s.size - (intOf i).toNat)
      case atStart => exact ⟨0, by omega, rfl, fun j h => by omega⟩
      case round =>
        obtain ⟨k, hk, rfl, hno⟩ := hrel
        by_cases hlt : k < s.size
        · have hb := byteAt_eq s k hlt
          have HNO := Lib.hid hno; clear hno; have HB := Lib.hid hb; clear hb
          go_wp2_with (go_at_call 66; refine (l1Mark_calls _ _).mono ?_; rintro e w' ⟨rfl, rfl⟩)
          · go_ret
            exact ⟨ret_b (isSym_4 hlt (by rw [← HB.out]; simpa using ‹(!symB _) = true›)).symm, rfl⟩
          · have hnx : ∀ j, j < k + 1 → symB (byteAt s j) = true := by
              intro j hj
              by_cases e : j = k
              · subst e; rw [← HB.out]; simpa using ‹(!symB _) = false›
              · exact HNO.out j (by omega)
            go_round
            case rel => exact ⟨k + 1, by omega, by go_num, hnx⟩
            case measure => simp [intOf]; omega
        · go_wp2
          go_ret
          have hk11 : k = s.size := by omega
          subst hk11
          exact ⟨ret_b (isSym_5 HH.out.1 HH.out.2.1 HH.out.2.2 hno).symm, rfl⟩
  · have hf : inB s.size 1 16 = false := by simp [inB]; omega
    go_enter Tryd.func40, Tryd.ntmps40
    go_wp2_with (first | (go_at_call 42; refine (l1In_calls _ _ _ _).mono ?_; rintro e w' ⟨rfl, rfl⟩) | (go_at_call 65; refine (l1Digit_calls _ _).mono ?_; rintro e w' ⟨rfl, rfl⟩))
    go_ret
    exact ⟨ret_b (isSym_1 hf).symm, rfl⟩

theorem iIsSymbol_calls (s : ByteArray) (w : World) (hs : s.size ≤ 9223372036854775807) : Calls Tryd.prog 44 #[.string s] w (RetEq (.bool (isSymB s)) w) := by
  by_cases h0 : 0 < s.size
  · by_cases h16 : s.size ≤ 16
    · have hin : inB s.size 1 16 = true := by simp [inB]; omega
      have HI := Lib.hid hin
      clear hin
      have q1 : decide ((s.size : Int) < 1) = false := by simp; omega
      have q2 : decide (16 < (s.size : Int)) = false := by simp; omega
      go_enter Tryd.func44, Tryd.ntmps44
      go_wp2_with (go_at_call 68; refine (isDigit_calls _ _).mono ?_; rintro e w' ⟨rfl, rfl⟩)
      all_goals try (go_ret; refine ⟨ret_b (Eq.symm ?_), rfl⟩; first | exact w_2 h0 (by assumption) | exact w_3 h0 (by omega) (by assumption) (by assumption))
      all_goals
        have HH : Hid (SymHead s) := by first | exact hd_a h0 HI.out ‹_› ‹_› | exact hd_b h0 HI.out ‹_› ‹_› | exact hd_c h0 (by omega) HI.out ‹_› ‹_›
        try simp only [‹digB _ = false›]
        go_loop [3] (fun i => ∃ k : Nat, k ≤ s.size ∧ i = .int .i64 k ∧ ∀ j, j < k → symB (byteAt s j) = true) (fun i => s.size - (intOf i).toNat)
        case atStart => exact ⟨0, by omega, rfl, fun j h => by omega⟩
        case round =>
          obtain ⟨k, hk, rfl, hno⟩ := hrel
          by_cases hlt : k < s.size
          · have hb := byteAt_eq s k hlt
            have HNO := Lib.hid hno; clear hno; have HB := Lib.hid hb; clear hb
            go_wp2_with (go_at_call 69; refine (symbolByte_calls _ _).mono ?_; rintro e w' ⟨rfl, rfl⟩)
            · go_ret
              exact ⟨ret_b (isSym_4 hlt (by rw [← HB.out]; simpa using ‹(!symB _) = true›)).symm, rfl⟩
            · have hnx : ∀ j, j < k + 1 → symB (byteAt s j) = true := by
                intro j hj
                by_cases e : j = k
                · subst e; rw [← HB.out]; simpa using ‹(!symB _) = false›
                · exact HNO.out j (by omega)
              go_round
              case rel => exact ⟨k + 1, by omega, by go_num, hnx⟩
              case measure => simp [intOf]; omega
          · go_wp2
            go_ret
            have hk11 : k = s.size := by omega
            subst hk11
            exact ⟨ret_b (isSym_5 HH.out.1 HH.out.2.1 HH.out.2.2 hno).symm, rfl⟩
    · have hf : inB s.size 1 16 = false := by simp [inB]; omega
      have HF := Lib.hid hf
      clear hf
      go_enter Tryd.func44, Tryd.ntmps44
      go_wp2
      go_ret
      exact ⟨ret_b (isSym_1 HF.out).symm, rfl⟩
  · have hf : inB s.size 1 16 = false := by simp [inB]; omega
    have HF := Lib.hid hf
    clear hf
    go_enter Tryd.func44, Tryd.ntmps44
    go_wp2
    go_ret
    exact ⟨ret_b (isSym_1 HF.out).symm, rfl⟩
end Go.Proofs.YtghbnehocggnnaaDoor

/-
  Walks: texts of strings. No condition.
-/
set_option linter.unusedVariables false
set_option linter.unusedSimpArgs false
set_option maxRecDepth 100000
namespace Go.Proofs.YtghbnehocggnnaaDoor
open Go.RowKit

def ChOk (n : Int) : Prop := 32 ≤ n ∧ n ≤ 126 ∧ ¬ n = 34
def StrOk (s : ByteArray) : Prop := s.size ≤ 20 ∧ ∀ j, j < s.size → ChOk (byteAt s j)
open Classical in
noncomputable def strB (s : ByteArray) : Bool := decide (StrOk s)
theorem strB_yes {s : ByteArray} (h : StrOk s) : strB s = true := by simp [strB, h]
theorem strB_no {s : ByteArray} (h : ¬ StrOk s) : strB s = false := by simp [strB, h]
theorem strB_bad {s : ByteArray} {k : Nat} (hk : k < s.size) (h : ¬ ChOk (byteAt s k)) : strB s = false := strB_no fun hs => h (hs.2 k hk)

theorem l1String_calls (s : ByteArray) (w : World) (hs : s.size ≤ 9223372036854775807) : Calls Tryd.prog 76 #[.string s] w (RetEq (.bool (strB s)) w) := by
  go_enter Tryd.func76, Tryd.ntmps76
  go_wp2_with fail
  go_loop [3] (fun i => ∃ k : Nat, k ≤ s.size ∧ i = .int .i64 k ∧ ∀ j, j < k → ChOk (byteAt s j)) (fun i => s.size - (intOf i).toNat)
  case atStart => exact ⟨0, by omega, rfl, fun j h => by omega⟩
  case round =>
    obtain ⟨k, hk, rfl, hno⟩ := hrel
    by_cases hlt : k < s.size
    · have hb := byteAt_eq s k hlt
      have HNO := Lib.hid hno; clear hno
      by_cases h1 : byteAt s k < 32
      · have hf := strB_bad hlt (by unfold ChOk; omega)
        have h1' : ((s[k]'hlt).toNat : Int) < 32 := by omega
        have HF := Lib.hid hf; clear hf; have HB := Lib.hid hb; clear hb
        go_wp2_with fail
        all_goals (first | (go_ret; exact ⟨ret_b HF.out.symm, rfl⟩) | (exfalso; omega))
      · by_cases h2 : 126 < byteAt s k
        · have hf := strB_bad hlt (by unfold ChOk; omega)
          have h1' : ¬ ((s[k]'hlt).toNat : Int) < 32 := by omega
          have h2' : 126 < ((s[k]'hlt).toNat : Int) := by omega
          have HF := Lib.hid hf; clear hf; have HB := Lib.hid hb; clear hb
          go_wp2_with fail
          all_goals (first | (go_ret; exact ⟨ret_b HF.out.symm, rfl⟩) | (exfalso; omega))
        · by_cases h3 : byteAt s k = 34
          · have hf := strB_bad hlt (by unfold ChOk; omega)
            have h1' : ¬ ((s[k]'hlt).toNat : Int) < 32 := by omega
            have h2' : ¬ 126 < ((s[k]'hlt).toNat : Int) := by omega
            have h3' : ((s[k]'hlt).toNat : Int) = 34 := by omega
            have HF := Lib.hid hf; clear hf; have HB := Lib.hid hb; clear hb
            go_wp2_with fail
            all_goals (first | (go_ret; exact ⟨ret_b HF.out.symm, rfl⟩) | (exfalso; omega))
          · have hnx : ∀ j, j < k + 1 → ChOk (byteAt s j) := by
              intro j hj
              by_cases e : j = k
              · subst e; unfold ChOk; omega
              · exact HNO.out j (by omega)
            have h1' : ¬ ((s[k]'hlt).toNat : Int) < 32 := by omega
            have h2' : ¬ 126 < ((s[k]'hlt).toNat : Int) := by omega
            have h3' : ¬ ((s[k]'hlt).toNat : Int) = 34 := by omega
            have HNX := Lib.hid hnx; clear hnx; have HB := Lib.hid hb; clear hb
            go_wp2_with fail
            go_round
            case rel => exact ⟨k + 1, by omega, by go_num, HNX.out⟩
            case measure => simp [intOf]; omega
    · have hk11 : k = s.size := by omega
      subst hk11
      by_cases h20 : s.size ≤ 20
      · have hy := strB_yes (s := s) ⟨h20, hno⟩
        have HNO := Lib.hid hno; clear hno; have HY := Lib.hid hy; clear hy
        go_wp2_with fail
        go_ret
        exact ⟨ret_b (by rw [HY.out]; simp; omega), rfl⟩
      · have hy := strB_no (s := s) (fun h => h20 h.1)
        have HNO := Lib.hid hno; clear hno; have HY := Lib.hid hy; clear hy
        go_wp2_with fail
        go_ret
        exact ⟨ret_b (by rw [HY.out]; simp; omega), rfl⟩
theorem stringText_calls (s : ByteArray) (w : World) (hs : s.size ≤ 9223372036854775807) : Calls Tryd.prog 52 #[.string s] w (RetEq (.bool (strB s)) w) := by
  by_cases h20 : s.size ≤ 20
  · go_enter Tryd.func52, Tryd.ntmps52
    go_wp2_with fail
    go_loop [3] (fun i => ∃ k : Nat, k ≤ s.size ∧ i = .int .i64 k ∧ ∀ j, j < k → ChOk (byteAt s j)) (fun i => s.size - (intOf i).toNat)
    case atStart => exact ⟨0, by omega, rfl, fun j h => by omega⟩
    case round =>
      obtain ⟨k, hk, rfl, hno⟩ := hrel
      by_cases hlt : k < s.size
      · have hb := byteAt_eq s k hlt
        have HNO := Lib.hid hno; clear hno
        by_cases h1 : byteAt s k < 32
        · have hf := strB_bad hlt (by unfold ChOk; omega)
          have h1' : ((s[k]'hlt).toNat : Int) < 32 := by omega
          have HF := Lib.hid hf; clear hf; have HB := Lib.hid hb; clear hb
          go_wp2_with fail
          all_goals (first | (go_ret; exact ⟨ret_b HF.out.symm, rfl⟩) | (exfalso; omega))
        · by_cases h2 : 126 < byteAt s k
          · have hf := strB_bad hlt (by unfold ChOk; omega)
            have h1' : ¬ ((s[k]'hlt).toNat : Int) < 32 := by omega
            have h2' : 126 < ((s[k]'hlt).toNat : Int) := by omega
            have HF := Lib.hid hf; clear hf; have HB := Lib.hid hb; clear hb
            go_wp2_with fail
            all_goals (first | (go_ret; exact ⟨ret_b HF.out.symm, rfl⟩) | (exfalso; omega))
          · by_cases h3 : byteAt s k = 34
            · have hf := strB_bad hlt (by unfold ChOk; omega)
              have h1' : ¬ ((s[k]'hlt).toNat : Int) < 32 := by omega
              have h2' : ¬ 126 < ((s[k]'hlt).toNat : Int) := by omega
              have h3' : ((s[k]'hlt).toNat : Int) = 34 := by omega
              have HF := Lib.hid hf; clear hf; have HB := Lib.hid hb; clear hb
              go_wp2_with fail
              all_goals (first | (go_ret; exact ⟨ret_b HF.out.symm, rfl⟩) | (exfalso; omega))
            · have hnx : ∀ j, j < k + 1 → ChOk (byteAt s j) := by
                intro j hj
                by_cases e : j = k
                · subst e; unfold ChOk; omega
                · exact HNO.out j (by omega)
              have h1' : ¬ ((s[k]'hlt).toNat : Int) < 32 := by omega
              have h2' : ¬ 126 < ((s[k]'hlt).toNat : Int) := by omega
              have h3' : ¬ ((s[k]'hlt).toNat : Int) = 34 := by omega
              have HNX := Lib.hid hnx; clear hnx; have HB := Lib.hid hb; clear hb
              go_wp2_with fail
              go_round
              case rel => exact ⟨k + 1, by omega, by go_num, HNX.out⟩
              case measure => simp [intOf]; omega
      · have hk11 : k = s.size := by omega
        subst hk11
        have hy := strB_yes (s := s) ⟨h20, hno⟩
        have HNO := Lib.hid hno; clear hno; have HY := Lib.hid hy; clear hy
        go_wp2_with fail
        go_ret
        exact ⟨ret_b (by rw [HY.out]), rfl⟩
  · have hy := strB_no (s := s) (fun h => h20 h.1)
    have HY := Lib.hid hy; clear hy
    go_enter Tryd.func52, Tryd.ntmps52
    go_wp2_with fail
    go_ret
    exact ⟨ret_b (by rw [HY.out]), rfl⟩
end Go.Proofs.YtghbnehocggnnaaDoor

/-
  Walks: a node's kind, number, text and length. No condition.
-/
set_option linter.unusedVariables false
set_option linter.unusedSimpArgs false
set_option maxRecDepth 100000
namespace Go.Proofs.YtghbnehocggnnaaDoor
open Go.RowKit

noncomputable def nodeB (k n : Int) (s : ByteArray) (l : Int) : Bool :=
  if k = 0 then decide (n = 0) && s.toList.isEmpty
  else if k = 1 then decide (n = 0) && (isSymB s && decide (l = 0))
  else if k = 2 then inB n (-999999999) 999999999 && (s.toList.isEmpty && decide (l = 0))
  else if k = 3 then inB n 0 1 && (s.toList.isEmpty && decide (l = 0))
  else if k = 4 then decide (n = 0) && (strB s && decide (l = 0))
  else false

set_option maxHeartbeats 4000000 in
theorem l1Node_calls (k n : Int) (s : ByteArray) (l : Int) (w : World) (hs : s.size ≤ 9223372036854775807) : Calls Tryd.prog 75 #[.int .i64 k, .int .i64 n, .string s, .int .i64 l] w (RetEq (.bool (nodeB k n s l)) w) := by
  by_cases k0 : k = 0
  · subst k0
    by_cases hn : n = 0
    · skip
      cases he : s.toList.isEmpty with
      | true =>
        have hy : nodeB 0 n s l = true := by first | (simp [nodeB, *]; done) | (simp [nodeB, *]; decide)
        have HY := Lib.hid hy; clear hy
        go_enter Tryd.func75, Tryd.ntmps75
        go_wp2_with (first | (go_at_call 40; refine (sIsSymbol_calls _ _ hs).mono ?_; rintro e w' ⟨rfl, rfl⟩) | (go_at_call 76; refine (l1String_calls _ _ hs).mono ?_; rintro e w' ⟨rfl, rfl⟩) | (go_at_call 42; refine (l1In_calls _ _ _ _).mono ?_; rintro e w' ⟨rfl, rfl⟩))
        all_goals (go_ret; first | exact ⟨ret_b HY.out.symm, rfl⟩ | exact ⟨ret_b (by rw [HY.out]; simp [*]), rfl⟩)
      | false =>
        have hy : nodeB 0 n s l = false := by first | (simp [nodeB, *]; done) | (simp [nodeB, *]; decide)
        have HY := Lib.hid hy; clear hy
        go_enter Tryd.func75, Tryd.ntmps75
        go_wp2_with (first | (go_at_call 40; refine (sIsSymbol_calls _ _ hs).mono ?_; rintro e w' ⟨rfl, rfl⟩) | (go_at_call 76; refine (l1String_calls _ _ hs).mono ?_; rintro e w' ⟨rfl, rfl⟩) | (go_at_call 42; refine (l1In_calls _ _ _ _).mono ?_; rintro e w' ⟨rfl, rfl⟩))
        all_goals (go_ret; first | exact ⟨ret_b HY.out.symm, rfl⟩ | exact ⟨ret_b (by rw [HY.out]; simp [*]), rfl⟩)
    · skip
      have hy : nodeB 0 n s l = false := by first | (simp [nodeB, *]; done) | (simp [nodeB, *]; decide)
      have HY := Lib.hid hy; clear hy
      go_enter Tryd.func75, Tryd.ntmps75
      go_wp2_with (first | (go_at_call 40; refine (sIsSymbol_calls _ _ hs).mono ?_; rintro e w' ⟨rfl, rfl⟩) | (go_at_call 76; refine (l1String_calls _ _ hs).mono ?_; rintro e w' ⟨rfl, rfl⟩) | (go_at_call 42; refine (l1In_calls _ _ _ _).mono ?_; rintro e w' ⟨rfl, rfl⟩))
      all_goals (go_ret; first | exact ⟨ret_b HY.out.symm, rfl⟩ | exact ⟨ret_b (by rw [HY.out]; simp [*]), rfl⟩)
  by_cases k1 : k = 1
  · subst k1
    by_cases hn : n = 0
    · skip
      cases hy : isSymB s with
      | true =>
        by_cases hl : l = 0
        · skip
          have hy : nodeB 1 n s l = true := by first | (simp [nodeB, *]; done) | (simp [nodeB, *]; decide)
          have HY := Lib.hid hy; clear hy
          go_enter Tryd.func75, Tryd.ntmps75
          go_wp2_with (first | (go_at_call 40; refine (sIsSymbol_calls _ _ hs).mono ?_; rintro e w' ⟨rfl, rfl⟩) | (go_at_call 76; refine (l1String_calls _ _ hs).mono ?_; rintro e w' ⟨rfl, rfl⟩) | (go_at_call 42; refine (l1In_calls _ _ _ _).mono ?_; rintro e w' ⟨rfl, rfl⟩))
          all_goals (go_ret; first | exact ⟨ret_b HY.out.symm, rfl⟩ | exact ⟨ret_b (by rw [HY.out]; simp [*]), rfl⟩)
        · skip
          have hy : nodeB 1 n s l = false := by first | (simp [nodeB, *]; done) | (simp [nodeB, *]; decide)
          have HY := Lib.hid hy; clear hy
          go_enter Tryd.func75, Tryd.ntmps75
          go_wp2_with (first | (go_at_call 40; refine (sIsSymbol_calls _ _ hs).mono ?_; rintro e w' ⟨rfl, rfl⟩) | (go_at_call 76; refine (l1String_calls _ _ hs).mono ?_; rintro e w' ⟨rfl, rfl⟩) | (go_at_call 42; refine (l1In_calls _ _ _ _).mono ?_; rintro e w' ⟨rfl, rfl⟩))
          all_goals (go_ret; first | exact ⟨ret_b HY.out.symm, rfl⟩ | exact ⟨ret_b (by rw [HY.out]; simp [*]), rfl⟩)
      | false =>
        have hy : nodeB 1 n s l = false := by first | (simp [nodeB, *]; done) | (simp [nodeB, *]; decide)
        have HY := Lib.hid hy; clear hy
        go_enter Tryd.func75, Tryd.ntmps75
        go_wp2_with (first | (go_at_call 40; refine (sIsSymbol_calls _ _ hs).mono ?_; rintro e w' ⟨rfl, rfl⟩) | (go_at_call 76; refine (l1String_calls _ _ hs).mono ?_; rintro e w' ⟨rfl, rfl⟩) | (go_at_call 42; refine (l1In_calls _ _ _ _).mono ?_; rintro e w' ⟨rfl, rfl⟩))
        all_goals (go_ret; first | exact ⟨ret_b HY.out.symm, rfl⟩ | exact ⟨ret_b (by rw [HY.out]; simp [*]), rfl⟩)
    · skip
      have hy : nodeB 1 n s l = false := by first | (simp [nodeB, *]; done) | (simp [nodeB, *]; decide)
      have HY := Lib.hid hy; clear hy
      go_enter Tryd.func75, Tryd.ntmps75
      go_wp2_with (first | (go_at_call 40; refine (sIsSymbol_calls _ _ hs).mono ?_; rintro e w' ⟨rfl, rfl⟩) | (go_at_call 76; refine (l1String_calls _ _ hs).mono ?_; rintro e w' ⟨rfl, rfl⟩) | (go_at_call 42; refine (l1In_calls _ _ _ _).mono ?_; rintro e w' ⟨rfl, rfl⟩))
      all_goals (go_ret; first | exact ⟨ret_b HY.out.symm, rfl⟩ | exact ⟨ret_b (by rw [HY.out]; simp [*]), rfl⟩)
  by_cases k2 : k = 2
  · subst k2
    by_cases ha : -999999999 ≤ n
    · by_cases hb : n ≤ 999999999
      · have hin : inB n (-999999999) 999999999 = true := by simp [inB, ha, hb]
        cases he : s.toList.isEmpty with
        | true =>
          by_cases hl : l = 0
          · skip
            have hy : nodeB 2 n s l = true := by first | (simp [nodeB, *]; done) | (simp [nodeB, *]; decide)
            have HY := Lib.hid hy; clear hy
            go_enter Tryd.func75, Tryd.ntmps75
            go_wp2_with (first | (go_at_call 40; refine (sIsSymbol_calls _ _ hs).mono ?_; rintro e w' ⟨rfl, rfl⟩) | (go_at_call 76; refine (l1String_calls _ _ hs).mono ?_; rintro e w' ⟨rfl, rfl⟩) | (go_at_call 42; refine (l1In_calls _ _ _ _).mono ?_; rintro e w' ⟨rfl, rfl⟩))
            all_goals (go_ret; first | exact ⟨ret_b HY.out.symm, rfl⟩ | exact ⟨ret_b (by rw [HY.out]; simp [*]), rfl⟩)
          · skip
            have hy : nodeB 2 n s l = false := by first | (simp [nodeB, *]; done) | (simp [nodeB, *]; decide)
            have HY := Lib.hid hy; clear hy
            go_enter Tryd.func75, Tryd.ntmps75
            go_wp2_with (first | (go_at_call 40; refine (sIsSymbol_calls _ _ hs).mono ?_; rintro e w' ⟨rfl, rfl⟩) | (go_at_call 76; refine (l1String_calls _ _ hs).mono ?_; rintro e w' ⟨rfl, rfl⟩) | (go_at_call 42; refine (l1In_calls _ _ _ _).mono ?_; rintro e w' ⟨rfl, rfl⟩))
            all_goals (go_ret; first | exact ⟨ret_b HY.out.symm, rfl⟩ | exact ⟨ret_b (by rw [HY.out]; simp [*]), rfl⟩)
        | false =>
          have hy : nodeB 2 n s l = false := by first | (simp [nodeB, *]; done) | (simp [nodeB, *]; decide)
          have HY := Lib.hid hy; clear hy
          go_enter Tryd.func75, Tryd.ntmps75
          go_wp2_with (first | (go_at_call 40; refine (sIsSymbol_calls _ _ hs).mono ?_; rintro e w' ⟨rfl, rfl⟩) | (go_at_call 76; refine (l1String_calls _ _ hs).mono ?_; rintro e w' ⟨rfl, rfl⟩) | (go_at_call 42; refine (l1In_calls _ _ _ _).mono ?_; rintro e w' ⟨rfl, rfl⟩))
          all_goals (go_ret; first | exact ⟨ret_b HY.out.symm, rfl⟩ | exact ⟨ret_b (by rw [HY.out]; simp [*]), rfl⟩)
      · have hin : inB n (-999999999) 999999999 = false := by simp [inB, ha, hb]
        have hy : nodeB 2 n s l = false := by first | (simp [nodeB, *]; done) | (simp [nodeB, *]; decide)
        have HY := Lib.hid hy; clear hy
        go_enter Tryd.func75, Tryd.ntmps75
        go_wp2_with (first | (go_at_call 40; refine (sIsSymbol_calls _ _ hs).mono ?_; rintro e w' ⟨rfl, rfl⟩) | (go_at_call 76; refine (l1String_calls _ _ hs).mono ?_; rintro e w' ⟨rfl, rfl⟩) | (go_at_call 42; refine (l1In_calls _ _ _ _).mono ?_; rintro e w' ⟨rfl, rfl⟩))
        all_goals (go_ret; first | exact ⟨ret_b HY.out.symm, rfl⟩ | exact ⟨ret_b (by rw [HY.out]; simp [*]), rfl⟩)
    · have hin : inB n (-999999999) 999999999 = false := by simp [inB, ha]
      have hy : nodeB 2 n s l = false := by first | (simp [nodeB, *]; done) | (simp [nodeB, *]; decide)
      have HY := Lib.hid hy; clear hy
      go_enter Tryd.func75, Tryd.ntmps75
      go_wp2_with (first | (go_at_call 40; refine (sIsSymbol_calls _ _ hs).mono ?_; rintro e w' ⟨rfl, rfl⟩) | (go_at_call 76; refine (l1String_calls _ _ hs).mono ?_; rintro e w' ⟨rfl, rfl⟩) | (go_at_call 42; refine (l1In_calls _ _ _ _).mono ?_; rintro e w' ⟨rfl, rfl⟩))
      all_goals (go_ret; first | exact ⟨ret_b HY.out.symm, rfl⟩ | exact ⟨ret_b (by rw [HY.out]; simp [*]), rfl⟩)
  by_cases k3 : k = 3
  · subst k3
    by_cases ha : n = 0
    · have hin : inB n 0 1 = true := by rw [ha]; decide
      cases he : s.toList.isEmpty with
      | true =>
        by_cases hl : l = 0
        · skip
          have hy : nodeB 3 n s l = true := by first | (simp [nodeB, *]; done) | (simp [nodeB, *]; decide)
          have HY := Lib.hid hy; clear hy
          go_enter Tryd.func75, Tryd.ntmps75
          go_wp2_with (first | (go_at_call 40; refine (sIsSymbol_calls _ _ hs).mono ?_; rintro e w' ⟨rfl, rfl⟩) | (go_at_call 76; refine (l1String_calls _ _ hs).mono ?_; rintro e w' ⟨rfl, rfl⟩) | (go_at_call 42; refine (l1In_calls _ _ _ _).mono ?_; rintro e w' ⟨rfl, rfl⟩))
          all_goals (go_ret; first | exact ⟨ret_b HY.out.symm, rfl⟩ | exact ⟨ret_b (by rw [HY.out]; simp [*]), rfl⟩)
        · skip
          have hy : nodeB 3 n s l = false := by first | (simp [nodeB, *]; done) | (simp [nodeB, *]; decide)
          have HY := Lib.hid hy; clear hy
          go_enter Tryd.func75, Tryd.ntmps75
          go_wp2_with (first | (go_at_call 40; refine (sIsSymbol_calls _ _ hs).mono ?_; rintro e w' ⟨rfl, rfl⟩) | (go_at_call 76; refine (l1String_calls _ _ hs).mono ?_; rintro e w' ⟨rfl, rfl⟩) | (go_at_call 42; refine (l1In_calls _ _ _ _).mono ?_; rintro e w' ⟨rfl, rfl⟩))
          all_goals (go_ret; first | exact ⟨ret_b HY.out.symm, rfl⟩ | exact ⟨ret_b (by rw [HY.out]; simp [*]), rfl⟩)
      | false =>
        have hy : nodeB 3 n s l = false := by first | (simp [nodeB, *]; done) | (simp [nodeB, *]; decide)
        have HY := Lib.hid hy; clear hy
        go_enter Tryd.func75, Tryd.ntmps75
        go_wp2_with (first | (go_at_call 40; refine (sIsSymbol_calls _ _ hs).mono ?_; rintro e w' ⟨rfl, rfl⟩) | (go_at_call 76; refine (l1String_calls _ _ hs).mono ?_; rintro e w' ⟨rfl, rfl⟩) | (go_at_call 42; refine (l1In_calls _ _ _ _).mono ?_; rintro e w' ⟨rfl, rfl⟩))
        all_goals (go_ret; first | exact ⟨ret_b HY.out.symm, rfl⟩ | exact ⟨ret_b (by rw [HY.out]; simp [*]), rfl⟩)
    · by_cases hb : n = 1
      · have hin : inB n 0 1 = true := by rw [hb]; decide
        cases he : s.toList.isEmpty with
        | true =>
          by_cases hl : l = 0
          · skip
            have hy : nodeB 3 n s l = true := by first | (simp [nodeB, *]; done) | (simp [nodeB, *]; decide)
            have HY := Lib.hid hy; clear hy
            go_enter Tryd.func75, Tryd.ntmps75
            go_wp2_with (first | (go_at_call 40; refine (sIsSymbol_calls _ _ hs).mono ?_; rintro e w' ⟨rfl, rfl⟩) | (go_at_call 76; refine (l1String_calls _ _ hs).mono ?_; rintro e w' ⟨rfl, rfl⟩) | (go_at_call 42; refine (l1In_calls _ _ _ _).mono ?_; rintro e w' ⟨rfl, rfl⟩))
            all_goals (go_ret; first | exact ⟨ret_b HY.out.symm, rfl⟩ | exact ⟨ret_b (by rw [HY.out]; simp [*]), rfl⟩)
          · skip
            have hy : nodeB 3 n s l = false := by first | (simp [nodeB, *]; done) | (simp [nodeB, *]; decide)
            have HY := Lib.hid hy; clear hy
            go_enter Tryd.func75, Tryd.ntmps75
            go_wp2_with (first | (go_at_call 40; refine (sIsSymbol_calls _ _ hs).mono ?_; rintro e w' ⟨rfl, rfl⟩) | (go_at_call 76; refine (l1String_calls _ _ hs).mono ?_; rintro e w' ⟨rfl, rfl⟩) | (go_at_call 42; refine (l1In_calls _ _ _ _).mono ?_; rintro e w' ⟨rfl, rfl⟩))
            all_goals (go_ret; first | exact ⟨ret_b HY.out.symm, rfl⟩ | exact ⟨ret_b (by rw [HY.out]; simp [*]), rfl⟩)
        | false =>
          have hy : nodeB 3 n s l = false := by first | (simp [nodeB, *]; done) | (simp [nodeB, *]; decide)
          have HY := Lib.hid hy; clear hy
          go_enter Tryd.func75, Tryd.ntmps75
          go_wp2_with (first | (go_at_call 40; refine (sIsSymbol_calls _ _ hs).mono ?_; rintro e w' ⟨rfl, rfl⟩) | (go_at_call 76; refine (l1String_calls _ _ hs).mono ?_; rintro e w' ⟨rfl, rfl⟩) | (go_at_call 42; refine (l1In_calls _ _ _ _).mono ?_; rintro e w' ⟨rfl, rfl⟩))
          all_goals (go_ret; first | exact ⟨ret_b HY.out.symm, rfl⟩ | exact ⟨ret_b (by rw [HY.out]; simp [*]), rfl⟩)
      · have hin : inB n 0 1 = false := by simp [inB]; omega
        have hy : nodeB 3 n s l = false := by first | (simp [nodeB, *]; done) | (simp [nodeB, *]; decide)
        have HY := Lib.hid hy; clear hy
        go_enter Tryd.func75, Tryd.ntmps75
        go_wp2_with (first | (go_at_call 40; refine (sIsSymbol_calls _ _ hs).mono ?_; rintro e w' ⟨rfl, rfl⟩) | (go_at_call 76; refine (l1String_calls _ _ hs).mono ?_; rintro e w' ⟨rfl, rfl⟩) | (go_at_call 42; refine (l1In_calls _ _ _ _).mono ?_; rintro e w' ⟨rfl, rfl⟩))
        all_goals (go_ret; first | exact ⟨ret_b HY.out.symm, rfl⟩ | exact ⟨ret_b (by rw [HY.out]; simp [*]), rfl⟩)
  by_cases k4 : k = 4
  · subst k4
    by_cases hn : n = 0
    · skip
      cases ht : strB s with
      | true =>
        by_cases hl : l = 0
        · skip
          have hy : nodeB 4 n s l = true := by first | (simp [nodeB, *]; done) | (simp [nodeB, *]; decide)
          have HY := Lib.hid hy; clear hy
          go_enter Tryd.func75, Tryd.ntmps75
          go_wp2_with (first | (go_at_call 40; refine (sIsSymbol_calls _ _ hs).mono ?_; rintro e w' ⟨rfl, rfl⟩) | (go_at_call 76; refine (l1String_calls _ _ hs).mono ?_; rintro e w' ⟨rfl, rfl⟩) | (go_at_call 42; refine (l1In_calls _ _ _ _).mono ?_; rintro e w' ⟨rfl, rfl⟩))
          all_goals (go_ret; first | exact ⟨ret_b HY.out.symm, rfl⟩ | exact ⟨ret_b (by rw [HY.out]; simp [*]), rfl⟩)
        · skip
          have hy : nodeB 4 n s l = false := by first | (simp [nodeB, *]; done) | (simp [nodeB, *]; decide)
          have HY := Lib.hid hy; clear hy
          go_enter Tryd.func75, Tryd.ntmps75
          go_wp2_with (first | (go_at_call 40; refine (sIsSymbol_calls _ _ hs).mono ?_; rintro e w' ⟨rfl, rfl⟩) | (go_at_call 76; refine (l1String_calls _ _ hs).mono ?_; rintro e w' ⟨rfl, rfl⟩) | (go_at_call 42; refine (l1In_calls _ _ _ _).mono ?_; rintro e w' ⟨rfl, rfl⟩))
          all_goals (go_ret; first | exact ⟨ret_b HY.out.symm, rfl⟩ | exact ⟨ret_b (by rw [HY.out]; simp [*]), rfl⟩)
      | false =>
        have hy : nodeB 4 n s l = false := by first | (simp [nodeB, *]; done) | (simp [nodeB, *]; decide)
        have HY := Lib.hid hy; clear hy
        go_enter Tryd.func75, Tryd.ntmps75
        go_wp2_with (first | (go_at_call 40; refine (sIsSymbol_calls _ _ hs).mono ?_; rintro e w' ⟨rfl, rfl⟩) | (go_at_call 76; refine (l1String_calls _ _ hs).mono ?_; rintro e w' ⟨rfl, rfl⟩) | (go_at_call 42; refine (l1In_calls _ _ _ _).mono ?_; rintro e w' ⟨rfl, rfl⟩))
        all_goals (go_ret; first | exact ⟨ret_b HY.out.symm, rfl⟩ | exact ⟨ret_b (by rw [HY.out]; simp [*]), rfl⟩)
    · skip
      have hy : nodeB 4 n s l = false := by first | (simp [nodeB, *]; done) | (simp [nodeB, *]; decide)
      have HY := Lib.hid hy; clear hy
      go_enter Tryd.func75, Tryd.ntmps75
      go_wp2_with (first | (go_at_call 40; refine (sIsSymbol_calls _ _ hs).mono ?_; rintro e w' ⟨rfl, rfl⟩) | (go_at_call 76; refine (l1String_calls _ _ hs).mono ?_; rintro e w' ⟨rfl, rfl⟩) | (go_at_call 42; refine (l1In_calls _ _ _ _).mono ?_; rintro e w' ⟨rfl, rfl⟩))
      all_goals (go_ret; first | exact ⟨ret_b HY.out.symm, rfl⟩ | exact ⟨ret_b (by rw [HY.out]; simp [*]), rfl⟩)
  have hy : nodeB k n s l = false := by first | (simp [nodeB, *]; done) | (simp [nodeB, *]; decide)
  have HY := Lib.hid hy; clear hy
  go_enter Tryd.func75, Tryd.ntmps75
  go_wp2_with (first | (go_at_call 40; refine (sIsSymbol_calls _ _ hs).mono ?_; rintro e w' ⟨rfl, rfl⟩) | (go_at_call 76; refine (l1String_calls _ _ hs).mono ?_; rintro e w' ⟨rfl, rfl⟩) | (go_at_call 42; refine (l1In_calls _ _ _ _).mono ?_; rintro e w' ⟨rfl, rfl⟩))
  all_goals (go_ret; first | exact ⟨ret_b HY.out.symm, rfl⟩ | exact ⟨ret_b (by rw [HY.out]; simp [*]), rfl⟩)
set_option maxHeartbeats 4000000 in
theorem rightNode_calls (k n : Int) (s : ByteArray) (l : Int) (w : World) (hs : s.size ≤ 9223372036854775807) : Calls Tryd.prog 73 #[.int .i64 k, .int .i64 n, .string s, .int .i64 l] w (RetEq (.bool (nodeB k n s l)) w) := by
  by_cases k0 : k = 0
  · subst k0
    by_cases hn : n = 0
    · skip
      cases he : s.toList.isEmpty with
      | true =>
        have hy : nodeB 0 n s l = true := by first | (simp [nodeB, *]; done) | (simp [nodeB, *]; decide)
        have HY := Lib.hid hy; clear hy
        go_enter Tryd.func73, Tryd.ntmps73
        go_wp2_with (first | (go_at_call 44; refine (iIsSymbol_calls _ _ hs).mono ?_; rintro e w' ⟨rfl, rfl⟩) | (go_at_call 52; refine (stringText_calls _ _ hs).mono ?_; rintro e w' ⟨rfl, rfl⟩))
        all_goals (go_ret; first | exact ⟨ret_b HY.out.symm, rfl⟩ | exact ⟨ret_b (by rw [HY.out]; simp [*]), rfl⟩)
      | false =>
        have hy : nodeB 0 n s l = false := by first | (simp [nodeB, *]; done) | (simp [nodeB, *]; decide)
        have HY := Lib.hid hy; clear hy
        go_enter Tryd.func73, Tryd.ntmps73
        go_wp2_with (first | (go_at_call 44; refine (iIsSymbol_calls _ _ hs).mono ?_; rintro e w' ⟨rfl, rfl⟩) | (go_at_call 52; refine (stringText_calls _ _ hs).mono ?_; rintro e w' ⟨rfl, rfl⟩))
        all_goals (go_ret; first | exact ⟨ret_b HY.out.symm, rfl⟩ | exact ⟨ret_b (by rw [HY.out]; simp [*]), rfl⟩)
    · skip
      have hy : nodeB 0 n s l = false := by first | (simp [nodeB, *]; done) | (simp [nodeB, *]; decide)
      have HY := Lib.hid hy; clear hy
      go_enter Tryd.func73, Tryd.ntmps73
      go_wp2_with (first | (go_at_call 44; refine (iIsSymbol_calls _ _ hs).mono ?_; rintro e w' ⟨rfl, rfl⟩) | (go_at_call 52; refine (stringText_calls _ _ hs).mono ?_; rintro e w' ⟨rfl, rfl⟩))
      all_goals (go_ret; first | exact ⟨ret_b HY.out.symm, rfl⟩ | exact ⟨ret_b (by rw [HY.out]; simp [*]), rfl⟩)
  by_cases k1 : k = 1
  · subst k1
    by_cases hn : n = 0
    · skip
      cases hy : isSymB s with
      | true =>
        by_cases hl : l = 0
        · skip
          have hy : nodeB 1 n s l = true := by first | (simp [nodeB, *]; done) | (simp [nodeB, *]; decide)
          have HY := Lib.hid hy; clear hy
          go_enter Tryd.func73, Tryd.ntmps73
          go_wp2_with (first | (go_at_call 44; refine (iIsSymbol_calls _ _ hs).mono ?_; rintro e w' ⟨rfl, rfl⟩) | (go_at_call 52; refine (stringText_calls _ _ hs).mono ?_; rintro e w' ⟨rfl, rfl⟩))
          all_goals (go_ret; first | exact ⟨ret_b HY.out.symm, rfl⟩ | exact ⟨ret_b (by rw [HY.out]; simp [*]), rfl⟩)
        · skip
          have hy : nodeB 1 n s l = false := by first | (simp [nodeB, *]; done) | (simp [nodeB, *]; decide)
          have HY := Lib.hid hy; clear hy
          go_enter Tryd.func73, Tryd.ntmps73
          go_wp2_with (first | (go_at_call 44; refine (iIsSymbol_calls _ _ hs).mono ?_; rintro e w' ⟨rfl, rfl⟩) | (go_at_call 52; refine (stringText_calls _ _ hs).mono ?_; rintro e w' ⟨rfl, rfl⟩))
          all_goals (go_ret; first | exact ⟨ret_b HY.out.symm, rfl⟩ | exact ⟨ret_b (by rw [HY.out]; simp [*]), rfl⟩)
      | false =>
        have hy : nodeB 1 n s l = false := by first | (simp [nodeB, *]; done) | (simp [nodeB, *]; decide)
        have HY := Lib.hid hy; clear hy
        go_enter Tryd.func73, Tryd.ntmps73
        go_wp2_with (first | (go_at_call 44; refine (iIsSymbol_calls _ _ hs).mono ?_; rintro e w' ⟨rfl, rfl⟩) | (go_at_call 52; refine (stringText_calls _ _ hs).mono ?_; rintro e w' ⟨rfl, rfl⟩))
        all_goals (go_ret; first | exact ⟨ret_b HY.out.symm, rfl⟩ | exact ⟨ret_b (by rw [HY.out]; simp [*]), rfl⟩)
    · skip
      have hy : nodeB 1 n s l = false := by first | (simp [nodeB, *]; done) | (simp [nodeB, *]; decide)
      have HY := Lib.hid hy; clear hy
      go_enter Tryd.func73, Tryd.ntmps73
      go_wp2_with (first | (go_at_call 44; refine (iIsSymbol_calls _ _ hs).mono ?_; rintro e w' ⟨rfl, rfl⟩) | (go_at_call 52; refine (stringText_calls _ _ hs).mono ?_; rintro e w' ⟨rfl, rfl⟩))
      all_goals (go_ret; first | exact ⟨ret_b HY.out.symm, rfl⟩ | exact ⟨ret_b (by rw [HY.out]; simp [*]), rfl⟩)
  by_cases k2 : k = 2
  · subst k2
    by_cases ha : -999999999 ≤ n
    · by_cases hb : n ≤ 999999999
      · have hin : inB n (-999999999) 999999999 = true := by simp [inB, ha, hb]
        cases he : s.toList.isEmpty with
        | true =>
          by_cases hl : l = 0
          · skip
            have hy : nodeB 2 n s l = true := by first | (simp [nodeB, *]; done) | (simp [nodeB, *]; decide)
            have HY := Lib.hid hy; clear hy
            go_enter Tryd.func73, Tryd.ntmps73
            go_wp2_with (first | (go_at_call 44; refine (iIsSymbol_calls _ _ hs).mono ?_; rintro e w' ⟨rfl, rfl⟩) | (go_at_call 52; refine (stringText_calls _ _ hs).mono ?_; rintro e w' ⟨rfl, rfl⟩))
            all_goals (go_ret; first | exact ⟨ret_b HY.out.symm, rfl⟩ | exact ⟨ret_b (by rw [HY.out]; simp [*]), rfl⟩)
          · skip
            have hy : nodeB 2 n s l = false := by first | (simp [nodeB, *]; done) | (simp [nodeB, *]; decide)
            have HY := Lib.hid hy; clear hy
            go_enter Tryd.func73, Tryd.ntmps73
            go_wp2_with (first | (go_at_call 44; refine (iIsSymbol_calls _ _ hs).mono ?_; rintro e w' ⟨rfl, rfl⟩) | (go_at_call 52; refine (stringText_calls _ _ hs).mono ?_; rintro e w' ⟨rfl, rfl⟩))
            all_goals (go_ret; first | exact ⟨ret_b HY.out.symm, rfl⟩ | exact ⟨ret_b (by rw [HY.out]; simp [*]), rfl⟩)
        | false =>
          have hy : nodeB 2 n s l = false := by first | (simp [nodeB, *]; done) | (simp [nodeB, *]; decide)
          have HY := Lib.hid hy; clear hy
          go_enter Tryd.func73, Tryd.ntmps73
          go_wp2_with (first | (go_at_call 44; refine (iIsSymbol_calls _ _ hs).mono ?_; rintro e w' ⟨rfl, rfl⟩) | (go_at_call 52; refine (stringText_calls _ _ hs).mono ?_; rintro e w' ⟨rfl, rfl⟩))
          all_goals (go_ret; first | exact ⟨ret_b HY.out.symm, rfl⟩ | exact ⟨ret_b (by rw [HY.out]; simp [*]), rfl⟩)
      · have hin : inB n (-999999999) 999999999 = false := by simp [inB, ha, hb]
        have hy : nodeB 2 n s l = false := by first | (simp [nodeB, *]; done) | (simp [nodeB, *]; decide)
        have HY := Lib.hid hy; clear hy
        go_enter Tryd.func73, Tryd.ntmps73
        go_wp2_with (first | (go_at_call 44; refine (iIsSymbol_calls _ _ hs).mono ?_; rintro e w' ⟨rfl, rfl⟩) | (go_at_call 52; refine (stringText_calls _ _ hs).mono ?_; rintro e w' ⟨rfl, rfl⟩))
        all_goals (go_ret; first | exact ⟨ret_b HY.out.symm, rfl⟩ | exact ⟨ret_b (by rw [HY.out]; simp [*]), rfl⟩)
    · have hin : inB n (-999999999) 999999999 = false := by simp [inB, ha]
      have hy : nodeB 2 n s l = false := by first | (simp [nodeB, *]; done) | (simp [nodeB, *]; decide)
      have HY := Lib.hid hy; clear hy
      go_enter Tryd.func73, Tryd.ntmps73
      go_wp2_with (first | (go_at_call 44; refine (iIsSymbol_calls _ _ hs).mono ?_; rintro e w' ⟨rfl, rfl⟩) | (go_at_call 52; refine (stringText_calls _ _ hs).mono ?_; rintro e w' ⟨rfl, rfl⟩))
      all_goals (go_ret; first | exact ⟨ret_b HY.out.symm, rfl⟩ | exact ⟨ret_b (by rw [HY.out]; simp [*]), rfl⟩)
  by_cases k3 : k = 3
  · subst k3
    by_cases ha : n = 0
    · have hin : inB n 0 1 = true := by rw [ha]; decide
      cases he : s.toList.isEmpty with
      | true =>
        by_cases hl : l = 0
        · skip
          have hy : nodeB 3 n s l = true := by first | (simp [nodeB, *]; done) | (simp [nodeB, *]; decide)
          have HY := Lib.hid hy; clear hy
          go_enter Tryd.func73, Tryd.ntmps73
          go_wp2_with (first | (go_at_call 44; refine (iIsSymbol_calls _ _ hs).mono ?_; rintro e w' ⟨rfl, rfl⟩) | (go_at_call 52; refine (stringText_calls _ _ hs).mono ?_; rintro e w' ⟨rfl, rfl⟩))
          all_goals (go_ret; first | exact ⟨ret_b HY.out.symm, rfl⟩ | exact ⟨ret_b (by rw [HY.out]; simp [*]), rfl⟩)
        · skip
          have hy : nodeB 3 n s l = false := by first | (simp [nodeB, *]; done) | (simp [nodeB, *]; decide)
          have HY := Lib.hid hy; clear hy
          go_enter Tryd.func73, Tryd.ntmps73
          go_wp2_with (first | (go_at_call 44; refine (iIsSymbol_calls _ _ hs).mono ?_; rintro e w' ⟨rfl, rfl⟩) | (go_at_call 52; refine (stringText_calls _ _ hs).mono ?_; rintro e w' ⟨rfl, rfl⟩))
          all_goals (go_ret; first | exact ⟨ret_b HY.out.symm, rfl⟩ | exact ⟨ret_b (by rw [HY.out]; simp [*]), rfl⟩)
      | false =>
        have hy : nodeB 3 n s l = false := by first | (simp [nodeB, *]; done) | (simp [nodeB, *]; decide)
        have HY := Lib.hid hy; clear hy
        go_enter Tryd.func73, Tryd.ntmps73
        go_wp2_with (first | (go_at_call 44; refine (iIsSymbol_calls _ _ hs).mono ?_; rintro e w' ⟨rfl, rfl⟩) | (go_at_call 52; refine (stringText_calls _ _ hs).mono ?_; rintro e w' ⟨rfl, rfl⟩))
        all_goals (go_ret; first | exact ⟨ret_b HY.out.symm, rfl⟩ | exact ⟨ret_b (by rw [HY.out]; simp [*]), rfl⟩)
    · by_cases hb : n = 1
      · have hin : inB n 0 1 = true := by rw [hb]; decide
        cases he : s.toList.isEmpty with
        | true =>
          by_cases hl : l = 0
          · skip
            have hy : nodeB 3 n s l = true := by first | (simp [nodeB, *]; done) | (simp [nodeB, *]; decide)
            have HY := Lib.hid hy; clear hy
            go_enter Tryd.func73, Tryd.ntmps73
            go_wp2_with (first | (go_at_call 44; refine (iIsSymbol_calls _ _ hs).mono ?_; rintro e w' ⟨rfl, rfl⟩) | (go_at_call 52; refine (stringText_calls _ _ hs).mono ?_; rintro e w' ⟨rfl, rfl⟩))
            all_goals (go_ret; first | exact ⟨ret_b HY.out.symm, rfl⟩ | exact ⟨ret_b (by rw [HY.out]; simp [*]), rfl⟩)
          · skip
            have hy : nodeB 3 n s l = false := by first | (simp [nodeB, *]; done) | (simp [nodeB, *]; decide)
            have HY := Lib.hid hy; clear hy
            go_enter Tryd.func73, Tryd.ntmps73
            go_wp2_with (first | (go_at_call 44; refine (iIsSymbol_calls _ _ hs).mono ?_; rintro e w' ⟨rfl, rfl⟩) | (go_at_call 52; refine (stringText_calls _ _ hs).mono ?_; rintro e w' ⟨rfl, rfl⟩))
            all_goals (go_ret; first | exact ⟨ret_b HY.out.symm, rfl⟩ | exact ⟨ret_b (by rw [HY.out]; simp [*]), rfl⟩)
        | false =>
          have hy : nodeB 3 n s l = false := by first | (simp [nodeB, *]; done) | (simp [nodeB, *]; decide)
          have HY := Lib.hid hy; clear hy
          go_enter Tryd.func73, Tryd.ntmps73
          go_wp2_with (first | (go_at_call 44; refine (iIsSymbol_calls _ _ hs).mono ?_; rintro e w' ⟨rfl, rfl⟩) | (go_at_call 52; refine (stringText_calls _ _ hs).mono ?_; rintro e w' ⟨rfl, rfl⟩))
          all_goals (go_ret; first | exact ⟨ret_b HY.out.symm, rfl⟩ | exact ⟨ret_b (by rw [HY.out]; simp [*]), rfl⟩)
      · have hin : inB n 0 1 = false := by simp [inB]; omega
        have hy : nodeB 3 n s l = false := by first | (simp [nodeB, *]; done) | (simp [nodeB, *]; decide)
        have HY := Lib.hid hy; clear hy
        go_enter Tryd.func73, Tryd.ntmps73
        go_wp2_with (first | (go_at_call 44; refine (iIsSymbol_calls _ _ hs).mono ?_; rintro e w' ⟨rfl, rfl⟩) | (go_at_call 52; refine (stringText_calls _ _ hs).mono ?_; rintro e w' ⟨rfl, rfl⟩))
        all_goals (go_ret; first | exact ⟨ret_b HY.out.symm, rfl⟩ | exact ⟨ret_b (by rw [HY.out]; simp [*]), rfl⟩)
  by_cases k4 : k = 4
  · subst k4
    by_cases hn : n = 0
    · skip
      cases ht : strB s with
      | true =>
        by_cases hl : l = 0
        · skip
          have hy : nodeB 4 n s l = true := by first | (simp [nodeB, *]; done) | (simp [nodeB, *]; decide)
          have HY := Lib.hid hy; clear hy
          go_enter Tryd.func73, Tryd.ntmps73
          go_wp2_with (first | (go_at_call 44; refine (iIsSymbol_calls _ _ hs).mono ?_; rintro e w' ⟨rfl, rfl⟩) | (go_at_call 52; refine (stringText_calls _ _ hs).mono ?_; rintro e w' ⟨rfl, rfl⟩))
          all_goals (go_ret; first | exact ⟨ret_b HY.out.symm, rfl⟩ | exact ⟨ret_b (by rw [HY.out]; simp [*]), rfl⟩)
        · skip
          have hy : nodeB 4 n s l = false := by first | (simp [nodeB, *]; done) | (simp [nodeB, *]; decide)
          have HY := Lib.hid hy; clear hy
          go_enter Tryd.func73, Tryd.ntmps73
          go_wp2_with (first | (go_at_call 44; refine (iIsSymbol_calls _ _ hs).mono ?_; rintro e w' ⟨rfl, rfl⟩) | (go_at_call 52; refine (stringText_calls _ _ hs).mono ?_; rintro e w' ⟨rfl, rfl⟩))
          all_goals (go_ret; first | exact ⟨ret_b HY.out.symm, rfl⟩ | exact ⟨ret_b (by rw [HY.out]; simp [*]), rfl⟩)
      | false =>
        have hy : nodeB 4 n s l = false := by first | (simp [nodeB, *]; done) | (simp [nodeB, *]; decide)
        have HY := Lib.hid hy; clear hy
        go_enter Tryd.func73, Tryd.ntmps73
        go_wp2_with (first | (go_at_call 44; refine (iIsSymbol_calls _ _ hs).mono ?_; rintro e w' ⟨rfl, rfl⟩) | (go_at_call 52; refine (stringText_calls _ _ hs).mono ?_; rintro e w' ⟨rfl, rfl⟩))
        all_goals (go_ret; first | exact ⟨ret_b HY.out.symm, rfl⟩ | exact ⟨ret_b (by rw [HY.out]; simp [*]), rfl⟩)
    · skip
      have hy : nodeB 4 n s l = false := by first | (simp [nodeB, *]; done) | (simp [nodeB, *]; decide)
      have HY := Lib.hid hy; clear hy
      go_enter Tryd.func73, Tryd.ntmps73
      go_wp2_with (first | (go_at_call 44; refine (iIsSymbol_calls _ _ hs).mono ?_; rintro e w' ⟨rfl, rfl⟩) | (go_at_call 52; refine (stringText_calls _ _ hs).mono ?_; rintro e w' ⟨rfl, rfl⟩))
      all_goals (go_ret; first | exact ⟨ret_b HY.out.symm, rfl⟩ | exact ⟨ret_b (by rw [HY.out]; simp [*]), rfl⟩)
  have hy : nodeB k n s l = false := by first | (simp [nodeB, *]; done) | (simp [nodeB, *]; decide)
  have HY := Lib.hid hy; clear hy
  go_enter Tryd.func73, Tryd.ntmps73
  go_wp2_with (first | (go_at_call 44; refine (iIsSymbol_calls _ _ hs).mono ?_; rintro e w' ⟨rfl, rfl⟩) | (go_at_call 52; refine (stringText_calls _ _ hs).mono ?_; rintro e w' ⟨rfl, rfl⟩))
  all_goals (go_ret; first | exact ⟨ret_b HY.out.symm, rfl⟩ | exact ⟨ret_b (by rw [HY.out]; simp [*]), rfl⟩)
end Go.Proofs.YtghbnehocggnnaaDoor

/-
  Walks: sets of scopes. No condition.
-/
set_option linter.unusedVariables false
set_option linter.unusedSimpArgs false
namespace Go.Proofs.YtghbnehocggnnaaDoor
open Go.RowKit

def Asc (l : List Int) : Prop := (∀ x ∈ l, 1 ≤ x ∧ x ≤ 99999) ∧ l.Pairwise (· < ·)
instance (l : List Int) : Decidable (Asc l) := by unfold Asc; infer_instance
def ssB (l : List Int) : Bool := decide (Asc l)
theorem ssB_iff (l : List Int) : ssB l = true ↔ Asc l := by simp [ssB]
theorem ssB_not (l : List Int) : ssB l = false ↔ ¬ Asc l := by simp [ssB]
theorem kindS_zero (x : Int) : kindS x = 0 ↔ ¬ (1 ≤ x ∧ x ≤ 99999) := by
  unfold kindS
  constructor
  · intro h; split at h
    · omega
    · split at h
      · omega
      · split at h <;> omega
  · intro h; rw [if_pos (by omega)]

theorem asc_get {l : List Int} (h : Asc l) {k : Nat} {x : Int} (hx : l[k]? = some x) : 1 ≤ x ∧ x ≤ 99999 := h.1 x (List.mem_of_getElem? hx)
theorem asc_lt {l : List Int} (h : Asc l) {j k : Nat} {x y : Int} (hx : l[k]? = some x) (hy : l[j]? = some y) (hjk : j < k) : y < x := by
  obtain ⟨h1, rfl⟩ := List.getElem?_eq_some_iff.1 hx
  obtain ⟨h2, rfl⟩ := List.getElem?_eq_some_iff.1 hy
  exact List.pairwise_iff_getElem.1 h.2 j k h2 h1 hjk
theorem asc_step {l : List Int} {k : Nat} {x : Int} (h : Asc (l.take k)) (hx : l[k]? = some x) (hr : 1 ≤ x ∧ x ≤ 99999) (hl : ∀ y, 0 < k → l[k - 1]? = some y → y < x) : Asc (l.take (k + 1)) := by
  rw [take_snoc hx]
  refine ⟨?_, ?_⟩
  · intro y hy
    rcases List.mem_append.1 hy with hy | hy
    · exact h.1 y hy
    · simp at hy; subst hy; exact hr
  · rw [List.pairwise_append]
    refine ⟨h.2, by simp, ?_⟩
    intro y hy z hz
    simp at hz; subst hz
    obtain ⟨j, hj, rfl⟩ := List.mem_iff_getElem.1 hy
    have hk := (List.getElem?_eq_some_iff.1 hx).1
    have hj' : j < k := by simp at hj; omega
    have hlast : l[k - 1]? = some (l[k - 1]'(by omega)) := List.getElem?_eq_getElem (by omega)
    have h2 := hl _ (by omega) hlast
    by_cases e : j = k - 1
    · subst e; simpa using h2
    · have h3 : (l.take k)[j] < (l.take k)[k - 1]'(by simp; omega) := List.pairwise_iff_getElem.1 h.2 j (k - 1) hj (by simp; omega) (by omega)
      simp at h3 ⊢
      omega
theorem asc_bad1 {l : List Int} {k : Nat} {x : Int} (hx : l[k]? = some x) (h : kindS x = 0) : ¬ Asc l := fun ha => (kindS_zero x).1 h (asc_get ha hx)
theorem asc_bad2 {l : List Int} {k : Nat} {x y : Int} (hx : l[k + 1]? = some x) (hy : l[k]? = some y) (h : x ≤ y) : ¬ Asc l := fun ha => by have := asc_lt ha hx hy (by omega); omega
theorem asc_good {l : List Int} {k : Nat} {x : Int} (h : Asc (l.take (k + 1))) (hx : l[k + 1]? = some x) (hr : ¬ kindS x = 0) {y : Int} (hy : l[k]? = some y) (hl : y < x) : Asc (l.take (k + 1 + 1)) :=
  asc_step h hx (Classical.not_not.1 fun hn => hr ((kindS_zero x).2 hn)) (fun z _ hz => by
    rw [show k + 1 - 1 = k by omega, hy] at hz; obtain rfl := Option.some.inj hz; exact hl)
theorem asc_first {l : List Int} {x : Int} (hx : l[0]? = some x) (hr : ¬ kindS x = 0) : Asc (l.take (0 + 1)) :=
  asc_step ⟨by simp, by simp⟩ hx (Classical.not_not.1 fun hn => hr ((kindS_zero x).2 hn)) (fun z h _ => by omega)

theorem sIsScopeSet_calls (a : Option Addr) (cap : Nat) (l : List Int) (w : World) (h : (M.sl a cap 1 3 (intM l)).In w) :
    Calls Tryd.prog 41 #[.slice a l.length cap] w (Ret (.bool (ssB l)) w) := by
  have hl := Ints.len h
  have H := Lib.hid h; clear h
  go_enter Tryd.func41, Tryd.ntmps41
  go_wp2
  go_loopw [7] (fun i wr => ∃ k : Nat, k ≤ l.length ∧ i = .int .i64 k ∧ Asc (l.take k) ∧ Below w.heap.size w wr ∧ w.heap.size ≤ wr.heap.size) (fun i _ => l.length - (intOf i).toNat)
  case atStart => exact ⟨0, Nat.zero_le _, rfl, ⟨by simp, by simp⟩, Below.refl _ _, Nat.le_refl _⟩
  case round =>
    obtain ⟨k, hk, rfl, hno, hb, hsz⟩ := hrel
    have HNO := Lib.hid hno; clear hno
    by_cases hlt : k < l.length
    · obtain ⟨b, off, x, rfl, hx, hc⟩ := Ints.elem (H.out.below hb) k hlt
      have HX := Lib.hid hx; clear hx
      cases k with
      | zero =>
        have hc0 : wr.cell? ⟨b, off, none⟩ = some (.int .i64 x) := by simpa using hc
        clear hc
        by_cases hz : kindS x = 0
        · have hz' : (kindS x == 0) = true := by simp [hz]
          have HZ := Lib.hid hz; clear hz
          go_wp2_with (go_at_call 67; refine (sKindOfScope_calls _ _).mono ?_; rintro e w1 ⟨rfl, hb1⟩)
          go_ret
          exact ⟨ret_b ((ssB_not _).2 (asc_bad1 HX.out HZ.out)).symm, hb.trans (hb1.mono hsz)⟩
        · have hz' : (kindS x == 0) = false := by simp [hz]
          have HZ := Lib.hid hz; clear hz
          go_wp2_with (go_at_call 67; refine (sKindOfScope_calls _ _).mono ?_; rintro e w1 ⟨rfl, hb1⟩)
          have hnx := asc_first HX.out HZ.out
          have hz1 := hb1.size
          go_roundw
          case rel => exact ⟨0 + 1, by omega, by go_num, hnx, hb.trans (hb1.mono hsz), by omega⟩
          case measure => simp [intOf]; omega
      | succ k =>
        obtain ⟨b', off', y, hbo, hy, hc2⟩ := Ints.elem (H.out.below hb) k (by omega)
        simp only [Option.some.injEq, Addr.mk.injEq, and_true] at hbo
        obtain ⟨rfl, rfl⟩ := hbo
        have hbl := World.block_lt_of_cell? wr _ hc2
        have HY := Lib.hid hy; clear hy
        by_cases hz : kindS x = 0
        · have hz' : (kindS x == 0) = true := by simp [hz]
          have HZ := Lib.hid hz; clear hz
          go_wp2_with (go_at_call 67; refine (sKindOfScope_calls _ _).mono ?_; rintro e w1 ⟨rfl, hb1⟩)
          go_ret
          exact ⟨ret_b ((ssB_not _).2 (asc_bad1 HX.out HZ.out)).symm, hb.trans (hb1.mono hsz)⟩
        · have hz' : (kindS x == 0) = false := by simp [hz]
          have HZ := Lib.hid hz; clear hz
          go_wp2_with (go_at_call 67; refine (sKindOfScope_calls _ _).mono ?_; rintro e w1 ⟨rfl, hb1⟩; obtain ⟨hc1, hf1⟩ := bcell hb1)
          all_goals have hz1 := hb1.size
          · go_ret
            exact ⟨ret_b ((ssB_not _).2 (asc_bad2 HX.out HY.out ‹_›)).symm, hb.trans (hb1.mono hsz)⟩
          · have hnx := asc_good HNO.out HX.out HZ.out HY.out (by assumption)
            go_roundw
            case rel => exact ⟨k + 1 + 1, by omega, by go_num, hnx, hb.trans (hb1.mono hsz), by omega⟩
            case measure => simp [intOf]; omega
    · go_wp2
      go_ret
      have hk2 : k = l.length := by omega
      subst hk2
      have h := HNO.out
      rw [List.take_length] at h
      exact ⟨ret_b ((ssB_iff _).2 h).symm, hb⟩

theorem RetEq.ret {v : Value} {w : World} {e : Ending} {w' : World} (h : RetEq v w e w') : Ret v w e w' := ⟨h.1, h.2 ▸ Below.refl _ _⟩
theorem iKindOfScope_ret (n : Int) (w : World) : Calls Tryd.prog 70 #[.int .i64 n] w (Ret (.int .i64 (kindS n)) w) := (iKindOfScope_calls n w).mono fun _ _ h => h.ret

theorem iIsScopeSet_calls (a : Option Addr) (cap : Nat) (l : List Int) (w : World) (h : (M.sl a cap 1 3 (intM l)).In w) :
    Calls Tryd.prog 45 #[.slice a l.length cap] w (Ret (.bool (ssB l)) w) := by
  have hl := Ints.len h
  have H := Lib.hid h; clear h
  go_enter Tryd.func45, Tryd.ntmps45
  go_wp2
  go_loopw [7] (fun i wr => ∃ k : Nat, k ≤ l.length ∧ i = .int .i64 k ∧ Asc (l.take k) ∧ Below w.heap.size w wr ∧ w.heap.size ≤ wr.heap.size) (fun i _ => l.length - (intOf i).toNat)
  case atStart => exact ⟨0, Nat.zero_le _, rfl, ⟨by simp, by simp⟩, Below.refl _ _, Nat.le_refl _⟩
  case round =>
    obtain ⟨k, hk, rfl, hno, hb, hsz⟩ := hrel
    have HNO := Lib.hid hno; clear hno
    by_cases hlt : k < l.length
    · obtain ⟨b, off, x, rfl, hx, hc⟩ := Ints.elem (H.out.below hb) k hlt
      have HX := Lib.hid hx; clear hx
      cases k with
      | zero =>
        have hc0 : wr.cell? ⟨b, off, none⟩ = some (.int .i64 x) := by simpa using hc
        clear hc
        by_cases hz : kindS x = 0
        · have hz' : (kindS x == 0) = true := by simp [hz]
          have HZ := Lib.hid hz; clear hz
          go_wp2_with (go_at_call 70; refine (iKindOfScope_ret _ _).mono ?_; rintro e w1 ⟨rfl, hb1⟩)
          go_ret
          exact ⟨ret_b ((ssB_not _).2 (asc_bad1 HX.out HZ.out)).symm, hb.trans (hb1.mono hsz)⟩
        · have hz' : (kindS x == 0) = false := by simp [hz]
          have HZ := Lib.hid hz; clear hz
          go_wp2_with (go_at_call 70; refine (iKindOfScope_ret _ _).mono ?_; rintro e w1 ⟨rfl, hb1⟩)
          have hnx := asc_first HX.out HZ.out
          have hz1 := hb1.size
          go_roundw
          case rel => exact ⟨0 + 1, by omega, by go_num, hnx, hb.trans (hb1.mono hsz), by omega⟩
          case measure => simp [intOf]; omega
      | succ k =>
        obtain ⟨b', off', y, hbo, hy, hc2⟩ := Ints.elem (H.out.below hb) k (by omega)
        simp only [Option.some.injEq, Addr.mk.injEq, and_true] at hbo
        obtain ⟨rfl, rfl⟩ := hbo
        have hbl := World.block_lt_of_cell? wr _ hc2
        have HY := Lib.hid hy; clear hy
        by_cases hz : kindS x = 0
        · have hz' : (kindS x == 0) = true := by simp [hz]
          have HZ := Lib.hid hz; clear hz
          go_wp2_with (go_at_call 70; refine (iKindOfScope_ret _ _).mono ?_; rintro e w1 ⟨rfl, hb1⟩)
          go_ret
          exact ⟨ret_b ((ssB_not _).2 (asc_bad1 HX.out HZ.out)).symm, hb.trans (hb1.mono hsz)⟩
        · have hz' : (kindS x == 0) = false := by simp [hz]
          have HZ := Lib.hid hz; clear hz
          go_wp2_with (go_at_call 70; refine (iKindOfScope_ret _ _).mono ?_; rintro e w1 ⟨rfl, hb1⟩; obtain ⟨hc1, hf1⟩ := bcell hb1)
          all_goals have hz1 := hb1.size
          · go_ret
            exact ⟨ret_b ((ssB_not _).2 (asc_bad2 HX.out HY.out ‹_›)).symm, hb.trans (hb1.mono hsz)⟩
          · have hnx := asc_good HNO.out HX.out HZ.out HY.out (by assumption)
            go_roundw
            case rel => exact ⟨k + 1 + 1, by omega, by go_num, hnx, hb.trans (hb1.mono hsz), by omega⟩
            case measure => simp [intOf]; omega
    · go_wp2
      go_ret
      have hk2 : k = l.length := by omega
      subst hk2
      have h := HNO.out
      rw [List.take_length] at h
      exact ⟨ret_b ((ssB_iff _).2 h).symm, hb⟩
end Go.Proofs.YtghbnehocggnnaaDoor

/-
  Walks: texts. No condition.
-/
set_option linter.unusedVariables false
set_option linter.unusedSimpArgs false
set_option maxRecDepth 100000
namespace Go.Proofs.YtghbnehocggnnaaDoor
open Go.RowKit

theorem conv1 (x : Int) (w : World) : (convert 31 9 (.slice (some ⟨w.heap.size, 0, none⟩) 1 1)).run Tryd.prog (w.alloc (.cells #[.int .u8 x] 5)) = .ok (.string (strOfNums [x])) (w.alloc (.cells #[.int .u8 x] 5)) := by
  refine run_convert_bytes_arg (P := Tryd.prog) (w.alloc (.cells #[.int .u8 x] 5)) 31 5 Tryd.underlying31 Tryd.underlying5 w.heap.size 0 1 1 [x] rfl (fun i hi => ?_) 9 Tryd.underlying9
  obtain rfl : i = 0 := by omega
  rw [World.cell?_alloc_new]; rfl

/-- decimal digits, put ahead of s -/
def digS : Nat → Nat → ByteArray → ByteArray
  | 0, _, s => s
  | d + 1, k, s => if k = 0 then s else digS d (k / 10) (strOfNums [48 + (k : Int) % 10] ++ s)
theorem digS_zero (d : Nat) (s : ByteArray) : digS d 0 s = s := by cases d <;> simp [digS]
theorem pow_step {d k : Nat} (h : k < 10 ^ d) (hk : 0 < k) : ∃ d', d = d' + 1 ∧ k / 10 < 10 ^ d' := by
  cases d with
  | zero => simp at h; omega
  | succ d => refine ⟨d, rfl, ?_⟩; rw [Nat.pow_succ] at h; omega
/-- the text that the law writes: m and the digits of k -/
def mtx (k : Int) : ByteArray := if k ≤ 0 then ⟨#[109, 48]⟩ else ⟨#[109]⟩ ++ digS 20 k.toNat ⟨#[]⟩
theorem digS_step {d k : Nat} {s : ByteArray} (hk : 0 < k) : digS (d + 1) k s = digS d (k / 10) (strOfNums [48 + (k : Int) % 10] ++ s) := by
  simp [digS]; omega
def DigRel (K0 : Nat) (k : Nat) (s : ByteArray) : Prop := ∃ d, s.size + d = 20 ∧ k < 10 ^ d ∧ digS d k s = digS 20 K0 ⟨#[]⟩
theorem DigRel.size {K0 k : Nat} {s : ByteArray} (h : DigRel K0 k s) : s.size ≤ 20 := by obtain ⟨d, h1, _⟩ := h; omega
theorem DigRel.step {K0 k : Nat} {s : ByteArray} (h : DigRel K0 k s) (hk : 0 < k) : DigRel K0 (k / 10) (strOfNums [48 + (k : Int) % 10] ++ s) := by
  obtain ⟨d, h1, h2, h3⟩ := h
  obtain ⟨d, rfl, h4⟩ := pow_step h2 hk
  refine ⟨d, ?_, h4, by rw [← h3, digS_step hk]⟩
  rw [ByteArray.size_append, strOfNums_size]
  simp only [List.length_cons, List.length_nil]; omega
theorem DigRel.done {K0 : Nat} {s : ByteArray} (h : DigRel K0 0 s) : s = digS 20 K0 ⟨#[]⟩ := by
  obtain ⟨d, h1, h2, h3⟩ := h
  rw [← h3, digS_zero]
theorem DigRel.start {K0 : Nat} (h : K0 ≤ 9223372036854775807) : DigRel K0 K0 ⟨#[]⟩ := ⟨20, rfl, by omega, rfl⟩
theorem ret_s {a b : ByteArray} (h : a = b) : Ending.returned (.string a) = .returned (.string b) := by rw [h]

end Go.Proofs.YtghbnehocggnnaaDoor

/-
  Walks: data measured and compared. No condition.
-/
set_option linter.unusedVariables false
set_option linter.unusedSimpArgs false
set_option maxRecDepth 100000
namespace Go.Proofs.YtghbnehocggnnaaDoor
open Go.RowKit


def sCN (ds : List Dat) : Prop := ∀ (k n : Int) (s : ByteArray) (a : Option Addr) (cap : Nat) (ms : List M) (w : World), Dat.countL ds ≤ 1000000000 → Dat.IsL 40 ds ms → (M.sl a cap 4 40 ms).In w →
    Calls Tryd.prog 31 #[.agg #[.int .i64 k, .int .i64 n, .string s, .slice a ms.length cap]] w (Ret (.int .i64 ((1 + Dat.countL ds : Nat) : Int)) w)
theorem sCountNodes_calls : ∀ ds, sCN ds := by
  refine Dat.inductL fun ds ih => ?_
  intro k n s a cap ms w hB hi hin
  have hln := hi.length
  have hcapm := hin.len
  have IH := Lib.hid ih; clear ih; have HIN := Lib.hid hin; clear hin; have HI := Lib.hid hi; clear hi; have HLN := Lib.hid hln; clear hln
  go_enter Tryd.func31, Tryd.ntmps31
  go_wp2
  go_loopw [3, 9] (fun t i wr => ∃ k : Nat, k ≤ ms.length ∧ i = .int .i64 k ∧ t = .int .i64 ((1 + Dat.countL (ds.take k) : Nat) : Int) ∧ Below w.heap.size w wr ∧ w.heap.size ≤ wr.heap.size) (fun _ i _ => ms.length - (intOf i).toNat)
  case atStart => exact ⟨0, Nat.zero_le _, rfl, by simp [Dat.countL], (Below.refl _ _).alloc (Nat.le_refl _) _, by simp⟩
  case round =>
    obtain ⟨k', hk, rfl, rfl, hb, hsz⟩ := hrel
    by_cases hlt : k' < ms.length
    · obtain ⟨b, off, k1, n1, s1, ds1, a1, cap1, ms1, rfl, hd, hi1, hin1, c0, c1, c2, c3⟩ := Dat.elem (HIN.out.below hb) HI.out k' hlt
      obtain ⟨ht, hle⟩ := Dat.countL_le ds k' _ hd
      simp only [Dat.count] at hle
      have HI1 := Lib.hid hi1; clear hi1; have HIN1 := Lib.hid hin1; clear hin1; have HT := Lib.hid ht; clear ht; have HD := Lib.hid hd; clear hd
      go_wp2_with fail
      refine (IH.out k1 n1 s1 ds1 (List.mem_of_getElem? HD.out) k1 n1 s1 a1 cap1 ms1 _ (by omega) HI1.out (HIN1.out.below ((Below.refl _ _).alloc (Nat.le_refl _) _))).mono ?_
      rintro e w1 ⟨rfl, hb1⟩
      go_wp2_with fail
      go_roundw
      case rel => exact ⟨k' + 1, by omega, by go_num, by rw [HT.out, Dat.count]; go_num, by (repeat (first | with_reducible assumption | with_reducible exact Below.refl _ _ | with_reducible refine Below.drew ?_ | with_reducible refine belowDrewN ?_ _ | ((with_reducible refine Below.setCell ?_ ?_ _); rotate_left; focus (first | omega | (simp; done) | (simp; omega))) | ((with_reducible refine Below.alloc ?_ ?_ _); rotate_left; focus (first | omega | (simp; done) | (simp; omega))) | ((with_reducible refine Below.trans ?_ (Below.mono hb1 ?_)); rotate_left; focus (first | omega | (simp; done) | (simp; omega))))), by have := hb1.size; simp at this; omega⟩
      case measure => simp [intOf]; omega
    · go_wp2
      go_ret
      have hk2 : k' = ms.length := by omega
      subst hk2
      refine ⟨?_, hb⟩
      rw [HLN.out, List.take_length]; rfl
def sDO (ds : List Dat) : Prop := ∀ (k n : Int) (s : ByteArray) (a : Option Addr) (cap : Nat) (ms : List M) (w : World), Dat.depthL ds ≤ 1000000000 → Dat.IsL 40 ds ms → (M.sl a cap 4 40 ms).In w →
    Calls Tryd.prog 56 #[.agg #[.int .i64 k, .int .i64 n, .string s, .slice a ms.length cap]] w (Ret (.int .i64 ((Dat.depthL ds + 1 : Nat) : Int)) w)
theorem sDepthOf_calls : ∀ ds, sDO ds := by
  refine Dat.inductL fun ds ih => ?_
  intro k n s a cap ms w hB hi hin
  have hln := hi.length
  have hcapm := hin.len
  have IH := Lib.hid ih; clear ih; have HIN := Lib.hid hin; clear hin; have HI := Lib.hid hi; clear hi; have HLN := Lib.hid hln; clear hln
  go_enter Tryd.func56, Tryd.ntmps56
  go_wp2
  go_loopw [3, 9] (fun t i wr => ∃ (k g : Nat), k ≤ ms.length ∧ i = .int .i64 k ∧ t = .int .i64 (g : Int) ∧ g = Dat.depthL (ds.take k) ∧ g ≤ 1000000000 ∧ Below w.heap.size w wr ∧ w.heap.size ≤ wr.heap.size) (fun _ i _ => ms.length - (intOf i).toNat)
  case atStart => exact ⟨0, 0, Nat.zero_le _, rfl, rfl, by simp [Dat.depthL], by omega, (Below.refl _ _).alloc (Nat.le_refl _) _, by simp⟩
  case round =>
    obtain ⟨k', g, hk, rfl, rfl, hg, hgB, hb, hsz⟩ := hrel
    by_cases hlt : k' < ms.length
    · obtain ⟨b, off, k1, n1, s1, ds1, a1, cap1, ms1, rfl, hd, hi1, hin1, c0, c1, c2, c3⟩ := Dat.elem (HIN.out.below hb) HI.out k' hlt
      have ht := Dat.depthL_take hd
      have hle := Dat.depthL_get hd
      simp only [Dat.depth] at hle ht
      rw [← hg] at ht
      have HI1 := Lib.hid hi1; clear hi1; have HIN1 := Lib.hid hin1; clear hin1; have HT := Lib.hid ht; clear ht; have HD := Lib.hid hd; clear hd; have HG := Lib.hid hg; clear hg
      go_wp2_with fail
      refine (IH.out k1 n1 s1 ds1 (List.mem_of_getElem? HD.out) k1 n1 s1 a1 cap1 ms1 _ (by omega) HI1.out (HIN1.out.below ((Below.refl _ _).alloc (Nat.le_refl _) _))).mono ?_
      rintro e w1 ⟨rfl, hb1⟩
      generalize hD_ : Dat.depthL ds1 = D at *
      have HD_ := Lib.hid hD_; clear hD_
      go_wp2_with fail
      have e : (if (g : Int) < (D : Int) + 1 then (D : Int) + 1 else (g : Int)) = ((max g (D + 1) : Nat) : Int) := by split <;> omega
      go_roundw
      case rel => exact ⟨k' + 1, max g (D + 1), by omega, by go_num, by rw [e], by rw [HT.out], by omega, by (repeat (first | with_reducible assumption | with_reducible exact Below.refl _ _ | with_reducible refine Below.drew ?_ | with_reducible refine belowDrewN ?_ _ | ((with_reducible refine Below.setCell ?_ ?_ _); rotate_left; focus (first | omega | (simp; done) | (simp; omega))) | ((with_reducible refine Below.alloc ?_ ?_ _); rotate_left; focus (first | omega | (simp; done) | (simp; omega))) | ((with_reducible refine Below.trans ?_ (Below.mono hb1 ?_)); rotate_left; focus (first | omega | (simp; done) | (simp; omega))))), by have := hb1.size; simp at this; omega⟩
      case measure => simp [intOf]; omega
    · go_wp2
      go_ret
      have hk2 : k' = ms.length := by omega
      subst hk2
      refine ⟨?_, hb⟩
      rw [hg, HLN.out, List.take_length]; rfl

end Go.Proofs.YtghbnehocggnnaaDoor

/-
  Walks: all nodes of a datum. No condition.
-/
set_option linter.unusedVariables false
set_option linter.unusedSimpArgs false
set_option maxRecDepth 100000
namespace Go.Proofs.YtghbnehocggnnaaDoor
open Go.RowKit

mutual
def Dat.ok : Dat → Prop
  | .mk k n s ds => nodeB k n s ds.length = true ∧ Dat.okL ds
def Dat.okL : List Dat → Prop
  | [] => True
  | d :: r => d.ok ∧ Dat.okL r
end
theorem Dat.okL_iff {ds : List Dat} : Dat.okL ds ↔ ∀ d ∈ ds, d.ok := by
  induction ds with
  | nil => simp [Dat.okL]
  | cons d r ih => simp [Dat.okL, ih]
theorem Dat.ok_mk {k n : Int} {s : ByteArray} {ds : List Dat} : (Dat.mk k n s ds).ok ↔ nodeB k n s ds.length = true ∧ ∀ d ∈ ds, d.ok := by rw [← Dat.okL_iff]; rfl
open Classical in
noncomputable def Dat.okB (d : Dat) : Bool := decide d.ok
theorem Dat.okB_true {d : Dat} : d.okB = true ↔ d.ok := by simp [Dat.okB]
theorem Dat.okB_false {d : Dat} : d.okB = false ↔ ¬ d.ok := by simp [Dat.okB]
theorem ok_take {ds : List Dat} {k : Nat} {d : Dat} (h : ∀ x ∈ ds.take k, x.ok) (hd : ds[k]? = some d) (hk : d.ok) : ∀ x ∈ ds.take (k + 1), x.ok := by
  rw [take_snoc hd]
  intro x hx
  rcases List.mem_append.1 hx with hx | hx
  · exact h x hx
  · simp at hx; subst hx; exact hk

def NdDs (ds : List Dat) : Prop := ∀ (k n : Int) (s : ByteArray) (a : Option Addr) (cap : Nat) (ms : List M) (w : World), (Dat.mk k n s ds).wf → Dat.IsL 40 ds ms → (M.sl a cap 4 40 ms).In w →
    Calls Tryd.prog 57 #[.agg #[.int .i64 k, .int .i64 n, .string s, .slice a ms.length cap]] w (Ret (.bool (Dat.mk k n s ds).okB) w)
theorem l1Nodes_calls : ∀ ds, NdDs ds := by
  refine Dat.inductL fun ds ih => ?_
  intro k n s a cap ms w hwf hi hin
  have hl := hi.length
  have hcap := hin.len
  have hs : s.size ≤ 9223372036854775807 := by have := hwf.2.2.1; omega
  have hwl := hwf.2.2.2
  clear hwf
  have IH := Lib.hid ih; clear ih; have HIN := Lib.hid hin; clear hin; have HI := Lib.hid hi; clear hi; have HL := Lib.hid hl; clear hl; have HWL := Lib.hid hwl; clear hwl
  go_enter Tryd.func57, Tryd.ntmps57
  go_wp2_with fail
  go_loopw [8] (fun i wr => ∃ (j : Nat), j ≤ ms.length ∧ i = .int .i64 j ∧ (∀ x ∈ ds.take j, x.ok) ∧ (wr.cell? ⟨w.heap.size, 0, none⟩ = some (.int .i64 k) ∧ wr.cell? ⟨w.heap.size, 1, none⟩ = some (.int .i64 n) ∧ wr.cell? ⟨w.heap.size, 2, none⟩ = some (.string s) ∧ wr.cell? ⟨w.heap.size, 3, none⟩ = some (.slice a ms.length cap)) ∧ Below w.heap.size w wr ∧ w.heap.size + 1 ≤ wr.heap.size) (fun i _ => ms.length - (intOf i).toNat)
  case atStart => exact ⟨0, Nat.zero_le _, rfl, by simp, by simp [go_sem], by (repeat (first | with_reducible assumption | with_reducible exact Below.refl _ _ | with_reducible refine Below.drew ?_ | with_reducible refine belowDrewN ?_ _ | ((with_reducible refine Below.setCell ?_ ?_ _); rotate_left; focus (first | omega | (simp; done) | (simp; omega))) | ((with_reducible refine Below.alloc ?_ ?_ _); rotate_left; focus (first | omega | (simp; done) | (simp; omega))))), by simp⟩
  case round =>
    obtain ⟨j, hj, rfl, hpre, ⟨q0, q1, q2, q3⟩, hb, hsz⟩ := hrel
    have p0 : w.heap.size < wr.heap.size := by omega
    by_cases hlt : j < ms.length
    · obtain ⟨b, off, k1, n1, s1, ds1, a1, cap1, ms1, rfl, hd, hi1, hin1, c0, c1, c2, c3⟩ := Dat.elem (HIN.out.below hb) HI.out j hlt
      have hw1 := Dat.wfL_get HWL.out hd
      have hmem := List.mem_of_getElem? hd
      by_cases hok : (Dat.mk k1 n1 s1 ds1).ok
      · have hokb : (Dat.mk k1 n1 s1 ds1).okB = true := Dat.okB_true.2 hok
        have hpre2 := ok_take hpre hd hok
        have HD := Lib.hid hd; clear hd; have HI1 := Lib.hid hi1; clear hi1; have HIN1 := Lib.hid hin1; clear hin1; have HW1 := Lib.hid hw1; clear hw1; have HMEM := Lib.hid hmem; clear hmem; have HPRE := Lib.hid hpre; clear hpre; have HPRE2 := Lib.hid hpre2; clear hpre2; have HOK := Lib.hid hok; clear hok
        go_wp2_with fail
        refine (IH.out k1 n1 s1 ds1 HMEM.out k1 n1 s1 a1 cap1 ms1 _ HW1.out HI1.out (HIN1.out.below (by (repeat (first | with_reducible assumption | with_reducible exact Below.refl _ _ | with_reducible refine Below.drew ?_ | with_reducible refine belowDrewN ?_ _ | ((with_reducible refine Below.setCell ?_ ?_ _); rotate_left; focus (first | omega | (simp; done) | (simp; omega))) | ((with_reducible refine Below.alloc ?_ ?_ _); rotate_left; focus (first | omega | (simp; done) | (simp; omega)))))))).mono ?_
        rintro e w1 ⟨rfl, hb1⟩
        obtain ⟨hc1, hf1⟩ := bcell hb1; have hz1 := hb1.size; (try simp only [World.size_alloc, World.size_setCell, World.size_drew, sizeDrewN] at hz1 hc1 hf1)
        have q0' : w1.cell? ⟨w.heap.size, 0, none⟩ = some (.int .i64 k) := by simp (disch := omega) [hc1, q0, go_sem]
        have q1' : w1.cell? ⟨w.heap.size, 1, none⟩ = some (.int .i64 n) := by simp (disch := omega) [hc1, q1, go_sem]
        have q2' : w1.cell? ⟨w.heap.size, 2, none⟩ = some (.string s) := by simp (disch := omega) [hc1, q2, go_sem]
        have q3' : w1.cell? ⟨w.heap.size, 3, none⟩ = some (.slice (some ⟨b, off, none⟩) ms.length cap) := by simp (disch := omega) [hc1, q3, go_sem]
        go_wp2_with fail
        go_roundw
        case rel => exact ⟨j + 1, by omega, by go_num, HPRE2.out, ⟨q0', q1', q2', q3'⟩, by (repeat (first | with_reducible assumption | with_reducible exact Below.refl _ _ | with_reducible refine Below.drew ?_ | with_reducible refine belowDrewN ?_ _ | ((with_reducible refine Below.setCell ?_ ?_ _); rotate_left; focus (first | omega | (simp; done) | (simp; omega))) | ((with_reducible refine Below.alloc ?_ ?_ _); rotate_left; focus (first | omega | (simp; done) | (simp; omega))) | ((with_reducible refine Below.trans ?_ (Below.mono hb1 ?_)); rotate_left; focus (first | omega | (simp; done) | (simp; omega))))), by omega⟩
        case measure => simp [intOf]; omega
      · have hokb : (Dat.mk k1 n1 s1 ds1).okB = false := Dat.okB_false.2 hok
        have hno : (Dat.mk k n s ds).okB = false := Dat.okB_false.2 fun h => hok ((Dat.ok_mk.1 h).2 _ hmem)
        have HD := Lib.hid hd; clear hd; have HI1 := Lib.hid hi1; clear hi1; have HIN1 := Lib.hid hin1; clear hin1; have HW1 := Lib.hid hw1; clear hw1; have HMEM := Lib.hid hmem; clear hmem; have HPRE := Lib.hid hpre; clear hpre; have HOK := Lib.hid hok; clear hok; have HNO := Lib.hid hno; clear hno
        go_wp2_with fail
        refine (IH.out k1 n1 s1 ds1 HMEM.out k1 n1 s1 a1 cap1 ms1 _ HW1.out HI1.out (HIN1.out.below (by (repeat (first | with_reducible assumption | with_reducible exact Below.refl _ _ | with_reducible refine Below.drew ?_ | with_reducible refine belowDrewN ?_ _ | ((with_reducible refine Below.setCell ?_ ?_ _); rotate_left; focus (first | omega | (simp; done) | (simp; omega))) | ((with_reducible refine Below.alloc ?_ ?_ _); rotate_left; focus (first | omega | (simp; done) | (simp; omega)))))))).mono ?_
        rintro e w1 ⟨rfl, hb1⟩
        obtain ⟨hc1, hf1⟩ := bcell hb1; have hz1 := hb1.size; (try simp only [World.size_alloc, World.size_setCell, World.size_drew, sizeDrewN] at hz1 hc1 hf1)
        go_wp2_with fail
        go_ret
        exact ⟨ret_b HNO.out.symm, by (repeat (first | with_reducible assumption | with_reducible exact Below.refl _ _ | with_reducible refine Below.drew ?_ | with_reducible refine belowDrewN ?_ _ | ((with_reducible refine Below.setCell ?_ ?_ _); rotate_left; focus (first | omega | (simp; done) | (simp; omega))) | ((with_reducible refine Below.alloc ?_ ?_ _); rotate_left; focus (first | omega | (simp; done) | (simp; omega))) | ((with_reducible refine Below.trans ?_ (Below.mono hb1 ?_)); rotate_left; focus (first | omega | (simp; done) | (simp; omega)))))⟩
    · have hk2 : j = ms.length := by omega
      subst hk2
      have hfin : (Dat.mk k n s ds).okB = nodeB k n s ms.length := by
        rw [HL.out, List.take_length] at hpre
        cases hq : nodeB k n s ms.length with
        | true => rw [Dat.okB_true, Dat.ok_mk, ← HL.out]; exact ⟨hq, hpre⟩
        | false => rw [Dat.okB_false, Dat.ok_mk, ← HL.out, hq]; simp
      have HPRE := Lib.hid hpre; clear hpre; have HFIN := Lib.hid hfin; clear hfin
      go_wp2_with fail
      refine (l1Node_calls k n s ms.length _ hs).mono ?_
      rintro e w1 ⟨rfl, rfl⟩
      go_wp2_with fail
      go_ret
      exact ⟨ret_b HFIN.out.symm, hb⟩
end Go.Proofs.YtghbnehocggnnaaDoor

/-
  Walks: few nodes (a counter behind a pointer). No condition.
-/
set_option linter.unusedVariables false
set_option linter.unusedSimpArgs false
set_option maxRecDepth 100000
namespace Go.Proofs.YtghbnehocggnnaaDoor
open Go.RowKit

/-- A budget L after m have been taken: never below -1. -/
def few (L : Int) (m : Nat) : Int := if (m : Int) ≤ L then L - m else -1
theorem few_pos {L : Int} {m : Nat} (h : (m : Int) ≤ L) : few L m = L - m := by simp [few, h]
theorem few_neg {L : Int} {m : Nat} (h : ¬ (m : Int) ≤ L) : few L m = -1 := by simp [few, h]
theorem few_add {L : Int} {m c : Nat} (h : 0 ≤ few L m) : few (few L m) c = few L (m + c) := by
  unfold few at *
  split at h
  · rename_i h1
    simp only [h1, if_true]
    by_cases h2 : (c : Int) ≤ L - m
    · rw [if_pos h2, if_pos (by push_cast; omega)]; push_cast; omega
    · rw [if_neg h2, if_neg (by push_cast; omega)]
  · omega
theorem few_more {L : Int} {m : Nat} (h : few L m < 0) (hL : 0 ≤ L) (c : Nat) : few L (m + c) = -1 := by
  apply few_neg
  unfold few at h
  split at h
  · omega
  · push_cast; omega
theorem few_lo (L : Int) (m : Nat) : -1 ≤ few L m := by unfold few; split <;> omega
theorem few_hi (L : Int) (m : Nat) (h : 0 ≤ L) : few L m ≤ L := by unfold few; split <;> omega
theorem few_one {L : Int} (h : 0 ≤ L) : L - 1 = few L 1 := by
  unfold few; split
  · rfl
  · omega
theorem OnlyIn.refl (lo hi : Nat) (w : World) : OnlyIn lo hi w w := ⟨rfl, rfl, rfl, Nat.le_refl _, fun _ _ _ => rfl⟩
theorem OnlyIn.trans {lo hi : Nat} {a b c : World} (h : OnlyIn lo hi a b) (k : OnlyIn lo hi b c) : OnlyIn lo hi a c :=
  ⟨k.os.trans h.os, k.tape.trans h.tape, k.output.trans h.output, Nat.le_trans h.size k.size, fun i hi' hd => (k.block i (Nat.lt_of_lt_of_le hi' h.size) hd).trans (h.block i hi' hd)⟩
theorem OnlyIn.set {lo hi : Nat} {a b : World} (h : OnlyIn lo hi a b) (p : Addr) (v : Value) (h1 : lo ≤ p.block) (h2 : p.block < hi) : OnlyIn lo hi a (b.setCell p v) :=
  h.trans ⟨rfl, rfl, rfl, by simp, fun k hk hd => heapSet _ _ _ _ (by omega)⟩
theorem OnlyIn.new {lo hi : Nat} {a b : World} (h : OnlyIn lo hi a b) (o : Obj) : OnlyIn lo hi a (b.alloc o) :=
  h.trans ⟨rfl, rfl, rfl, by simp, fun k hk hd => heapNew _ _ _ hk⟩
theorem OnlyIn.drew {lo hi : Nat} {a b : World} (h : OnlyIn lo hi a b) : OnlyIn lo hi a b.drew := ⟨h.os, h.tape, h.output, h.size, h.block⟩
theorem OnlyIn.of_below {lo hi : Nat} {a b : World} (h : Below a.heap.size a b) : OnlyIn lo hi a b := ⟨h.os, h.tape, h.output, h.size, fun k hk _ => h.block k hk⟩
theorem OnlyIn.low {lo hi : Nat} {z a b : World} (h : OnlyIn lo hi a b) (hz : Below z.heap.size z a) (hl : z.heap.size ≤ lo) : Below z.heap.size z b :=
  hz.trans (h.below hl hz.size)

def RetFew (L : Int) (m : Nat) (pb : Nat) (w : World) (e : Ending) (w' : World) : Prop :=
  e = .returned (.bool (decide (0 ≤ few L m))) ∧ w'.cell? ⟨pb, 0, none⟩ = some (.int .i64 (few L m)) ∧ w'.frozen? ⟨pb, 0, none⟩ = false ∧ OnlyIn pb (pb + 1) w w'
def FwDs (ds : List Dat) : Prop := ∀ (k n : Int) (s : ByteArray) (a : Option Addr) (cap : Nat) (ms : List M) (pb : Nat) (L : Int) (w0 w : World), Dat.countL ds ≤ 1000000000 → Dat.IsL 40 ds ms → (M.sl a cap 4 40 ms).In w0 →
    Below w0.heap.size w0 w → w0.heap.size ≤ pb → 0 ≤ L → L ≤ 1000000000 → w.cell? ⟨pb, 0, none⟩ = some (.int .i64 L) → w.frozen? ⟨pb, 0, none⟩ = false →
    Calls Tryd.prog 55 #[.agg #[.int .i64 k, .int .i64 n, .string s, .slice a ms.length cap], .pointer (some ⟨pb, 0, none⟩)] w (RetFew L (1 + Dat.countL ds) pb w)
theorem l1Few_calls : ∀ ds, FwDs ds := by
  refine Dat.inductL fun ds ih => ?_
  intro k n s a cap ms pb L w0 w hB hi hin hb0 hpb hL0 hL9 hp hpf
  have hl := hi.length
  have hcap := hin.len
  have hpw := World.block_lt_of_cell? w _ hp
  simp only at hpw
  have IH := Lib.hid ih; clear ih; have HIN := Lib.hid hin; clear hin; have HI := Lib.hid hi; clear hi; have HL := Lib.hid hl; clear hl
  go_enter Tryd.func55, Tryd.ntmps55
  go_wp2_with fail
  go_loopw [5] (fun i wr => ∃ (j : Nat), j ≤ ms.length ∧ i = .int .i64 j ∧ (wr.cell? ⟨pb, 0, none⟩ = some (.int .i64 (few L (1 + Dat.countL (ds.take j)))) ∧ wr.frozen? ⟨pb, 0, none⟩ = false) ∧
     wr.cell? ⟨w.heap.size, 3, none⟩ = some (.slice a ms.length cap) ∧ OnlyIn pb (pb + 1) w wr ∧ w.heap.size + 1 ≤ wr.heap.size) (fun i _ => ms.length - (intOf i).toNat)
  case atStart =>
    have hne : pb ≠ w.heap.size := by omega
    refine ⟨0, Nat.zero_le _, rfl, ?_, ?_, ?_, ?_⟩
    · rw [List.take_zero, show 1 + Dat.countL [] = 1 from rfl, ← few_one hL0]
      simp (disch := (first | omega | (simp; omega))) [go_sem, hp, hpf]
    · have hs' : (w.setCell ⟨pb, 0, none⟩ (.int .i64 (L - 1))).heap.size = w.heap.size := by simp
      rw [← hs', World.cell?_alloc_new]; rfl
    · exact ((OnlyIn.refl pb (pb + 1) w).set ⟨pb, 0, none⟩ _ (Nat.le_refl _) (Nat.lt_succ_self _)).new _
    · simp
  case round =>
    obtain ⟨j, hj, rfl, ⟨q, qf⟩, c3b, ho, hsz⟩ := hrel
    have hbz := ho.low hb0 hpb
    by_cases hlt : j < ms.length
    · by_cases hneg : few L (1 + Dat.countL (ds.take j)) < 0
      · have hlo := few_lo L (1 + Dat.countL (ds.take j))
        have hall : few L (1 + Dat.countL ds) = few L (1 + Dat.countL (ds.take j)) := by
          have h1 := few_more hneg hL0 (Dat.countL (ds.drop j))
          rw [Nat.add_assoc, ← Dat.countL_append, List.take_append_drop] at h1
          omega
        rw [← hall] at q hneg hlo
        have HO := Lib.hid ho; clear ho; have HBZ := Lib.hid hbz; clear hbz; have HALL := Lib.hid hall; clear hall
        go_wp2_with fail
        go_ret
        exact ⟨rfl, q, qf, HO.out⟩
      · have hpos : 0 ≤ few L (1 + Dat.countL (ds.take j)) := by omega
        have hhi := few_hi L (1 + Dat.countL (ds.take j)) hL0
        obtain ⟨b, off, k1, n1, s1, ds1, a1, cap1, ms1, rfl, hd, hi1, hin1, c0, c1, c2, c3⟩ := Dat.elem HIN.out HI.out j hlt
        have hbl := World.block_lt_of_cell? w0 _ c0
        simp only at hbl
        have e0 := (hbz.cell (p := ⟨b, _, none⟩) hbl).trans c0
        have e1 := (hbz.cell (p := ⟨b, _, none⟩) hbl).trans c1
        have e2 := (hbz.cell (p := ⟨b, _, none⟩) hbl).trans c2
        have e3 := (hbz.cell (p := ⟨b, _, none⟩) hbl).trans c3
        clear c0 c1 c2 c3
        obtain ⟨ht, hle⟩ := Dat.countL_le ds j _ hd
        have hmem := List.mem_of_getElem? hd
        have hadd := few_add (c := 1 + Dat.countL ds1) hpos
        simp only [Dat.count] at hle ht
        rw [show 1 + Dat.countL (ds.take j) + (1 + Dat.countL ds1) = 1 + Dat.countL (ds.take (j + 1)) by rw [ht]; omega] at hadd
        generalize hF : few L (1 + Dat.countL (ds.take j)) = F at *
        have HD := Lib.hid hd; clear hd; have HI1 := Lib.hid hi1; clear hi1; have HIN1 := Lib.hid hin1; clear hin1; have HMEM := Lib.hid hmem; clear hmem; have HT := Lib.hid ht; clear ht; have HF := Lib.hid hF; clear hF; have HB0 := Lib.hid hb0; clear hb0; have HBZ := Lib.hid hbz; clear hbz; have HO := Lib.hid ho; clear ho
        go_wp2_with fail
        refine (IH.out k1 n1 s1 ds1 HMEM.out k1 n1 s1 a1 cap1 ms1 pb F w0 _ (by omega) HI1.out HIN1.out HBZ.out hpb hpos (by omega) q qf).mono ?_
        rintro e w1 ⟨rfl, q', qf', ho1⟩
        obtain ⟨hc1, hf1⟩ := ocell ho1
        have hz1 := ho1.size
        have c3c : w1.cell? ⟨w.heap.size, 3, none⟩ = some (.slice (some ⟨b, off, none⟩) ms.length cap) := by rw [hc1 _ _ (by omega) (by omega)]; exact c3b
        have hof := HO.out.trans ho1
        rw [hadd] at q'
        have HOF := Lib.hid hof; clear hof; have HO1 := Lib.hid ho1; clear ho1
        go_wp2_with fail
        go_roundw
        case rel => exact ⟨j + 1, by omega, by go_num, ⟨q', qf'⟩, c3c, HOF.out, by omega⟩
        case measure => simp [intOf]; omega
    · have hk2 : j = ms.length := by omega
      subst hk2
      have hlo := few_lo L (1 + Dat.countL (ds.take ms.length))
      have hhi := few_hi L (1 + Dat.countL (ds.take ms.length)) hL0
      have hd2 : ds.take ms.length = ds := by rw [HL.out, List.take_length]
      rw [hd2] at q hlo hhi
      have HO := Lib.hid ho; clear ho; have HBZ := Lib.hid hbz; clear hbz; have HD2 := Lib.hid hd2; clear hd2
      go_wp2_with fail
      go_ret
      exact ⟨rfl, q, qf, HO.out⟩
end Go.Proofs.YtghbnehocggnnaaDoor

/-
  The cells of one datum, of one piece of syntax, of one binding, in a block of their own. No condition.
-/
set_option linter.unusedVariables false
set_option linter.unusedSimpArgs false
namespace Go.Proofs.YtghbnehocggnnaaDoor
open Go.RowKit

/-- a datum's cells at block b -/
structure DBox (b : Nat) (k n : Int) (s : ByteArray) (v : Value) (w : World) : Prop where
  c0 : w.cell? ⟨b, 0, none⟩ = some (.int .i64 k)
  c1 : w.cell? ⟨b, 1, none⟩ = some (.int .i64 n)
  c2 : w.cell? ⟨b, 2, none⟩ = some (.string s)
  c3 : w.cell? ⟨b, 3, none⟩ = some v
  f0 : w.frozen? ⟨b, 0, none⟩ = false
  f1 : w.frozen? ⟨b, 1, none⟩ = false
  f2 : w.frozen? ⟨b, 2, none⟩ = false
  f3 : w.frozen? ⟨b, 3, none⟩ = false
theorem cellNew {w : World} {a : Addr} {v : Value} {o : Obj} (h : w.cell? a = some v) : (w.alloc o).cell? a = some v := by
  rw [World.cell?_of_block (heapNew w o a.block (World.block_lt_of_cell? w a h))]; exact h
theorem cellFar {w : World} {b o g i : Nat} {v u : Value} (h : b ≠ g) (hc : w.cell? ⟨b, o, none⟩ = some v) : (w.setCell ⟨g, i, none⟩ u).cell? ⟨b, o, none⟩ = some v := by
  rw [World.cell?_of_block (a := ⟨b, o, none⟩) (heapSet w ⟨g, i, none⟩ u b h)]; exact hc
theorem far5 {w : World} {b o g i0 i1 i2 i3 i4 : Nat} {v u0 u1 u2 u3 u4 : Value} (h : b ≠ g) (hc : w.cell? ⟨b, o, none⟩ = some v) :
    (((((w.setCell ⟨g, i0, none⟩ u0).setCell ⟨g, i1, none⟩ u1).setCell ⟨g, i2, none⟩ u2).setCell ⟨g, i3, none⟩ u3).setCell ⟨g, i4, none⟩ u4).cell? ⟨b, o, none⟩ = some v :=
  cellFar h (cellFar h (cellFar h (cellFar h (cellFar h hc))))
theorem cellSet_ne {w : World} {b i j : Nat} (v : Value) (h : i ≠ j) : (w.setCell ⟨b, j, none⟩ v).cell? ⟨b, i, none⟩ = w.cell? ⟨b, i, none⟩ := by
  have : (⟨b, i, none⟩ : Addr) ≠ ⟨b, j, none⟩ := by simp [h]
  simp [go_sem, this, h]
theorem frozenSet {w : World} {a c : Addr} (v : Value) : (w.setCell a v).frozen? c = w.frozen? c := by
  simp [go_sem]
theorem DBox.lt {b : Nat} {k n : Int} {s : ByteArray} {v : Value} {w : World} (h : DBox b k n s v w) : b < w.heap.size := World.block_lt_of_cell? w _ h.c0
theorem DBox.of {b : Nat} {k n : Int} {s : ByteArray} {v : Value} {w w' : World} (h : DBox b k n s v w) (hk : w'.heap[b]? = w.heap[b]?) : DBox b k n s v w' :=
  ⟨(World.cell?_of_block hk).trans h.c0, (World.cell?_of_block hk).trans h.c1, (World.cell?_of_block hk).trans h.c2, (World.cell?_of_block hk).trans h.c3,
   (World.frozen?_of_block hk).trans h.f0, (World.frozen?_of_block hk).trans h.f1, (World.frozen?_of_block hk).trans h.f2, (World.frozen?_of_block hk).trans h.f3⟩
theorem DBox.only {b lo hi : Nat} {k n : Int} {s : ByteArray} {v : Value} {w w' : World} (h : DBox b k n s v w) (o : OnlyIn lo hi w w') (hb : b < lo ∨ hi ≤ b) : DBox b k n s v w' := h.of (o.block b h.lt hb)
theorem DBox.below {b B : Nat} {k n : Int} {s : ByteArray} {v : Value} {w w' : World} (h : DBox b k n s v w) (o : Below B w w') (hb : b < B) : DBox b k n s v w' := h.of (o.block b hb)
theorem DBox.far {b : Nat} {k n : Int} {s : ByteArray} {v : Value} {w : World} (h : DBox b k n s v w) {a : Addr} (u : Value) (hb : b ≠ a.block) : DBox b k n s v (w.setCell a u) := h.of (heapSet _ _ _ _ hb)
theorem DBox.new (k n : Int) (s : ByteArray) (v : Value) (w : World) : DBox w.heap.size k n s v (w.alloc (.cells #[.int .i64 k, .int .i64 n, .string s, v] 40)) := by
  constructor <;> simp [go_sem]
theorem DBox.set3 {b : Nat} {k n : Int} {s : ByteArray} {v : Value} {w : World} (h : DBox b k n s v w) (u : Value) : DBox b k n s u (w.setCell ⟨b, 3, none⟩ u) :=
  ⟨(cellSet_ne u (by decide)).trans h.c0, (cellSet_ne u (by decide)).trans h.c1, (cellSet_ne u (by decide)).trans h.c2, by rw [cell?_setCell_eq, h.c3]; rfl,
   (frozenSet u).trans h.f0, (frozenSet u).trans h.f1, (frozenSet u).trans h.f2, (frozenSet u).trans h.f3⟩
theorem DBox.set2 {b : Nat} {k n : Int} {s : ByteArray} {v : Value} {w : World} (h : DBox b k n s v w) (u : ByteArray) : DBox b k n u v (w.setCell ⟨b, 2, none⟩ (.string u)) :=
  ⟨(cellSet_ne _ (by decide)).trans h.c0, (cellSet_ne _ (by decide)).trans h.c1, by rw [cell?_setCell_eq, h.c2]; rfl, (cellSet_ne _ (by decide)).trans h.c3,
   (frozenSet _).trans h.f0, (frozenSet _).trans h.f1, (frozenSet _).trans h.f2, (frozenSet _).trans h.f3⟩

/-- a binding's cells at block b -/
structure BBox (b : Nat) (s : ByteArray) (x : Value) (k n : Int) (w : World) : Prop where
  c0 : w.cell? ⟨b, 0, none⟩ = some (.string s)
  c1 : w.cell? ⟨b, 1, none⟩ = some x
  c2 : w.cell? ⟨b, 2, none⟩ = some (.int .i64 k)
  c3 : w.cell? ⟨b, 3, none⟩ = some (.int .i64 n)
  f0 : w.frozen? ⟨b, 0, none⟩ = false
  f1 : w.frozen? ⟨b, 1, none⟩ = false
  f2 : w.frozen? ⟨b, 2, none⟩ = false
  f3 : w.frozen? ⟨b, 3, none⟩ = false
theorem BBox.lt {b : Nat} {k n : Int} {s : ByteArray} {x : Value} {w : World} (h : BBox b s x k n w) : b < w.heap.size := World.block_lt_of_cell? w _ h.c0
theorem BBox.of {b : Nat} {k n : Int} {s : ByteArray} {x : Value} {w w' : World} (h : BBox b s x k n w) (hk : w'.heap[b]? = w.heap[b]?) : BBox b s x k n w' :=
  ⟨(World.cell?_of_block hk).trans h.c0, (World.cell?_of_block hk).trans h.c1, (World.cell?_of_block hk).trans h.c2, (World.cell?_of_block hk).trans h.c3,
   (World.frozen?_of_block hk).trans h.f0, (World.frozen?_of_block hk).trans h.f1, (World.frozen?_of_block hk).trans h.f2, (World.frozen?_of_block hk).trans h.f3⟩
theorem BBox.only {b lo hi : Nat} {k n : Int} {s : ByteArray} {x : Value} {w w' : World} (h : BBox b s x k n w) (o : OnlyIn lo hi w w') (hb : b < lo ∨ hi ≤ b) : BBox b s x k n w' := h.of (o.block b h.lt hb)
theorem BBox.below {b B : Nat} {k n : Int} {s : ByteArray} {x : Value} {w w' : World} (h : BBox b s x k n w) (o : Below B w w') (hb : b < B) : BBox b s x k n w' := h.of (o.block b hb)
theorem BBox.far {b : Nat} {k n : Int} {s : ByteArray} {x : Value} {w : World} (h : BBox b s x k n w) {a : Addr} (u : Value) (hb : b ≠ a.block) : BBox b s x k n (w.setCell a u) := h.of (heapSet _ _ _ _ hb)
theorem BBox.new (s : ByteArray) (x : Value) (k n : Int) (w : World) : BBox w.heap.size s x k n (w.alloc (.cells #[.string s, x, .int .i64 k, .int .i64 n] 27)) := by
  constructor <;> simp [go_sem]
end Go.Proofs.YtghbnehocggnnaaDoor
