/-
  What lies in memory: data with the addresses of their slices, what a call has made itself, append. No condition.
-/
import Derived.WalkKit
import Derived.WalkSpells
import Derived.Deep.QuietTactic
import Derived.BigQuiet
import Derived.Deep.LoopGhost
import Derived.Deep.RegionHeld3
import Derived.Lib.Hide
set_option linter.unusedVariables false
set_option linter.unusedSimpArgs false
namespace Go.Proofs.Ytigmgfinjapchaa
open Go.RowKit

/-! ### Data in memory: a value with the addresses of its slices -/
inductive M where
  | c (v : Value)
  | sl (a : Option Addr) (cap sz : Nat) (e : TypeId) (xs : List M)
  | ag (xs : List M)

mutual
def M.cells : M → List Value
  | .c v => [v]
  | .sl a cap _ _ xs => [.slice a xs.length cap]
  | .ag xs => M.cellsL xs
def M.cellsL : List M → List Value
  | [] => []
  | x :: r => x.cells ++ M.cellsL r
end

def M.val : M → Value
  | .c v => v
  | .sl a cap _ _ xs => .slice a xs.length cap
  | .ag xs => .agg (M.cellsL xs).toArray

/-- The cells of a slice lie in the world. -/
structure HdrIn (w : World) (a : Option Addr) (cap sz n : Nat) (cs : List Value) : Prop where
  len : cs.length = n * sz
  pos : 0 < sz
  le : n ≤ cap
  max : cap ≤ maxLen
  nil : a = none → n = 0 ∧ cap = 0
  cell : ∀ ad, a = some ad → ∀ (j : Nat) u, cs[j]? = some u → w.cell? (ad.add j) = some u

mutual
def M.In (w : World) : M → Prop
  | .c _ => True
  | .sl a cap sz _ xs => (HdrIn w a cap sz xs.length (M.cellsL xs) ∧ ∀ x ∈ xs, x.cells.length = sz) ∧ M.InL w xs
  | .ag xs => M.InL w xs
def M.InL (w : World) : List M → Prop
  | [] => True
  | x :: r => x.In w ∧ M.InL w r
end

theorem M.InL_mem {w : World} {xs : List M} (h : M.InL w xs) : ∀ x ∈ xs, x.In w := by
  induction xs with
  | nil => intro x hx; cases hx
  | cons y r ih =>
    intro x hx
    rcases List.mem_cons.1 hx with rfl | hx
    · exact h.1
    · exact ih h.2 x hx

theorem M.InL_of {w : World} {xs : List M} (h : ∀ x ∈ xs, x.In w) : M.InL w xs := by
  induction xs with
  | nil => trivial
  | cons y r ih => exact ⟨h y (List.mem_cons_self ..), ih fun x hx => h x (List.mem_cons_of_mem _ hx)⟩

theorem M.cellsL_append (xs ys : List M) : M.cellsL (xs ++ ys) = M.cellsL xs ++ M.cellsL ys := by
  induction xs with
  | nil => rfl
  | cons x r ih => simp only [List.cons_append, M.cellsL, ih, List.append_assoc]

theorem M.cellsL_length {xs : List M} {sz : Nat} (h : ∀ x ∈ xs, x.cells.length = sz) : (M.cellsL xs).length = xs.length * sz := by
  induction xs with
  | nil => simp [M.cellsL]
  | cons x r ih =>
    simp only [M.cellsL, List.length_append, List.length_cons, h x (List.mem_cons_self ..), ih fun y hy => h y (List.mem_cons_of_mem _ hy)]
    rw [Nat.succ_mul]; omega

/-- element k's cells within the row -/
theorem M.cellsL_get {xs : List M} {sz : Nat} (h : ∀ x ∈ xs, x.cells.length = sz) (k : Nat) (hk : k < xs.length) (j : Nat) (hj : j < sz) :
    (M.cellsL xs)[k * sz + j]? = (xs[k]).cells[j]? := by
  induction xs generalizing k with
  | nil => simp at hk
  | cons x r ih =>
    have hx := h x (List.mem_cons_self ..)
    cases k with
    | zero =>
      simp only [M.cellsL, Nat.zero_mul, Nat.zero_add, List.getElem_cons_zero]
      rw [List.getElem?_append_left (by omega)]
    | succ k =>
      simp only [M.cellsL, List.getElem_cons_succ]
      rw [List.getElem?_append_right (by rw [hx, Nat.succ_mul]; omega), hx]
      rw [show (k + 1) * sz + j - sz = k * sz + j by rw [Nat.succ_mul]; omega]
      exact ih (fun y hy => h y (List.mem_cons_of_mem _ hy)) k (by simpa using hk)

theorem addr_add (b o k : Nat) : (⟨b, o, none⟩ : Addr).add k = ⟨b, o + k, none⟩ := by
  unfold Addr.add; split <;> simp_all

/-- A slice with an element has an address without a spot, and there its elements' cells lie. -/
theorem M.In.elem {w : World} {a : Option Addr} {cap sz : Nat} {e : TypeId} {xs : List M} (h : (M.sl a cap sz e xs).In w) (hne : 0 < xs.length) :
    ∃ b off, a = some ⟨b, off, none⟩ ∧ ∀ (k : Nat) (hk : k < xs.length) (j : Nat) (u : Value), (xs[k]).cells[j]? = some u → w.cell? ⟨b, off + (k * sz + j), none⟩ = some u := by
  obtain ⟨⟨hh, hu⟩, _⟩ := h
  cases a with
  | none => have := (hh.nil rfl).1; omega
  | some ad =>
    obtain ⟨b, off, spot⟩ := ad
    have hlen := M.cellsL_length hu
    have h0 : ∃ u, (M.cellsL xs)[0]? = some u := ⟨_, List.getElem?_eq_getElem (by rw [hlen]; exact Nat.mul_pos hne hh.pos)⟩
    obtain ⟨u0, h0⟩ := h0
    have hc := hh.cell _ rfl 0 u0 h0
    have hspot : spot = none := by
      cases spot with
      | none => rfl
      | some s =>
        simp [Addr.add, World.cell?] at hc
        split at hc <;> simp at hc
    subst hspot
    refine ⟨b, off, rfl, fun k hk j u hj => ?_⟩
    have hjs : j < sz := by
      have := (List.getElem?_eq_some_iff.1 hj).1
      rwa [hu _ (List.getElem_mem hk)] at this
    have := hh.cell _ rfl (k * sz + j) u (by rw [M.cellsL_get hu k hk j hjs]; exact hj)
    rwa [addr_add] at this

mutual
theorem M.In.frame {w w' : World} (hw : ∀ a v, w.cell? a = some v → w'.cell? a = some v) : ∀ m : M, m.In w → m.In w'
  | .c _, _ => trivial
  | .sl a cap sz e xs, ⟨⟨hh, hu⟩, hx⟩ => ⟨⟨⟨hh.len, hh.pos, hh.le, hh.max, hh.nil, fun ad had j u hj => hw _ _ (hh.cell ad had j u hj)⟩, hu⟩, M.InL.frame hw xs hx⟩
  | .ag xs, hx => M.InL.frame hw xs hx
theorem M.InL.frame {w w' : World} (hw : ∀ a v, w.cell? a = some v → w'.cell? a = some v) : ∀ xs : List M, M.InL w xs → M.InL w' xs
  | [], _ => trivial
  | x :: r, ⟨h1, h2⟩ => ⟨M.In.frame hw x h1, M.InL.frame hw r h2⟩
end

theorem M.In.below {w w' : World} {m : M} (h : m.In w) (hb : Below w.heap.size w w') : m.In w' :=
  M.In.frame (fun a v hc => (hb.cell (p := a) (World.block_lt_of_cell? w a hc)).trans hc) m h


/-! ### What a call has made itself -/
mutual
def M.Own (w : World) (lo : Nat) : M → Prop
  | .c v => v.oneCell' = true
  | .sl a cap sz e xs => (w.ownsRow lo e sz (.slice a xs.length cap) xs.length (M.cellsL xs) ∧ 0 < sz ∧ ∀ x ∈ xs, x.cells.length = sz) ∧ M.OwnL w lo xs
  | .ag xs => M.OwnL w lo xs
def M.OwnL (w : World) (lo : Nat) : List M → Prop
  | [] => True
  | x :: r => x.Own w lo ∧ M.OwnL w lo r
end

def addrBlocks : Option Addr → List Nat
  | none => []
  | some a => [a.block]

mutual
def M.blocks : M → List Nat
  | .c _ => []
  | .sl a _ _ _ xs => addrBlocks a ++ M.blocksL xs
  | .ag xs => M.blocksL xs
def M.blocksL : List M → List Nat
  | [] => []
  | x :: r => x.blocks ++ M.blocksL r
end

theorem M.blocksL_append (xs ys : List M) : M.blocksL (xs ++ ys) = M.blocksL xs ++ M.blocksL ys := by
  induction xs with
  | nil => rfl
  | cons x r ih => simp only [List.cons_append, M.blocksL, ih, List.append_assoc]

theorem M.OwnL_append {w : World} {lo : Nat} (xs ys : List M) : M.OwnL w lo (xs ++ ys) ↔ M.OwnL w lo xs ∧ M.OwnL w lo ys := by
  induction xs with
  | nil => simp [M.OwnL]
  | cons x r ih => simp only [List.cons_append, M.OwnL, ih, and_assoc]

theorem M.InL_append {w : World} (xs ys : List M) : M.InL w (xs ++ ys) ↔ M.InL w xs ∧ M.InL w ys := by
  induction xs with
  | nil => simp [M.InL]
  | cons x r ih => simp only [List.cons_append, M.InL, ih, and_assoc]

mutual
theorem M.Own.lt {w : World} {lo : Nat} : ∀ m : M, m.Own w lo → ∀ b ∈ m.blocks, lo ≤ b ∧ b < w.heap.size
  | .c _, _, b, hb => by simp [M.blocks] at hb
  | .sl a cap sz e xs, ⟨⟨hr, _⟩, hx⟩, b, hb => by
    simp only [M.blocks, List.mem_append] at hb
    rcases hb with hb | hb
    · refine hr.lt b ?_
      cases a with
      | none => simp [addrBlocks] at hb
      | some ad => simp [addrBlocks] at hb; simp [Value.ownBlock, hb]
    · exact M.OwnL.lt xs hx b hb
  | .ag xs, hx, b, hb => M.OwnL.lt xs hx b (by simpa [M.blocks] using hb)
theorem M.OwnL.lt {w : World} {lo : Nat} : ∀ xs : List M, M.OwnL w lo xs → ∀ b ∈ M.blocksL xs, lo ≤ b ∧ b < w.heap.size
  | [], _, b, hb => by simp [M.blocksL] at hb
  | x :: r, ⟨h1, h2⟩, b, hb => by
    simp only [M.blocksL, List.mem_append] at hb
    rcases hb with hb | hb
    · exact M.Own.lt x h1 b hb
    · exact M.OwnL.lt r h2 b hb
end

theorem ownsRow_frame {w w' : World} {lo sz n : Nat} {e : TypeId} {a : Option Addr} {cap : Nat} {cs : List Value} (h : w.ownsRow lo e sz (.slice a n cap) n cs)
    (hw : ∀ b ∈ addrBlocks a, w'.heap[b]? = w.heap[b]?) : w'.ownsRow lo e sz (.slice a n cap) n cs := by
  refine ⟨h.1, ?_⟩
  rcases h.2 with h2 | ⟨g, cap', cur, hv, hb, hg, r⟩
  · exact .inl h2
  · refine .inr ⟨g, cap', cur, hv, hb, ?_, r⟩
    simp at hv
    rw [hw g (by simp [hv.1, addrBlocks])]; exact hg

mutual
theorem M.Own.frame {w w' : World} {lo : Nat} : ∀ m : M, m.Own w lo → (∀ b ∈ m.blocks, w'.heap[b]? = w.heap[b]?) → m.Own w' lo
  | .c _, h, _ => h
  | .sl a cap sz e xs, ⟨⟨hr, h2⟩, hx⟩, hw => ⟨⟨ownsRow_frame hr fun b hb => hw b (by simp [M.blocks, hb]), h2⟩, M.OwnL.frame xs hx fun b hb => hw b (by simp [M.blocks, hb])⟩
  | .ag xs, hx, hw => M.OwnL.frame xs hx fun b hb => hw b (by simpa [M.blocks] using hb)
theorem M.OwnL.frame {w w' : World} {lo : Nat} : ∀ xs : List M, M.OwnL w lo xs → (∀ b ∈ M.blocksL xs, w'.heap[b]? = w.heap[b]?) → M.OwnL w' lo xs
  | [], _, _ => trivial
  | x :: r, ⟨h1, h2⟩, hw => ⟨M.Own.frame x h1 fun b hb => hw b (by simp [M.blocksL, hb]), M.OwnL.frame r h2 fun b hb => hw b (by simp [M.blocksL, hb])⟩
end

theorem M.Own.below {w w' : World} {lo : Nat} {m : M} (h : m.Own w lo) (hb : Below w.heap.size w w') : m.Own w' lo :=
  M.Own.frame m h fun b hm => hb.block b (M.Own.lt m h b hm).2
theorem M.OwnL.below {w w' : World} {lo : Nat} {xs : List M} (h : M.OwnL w lo xs) (hb : Below w.heap.size w w') : M.OwnL w' lo xs :=
  M.OwnL.frame xs h fun b hm => hb.block b (M.OwnL.lt xs h b hm).2

theorem ownsRow_mono {w : World} {lo lo' sz n : Nat} {e : TypeId} {v : Value} {cs : List Value} (h : w.ownsRow lo e sz v n cs) (hl : lo' ≤ lo) : w.ownsRow lo' e sz v n cs := by
  refine ⟨h.1, ?_⟩
  rcases h.2 with h2 | ⟨g, cap', cur, hv, hb, r⟩
  · exact .inl h2
  · exact .inr ⟨g, cap', cur, hv, by omega, r⟩
mutual
theorem M.Own.mono {w : World} {lo lo' : Nat} (hl : lo' ≤ lo) : ∀ m : M, m.Own w lo → m.Own w lo'
  | .c _, h => h
  | .sl _ _ _ _ xs, ⟨⟨hr, h2⟩, hx⟩ => ⟨⟨ownsRow_mono hr hl, h2⟩, M.OwnL.mono hl xs hx⟩
  | .ag xs, hx => M.OwnL.mono hl xs hx
theorem M.OwnL.mono {w : World} {lo lo' : Nat} (hl : lo' ≤ lo) : ∀ xs : List M, M.OwnL w lo xs → M.OwnL w lo' xs
  | [], _ => trivial
  | x :: r, ⟨h1, h2⟩ => ⟨M.Own.mono hl x h1, M.OwnL.mono hl r h2⟩
end

theorem ownsRow_hdr {w : World} {lo sz n : Nat} {e : TypeId} {a : Option Addr} {cap : Nat} {cs : List Value} (h : w.ownsRow lo e sz (.slice a n cap) n cs) (hs : 0 < sz) : HdrIn w a cap sz n cs := by
  rcases h.2 with ⟨hv, hn⟩ | ⟨g, cap', cur, hv, hb, hg, h1, h2, h3, h4⟩
  · simp at hv
    exact ⟨h.1, hs, by omega, by simp [hv], fun _ => ⟨hn, hv.2.2⟩, fun ad had => by simp [hv.1] at had⟩
  · simp at hv
    obtain ⟨rfl, rfl⟩ := hv
    refine ⟨h.1, hs, h1, h2, by simp, fun ad had j u hj => ?_⟩
    obtain rfl := Option.some.inj had
    exact h.cells (g := g) rfl j u hj

mutual
theorem M.Own.in_ {w : World} {lo : Nat} : ∀ m : M, m.Own w lo → m.In w
  | .c _, _ => trivial
  | .sl _ _ _ _ xs, ⟨⟨hr, hs, hu⟩, hx⟩ => ⟨⟨ownsRow_hdr hr hs, hu⟩, M.OwnL.in_ xs hx⟩
  | .ag xs, hx => M.OwnL.in_ xs hx
theorem M.OwnL.in_ {w : World} {lo : Nat} : ∀ xs : List M, M.OwnL w lo xs → M.InL w xs
  | [], _ => trivial
  | x :: r, ⟨h1, h2⟩ => ⟨M.Own.in_ x h1, M.OwnL.in_ r h2⟩
end

mutual
theorem M.Own.one {w : World} {lo : Nat} : ∀ m : M, m.Own w lo → ∀ u ∈ m.cells, u.oneCell' = true
  | .c v, h, u, hu => by simp [M.cells] at hu; subst hu; exact h
  | .sl _ _ _ _ _, _, u, hu => by simp [M.cells] at hu; subst hu; rfl
  | .ag xs, h, u, hu => M.OwnL.one xs h u (by simpa [M.cells] using hu)
theorem M.OwnL.one {w : World} {lo : Nat} : ∀ xs : List M, M.OwnL w lo xs → ∀ u ∈ M.cellsL xs, u.oneCell' = true
  | [], _, u, hu => by simp [M.cellsL] at hu
  | x :: r, ⟨h1, h2⟩, u, hu => by
    simp only [M.cellsL, List.mem_append] at hu
    rcases hu with hu | hu
    · exact M.Own.one x h1 u hu
    · exact M.OwnL.one r h2 u hu
end

/-- Its own, and no two slices of it in one block. -/
structure M.Mine (w : World) (lo : Nat) (m : M) : Prop where
  own : m.Own w lo
  dup : m.blocks.Nodup
structure M.MineL (w : World) (lo : Nat) (xs : List M) : Prop where
  own : M.OwnL w lo xs
  dup : (M.blocksL xs).Nodup

theorem M.Mine.below {w w' : World} {lo : Nat} {m : M} (h : m.Mine w lo) (hb : Below w.heap.size w w') : m.Mine w' lo := ⟨h.own.below hb, h.dup⟩
theorem M.Mine.in_ {w : World} {lo : Nat} {m : M} (h : m.Mine w lo) : m.In w := M.Own.in_ m h.own
theorem M.Mine.mono {w : World} {lo lo' : Nat} {m : M} (h : m.Mine w lo) (hl : lo' ≤ lo) : m.Mine w lo' := ⟨M.Own.mono hl m h.own, h.dup⟩
theorem M.Mine.lt {w : World} {lo : Nat} {m : M} (h : m.Mine w lo) : ∀ b ∈ m.blocks, lo ≤ b ∧ b < w.heap.size := M.Own.lt m h.own

theorem M.Mine.nil (w : World) (lo sz : Nat) (e : TypeId) (hs : 0 < sz) : (M.sl none 0 sz e []).Mine w lo :=
  ⟨⟨⟨World.ownsRow_nil w lo e sz, hs, by simp⟩, trivial⟩, by simp [M.blocks, addrBlocks, M.blocksL]⟩

/-! ### append -/
section
variable {P : Program} (w : World)

theorem run_append_row (base : Nat) (t ty e : TypeId) (i : TypeInfo) (z : Value) (size bytes : Nat) (ht : P.underlying t = some (.slice e)) (hi : P.info? e = some i) (hz : i.zero = some z)
    (hsize : i.size = size) (hby : i.bytes = bytes) (hzs : z.cells.size = size) (hsz : 0 < size)
    (a : Option Addr) (n cap : Nat) (xs : List Value) (hown : w.ownsRow base e size (.slice a n cap) n xs)
    (ao : Option Addr) (m c : Nat) (news : List Value) (hl : news.length = m * size) (hno : ao = none → m = 0 ∧ c = 0) (hnews : ∀ ad, ao = some ad → ∀ (j : Nat) u, news[j]? = some u → w.cell? (ad.add j) = some u) (h1 : ∀ u ∈ news, u.oneCell' = true)
    (h63 : n + m ≤ maxLen) (hbytes : (n + m) * bytes ≤ 140737488355328) (hbase : base ≤ w.heap.size) :
    ∃ a' cap' w', (Builtin.append_ #[t, t] ty #[.slice a n cap, .slice ao m c]).run P w = .ok (.slice a' (n + m) cap') w' ∧ w'.ownsRow base e size (.slice a' (n + m) cap') (n + m) (xs ++ news) ∧
      w.grownBy w' (Value.ownBlock (.slice a n cap)) ∧ (∀ b ∈ addrBlocks a', b ∈ addrBlocks a ∨ w.heap.size ≤ b) := by
  subst hsize
  subst hby
  have hsmall : n + m ≤ 9223372036854775807 := by simp only [maxLen] at h63; omega
  have hlen : (xs ++ news).length = (n + m) * i.size := by rw [List.length_append, hown.1, hl, Nat.add_mul]
  have grown : ∀ (old : Nat), old < n + m → ∀ (row : Option Nat),
      (w.drew.alloc (.cells (xs.toArray ++ news.toArray ++ Builtin.zeroCells z.cells (grownCap w (n + m) old e - (n + m))) e)).ownsRow base e i.size
        (.slice (some ⟨w.heap.size, 0, none⟩) (n + m) (grownCap w (n + m) old e)) (n + m) (xs ++ news) ∧
      w.grownBy (w.drew.alloc (.cells (xs.toArray ++ news.toArray ++ Builtin.zeroCells z.cells (grownCap w (n + m) old e - (n + m))) e)) row := by
    intro old ho row
    have hge := grownCap_ge w (n + m) old e
    have hcm : grownCap w (n + m) old e ≤ maxLen := grownCap_le_maxLen w (n + m) old e h63
    refine ⟨⟨hlen, .inr ⟨w.heap.size, _, _, rfl, hbase, heap_alloc_new w.drew _, hge, hcm, ?_, ?_⟩⟩, ⟨rfl, rfl, rfl, by simp, fun k hk _ => Below.heap_alloc w.drew _ k hk⟩⟩
    · simp only [Array.size_append, List.size_toArray, size_zeroCells, hzs, hown.1, hl, ← Nat.add_mul]
      congr 1
      omega
    · simp only [Array.toList_append, List.append_assoc]
      rw [← List.append_assoc, ← hlen]
      exact List.take_left
  cases ao with
  | none =>
    obtain ⟨rfl, rfl⟩ := hno rfl
    have hn : news = [] := List.eq_nil_of_length_eq_zero (by simpa using hl)
    subst hn
    have hr := run_append_owned_none (P := P) w base t ty e i i.size ht hi _ n xs hown
    exact ⟨a, cap, w, by simpa using hr, by simpa using hown, ⟨rfl, rfl, rfl, Nat.le_refl _, fun _ _ _ => rfl⟩, fun b hb => .inl hb⟩
  | some ad =>
    have hnews' := hnews ad rfl
    rcases hown.2 with ⟨hv, rfl⟩ | ⟨g, cap', cur, hv, hbg, hg, hnc, hcm, hcs, htake⟩
    · obtain ⟨rfl, rfl⟩ : a = none ∧ cap = 0 := by simpa using hv
      have hx : xs = [] := List.eq_nil_of_length_eq_zero (by simpa using hown.1)
      subst hx
      by_cases hm : m = 0
      · subst hm
        have hn : news = [] := List.eq_nil_of_length_eq_zero (by simpa using hl)
        subst hn
        refine ⟨none, 0, w, ?_, by simpa using World.ownsRow_nil w base e i.size, ⟨rfl, rfl, rfl, Nat.le_refl _, fun _ _ _ => rfl⟩, by simp [addrBlocks]⟩
        simp [Builtin.append_, run_underlying ht, sizeOf, typeInfo, hi, Builtin.lenOf, Builtin.firstCells, loadCells, loadCellsFrom]
      · have hr := run_append_nil (P := P) w t ty e i z ht hi hz ad m c news hl hnews' (by omega) (by omega) (by have hb := hbytes; simp only [Nat.zero_add] at hb; omega)
        have hgr := grown 0 (by omega) (Value.ownBlock (.slice none 0 0))
        simp only [Nat.zero_add, List.nil_append, Array.empty_append] at hgr ⊢
        exact ⟨_, _, _, hr, hgr.1, hgr.2, by simp [addrBlocks]⟩
    · obtain ⟨rfl, rfl⟩ : a = some ⟨g, 0, none⟩ ∧ cap = cap' := by simpa using hv
      by_cases hroom : n + m ≤ cap
      · have hfit : n * i.size + news.length ≤ cur.size := by rw [hl, hcs, ← Nat.add_mul]; exact Nat.mul_le_mul_right _ hroom
        have hr := run_append_room (P := P) w t ty e i ht hi g n cap cur hg ad m c news hl hnews' h1 hroom hfit
        refine ⟨_, _, _, hr, ⟨hlen, .inr ⟨g, cap, _, rfl, hbg, setRow_heap w g cur _ e _ hg, hroom, hcm, ?_, ?_⟩⟩, ⟨rfl, rfl, rfl, by simp, fun k _ hk => setRow_other w g k _ (fun e => hk (by simp [Value.ownBlock, e]))⟩, fun b hb => .inl hb⟩
        · simp only [List.size_toArray, List.length_append, List.length_take, List.length_drop, Array.length_toList]
          omega
        · rw [htake, ← hlen]
          exact List.take_left
      · have holds : ∀ j u, xs[j]? = some u → w.cell? ((⟨g, 0, none⟩ : Addr).add j) = some u := hown.cells (g := g) rfl
        have hr := run_append_grow (P := P) w t ty e i z ht hi hz ⟨g, 0, none⟩ n cap xs hown.1 holds ad m c news hl hnews' (by omega) (by omega) (growslice_fits (by omega) hbytes)
        have hgr := grown cap (by omega) (Value.ownBlock (.slice (some ⟨g, 0, none⟩) n cap))
        exact ⟨_, _, _, hr, hgr.1, hgr.2, by simp [addrBlocks]⟩
end

theorem addrBlocks_own {a : Option Addr} {n cap : Nat} {k : Nat} : Value.ownBlock (.slice a n cap) = some k ↔ k ∈ addrBlocks a := by
  cases a with
  | none => simp [Value.ownBlock, addrBlocks]
  | some ad => simp [Value.ownBlock, addrBlocks, eq_comm]

/-- append, the walk's law: a row of one's own grows by what lies in another slice. -/
theorem wpList_row {P : Program} (w : World) {ops : Array Oper} {rest : List Oper} {o : Oper} {act : Act} {Q : Exit → Act → World → Prop} (hgd : o.guard = none) (s x : Operand) (t : TypeId)
    (ho : o.op = .call { callee := .builtin .append, args := #[s, x], argTypes := #[t, t] })
    (e : TypeId) (z : Value) (size bytes : Nat) (ht : P.underlying t = some (.slice e)) (hinfo : (P.info? e).map (fun i => (i.zero, i.size, i.bytes)) = some (some z, size, bytes))
    (hzs : z.cells.size = size) (hsz : 0 < size)
    (base : Nat) (a : Option Addr) (n cap : Nat) (xs : List Value) (hs : act.eval s = .slice a n cap) (hown : w.ownsRow base e size (.slice a n cap) n xs)
    (ao : Option Addr) (m c : Nat) (news : List Value) (hx : act.eval x = .slice ao m c) (hl : news.length = m * size) (hno : ao = none → m = 0 ∧ c = 0)
    (hnews : ∀ ad, ao = some ad → ∀ (j : Nat) u, news[j]? = some u → w.cell? (ad.add j) = some u) (h1 : ∀ u ∈ news, u.oneCell' = true)
    (h63 : n + m ≤ maxLen) (hbytes : (n + m) * bytes ≤ 140737488355328) (hbase : base ≤ w.heap.size)
    (h : ∀ a' cap' w', w'.ownsRow base e size (.slice a' (n + m) cap') (n + m) (xs ++ news) → w.grownBy w' (Value.ownBlock (.slice a n cap)) → (∀ b ∈ addrBlocks a', b ∈ addrBlocks a ∨ w.heap.size ≤ b) →
      wpList P ops Q rest (act.put o.dst (.slice a' (n + m) cap')) w') : wpList P ops Q (o :: rest) act w := by
  obtain ⟨i, hi, hz, hsize, hby⟩ := info_parts hinfo
  refine wpList_plain hgd fun _ hK => ?_
  obtain ⟨a', cap', w', hr, h2, h3, h4⟩ := run_append_row (P := P) w base t o.type e i z size bytes ht hi hz hsize hby hzs hsz a n cap xs hown ao m c news hl hno hnews h1 h63 hbytes hbase
  unfold Oper.wp execOp
  simp only [ho, resolve, invoke, builtin, Sem.run_bind, Sem.run_pure, Result.andThen_ok, List.map_toArray, List.map_cons, List.map_nil, hs, hx, hr]
  exact hK _ _ (h a' cap' w' h2 h3 h4)

/-- One's own row, grown by elements of one's own that lie elsewhere. -/
theorem M.Mine.push {w w' : World} {lo : Nat} {a a' : Option Addr} {cap cap' sz : Nat} {e : TypeId} {xs ys : List M} (h : (M.sl a cap sz e xs).Mine w lo)
    (hr : w'.ownsRow lo e sz (.slice a' (xs.length + ys.length) cap') (xs.length + ys.length) (M.cellsL xs ++ M.cellsL ys))
    (hg : w.grownBy w' (Value.ownBlock (.slice a xs.length cap))) (ha : ∀ b ∈ addrBlocks a', b ∈ addrBlocks a ∨ w.heap.size ≤ b)
    (hy : M.MineL w lo ys) (hyl : ∀ y ∈ ys, y.cells.length = sz) (hdisj : ∀ b ∈ M.blocksL ys, b ∉ addrBlocks a ∧ b ∉ M.blocksL xs) : (M.sl a' cap' sz e (xs ++ ys)).Mine w' lo := by
  obtain ⟨⟨⟨hrow, hs, hu⟩, hx⟩, hd⟩ := h
  simp only [M.blocks] at hd
  rw [List.nodup_append] at hd
  obtain ⟨hd1, hd2, hd3⟩ := hd
  have keep : ∀ b, b < w.heap.size → b ∉ addrBlocks a → w'.heap[b]? = w.heap[b]? := fun b hb hn => hg.block b hb fun he => hn (addrBlocks_own.1 he.symm)
  have hxlt := M.OwnL.lt xs hx
  have hylt := M.OwnL.lt ys hy.own
  have hnx : ∀ b ∈ M.blocksL xs, b ∉ addrBlocks a := fun b hb hn => hd3 b hn b hb rfl
  refine ⟨⟨⟨?_, hs, ?_⟩, ?_⟩, ?_⟩
  · rw [M.cellsL_append, List.length_append]; exact hr
  · intro x hx
    rcases List.mem_append.1 hx with hx | hx
    · exact hu x hx
    · exact hyl x hx
  · rw [M.OwnL_append]
    exact ⟨M.OwnL.frame xs hx fun b hb => keep b (hxlt b hb).2 (hnx b hb), M.OwnL.frame ys hy.own fun b hb => keep b (hylt b hb).2 (hdisj b hb).1⟩
  · simp only [M.blocks, M.blocksL_append]
    rw [List.nodup_append]
    refine ⟨?_, ?_, ?_⟩
    · cases a' with
      | none => simp [addrBlocks]
      | some ad => simp [addrBlocks]
    · rw [List.nodup_append]
      exact ⟨hd2, hy.dup, fun b hb b' hb' he => (hdisj b' hb').2 (he ▸ hb)⟩
    · intro b hb b' hb' he
      subst he
      rcases List.mem_append.1 hb' with hb' | hb'
      · rcases ha b hb with h | h
        · exact hnx b hb' h
        · have := (hxlt b hb').2; omega
      · rcases ha b hb with h | h
        · exact (hdisj b hb').1 h
        · have := (hylt b hb').2; omega

theorem grownBy_below {w w' : World} {lo n cap : Nat} {a : Option Addr} {B : Nat} (hg : w.grownBy w' (Value.ownBlock (.slice a n cap))) (hB : B ≤ w.heap.size) (ha : ∀ b ∈ addrBlocks a, B ≤ b) : Below B w w' :=
  ⟨hg.os, hg.tape, hg.output, hg.size, fun k hk => hg.block k (by omega) fun he => by have := ha k (addrBlocks_own.1 he.symm); omega⟩

theorem Mine.addr_lo {w : World} {lo cap sz : Nat} {a : Option Addr} {e : TypeId} {xs : List M} (h : (M.sl a cap sz e xs).Mine w lo) : ∀ b ∈ addrBlocks a, lo ≤ b ∧ b < w.heap.size :=
  fun b hb => h.lt b (by simp [M.blocks, hb])


/-- Behind a call: what lay there before it reads as it did (two rules for the walk). -/
theorem bcell {W w1 : World} (hb : Below W.heap.size W w1) : (∀ b o, b < W.heap.size → w1.cell? ⟨b, o, none⟩ = W.cell? ⟨b, o, none⟩) ∧ (∀ b o, b < W.heap.size → w1.frozen? ⟨b, o, none⟩ = W.frozen? ⟨b, o, none⟩) :=
  ⟨fun b o h => hb.cell (p := ⟨b, o, none⟩) h, fun b o h => hb.frozen (p := ⟨b, o, none⟩) h⟩

theorem M.In.len {w : World} {a : Option Addr} {cap sz : Nat} {e : TypeId} {xs : List M} (h : (M.sl a cap sz e xs).In w) : xs.length ≤ cap ∧ cap ≤ 9223372036854775807 := by
  have h1 := h.1.1.le; have h2 := h.1.1.max; unfold maxLen at h2; omega


/-- What a cell holds that has just been written, if it is one. -/
@[go_sem] theorem cell?_setCell_eq (w : World) (a : Addr) (v : Value) : (w.setCell a v).cell? a = (w.cell? a).map fun _ => v := by
  cases h : w.cell? a with
  | some u => exact World.cell?_setCell_same w a v h
  | none =>
    simp only [Option.map_none]
    unfold World.cell? at h ⊢
    simp only [World.setCell, Array.getElem?_modify, ↓reduceIte]
    cases hb : w.heap[a.block]? with
    | none => simp
    | some o =>
      cases o <;> simp
      rename_i c e f
      simp only [hb] at h
      cases hs : a.spot with
      | some s => simp
      | none =>
        simp [hs] at h ⊢
        omega

theorem M.Mine.keep {w w' : World} {lo : Nat} {m : M} (h : m.Mine w lo) (hw : ∀ b, lo ≤ b → b < w.heap.size → w'.heap[b]? = w.heap[b]?) : m.Mine w' lo :=
  ⟨M.Own.frame m h.own fun b hb => hw b (h.lt b hb).1 (h.lt b hb).2, h.dup⟩
theorem heapSet (w : World) (a : Addr) (u : Value) (k : Nat) (h : k ≠ a.block) : (w.setCell a u).heap[k]? = w.heap[k]? := Below.heap_setCell w a u k h
theorem heapNew (w : World) (o : Obj) (k : Nat) (h : k < w.heap.size) : (w.alloc o).heap[k]? = w.heap[k]? := Below.heap_alloc w o k h
theorem heapDrew (w : World) (k : Nat) : w.drew.heap[k]? = w.heap[k]? := rfl

theorem M.Mine.c {w : World} {lo : Nat} {v : Value} (h : v.oneCell' = true) : (M.c v).Mine w lo := ⟨h, by simp [M.blocks]⟩

/-- 'out = append(out, x)': the row that a call builds, its world at the round's head 'wr'; x has been made since, and lies in a block of its own. -/
theorem wpList_push {P : Program} {wr w1 : World} {ops : Array Oper} {rest : List Oper} {o : Oper} {act : Act} {Q : Exit → Act → World → Prop} (hgd : o.guard = none) (s x : Operand) (t : TypeId)
    (ho : o.op = .call { callee := .builtin .append, args := #[s, x], argTypes := #[t, t] })
    (e : TypeId) (z : Value) (size bytes : Nat) (ht : P.underlying t = some (.slice e)) (hinfo : (P.info? e).map (fun i => (i.zero, i.size, i.bytes)) = some (some z, size, bytes))
    (hzs : z.cells.size = size) (hsz : 0 < size)
    (lo : Nat) (a : Option Addr) (cap : Nat) (xs : List M) (hs : act.eval s = .slice a xs.length cap) (hrow : (M.sl a cap size e xs).Mine wr lo) (hlo : lo ≤ wr.heap.size) (hb : Below wr.heap.size wr w1)
    (cs : Array Value) (m : M) (hmc : m.cells = cs.toList) (hml : cs.size = size) (c : Nat) (hm : m.Mine w1 c) (hc : wr.heap.size ≤ c)
    (hx : act.eval x = .slice (some ⟨w1.heap.size, 0, none⟩) 1 1) (h63 : xs.length + 1 ≤ maxLen) (hbytes : (xs.length + 1) * bytes ≤ 140737488355328)
    (h : ∀ a' cap' w', (M.sl a' cap' size e (xs ++ [m])).Mine w' lo → Below lo w1 w' → w1.heap.size ≤ w'.heap.size → (∀ b, b < w1.heap.size → b ∉ addrBlocks a → w'.heap[b]? = w1.heap[b]?) →
      wpList P ops Q rest (act.put o.dst (.slice a' (xs.length + 1) cap')) w') : wpList P ops Q (o :: rest) act (w1.alloc (.cells cs e)) := by
  have hsz1 := hb.size
  have hrw : (M.sl a cap size e xs).Mine (w1.alloc (.cells cs e)) lo := by
    refine M.Mine.keep hrow fun b h1 h2 => ?_
    rw [heapNew _ _ _ (by omega), hb.block b h2]
  have hmw : m.Mine (w1.alloc (.cells cs e)) lo := by
    refine M.Mine.mono (M.Mine.keep hm fun b h1 h2 => ?_) (by omega)
    rw [heapNew _ _ _ h2]
  have hlen : m.cells.length = size := by rw [hmc]; simpa using hml
  refine wpList_row _ hgd s x t ho e z size bytes ht hinfo hzs hsz lo a xs.length cap (M.cellsL xs) hs hrw.own.1.1 _ 1 1 m.cells hx (by omega) (by simp) ?_ ?_ h63 hbytes (by simp; omega) ?_
  · intro ad had j u hu
    obtain rfl := Option.some.inj had
    rw [addr_add, Nat.zero_add, World.cell?_alloc_new]
    rw [hmc] at hu
    simpa using hu
  · exact M.Own.one m hmw.own
  · intro a' cap' w' hr hg ha
    have hY : M.MineL (w1.alloc (.cells cs e)) lo [m] := ⟨⟨hmw.own, trivial⟩, by simpa [M.blocksL] using hmw.dup⟩
    have hp := M.Mine.push (ys := [m]) hrw (by simpa [M.cellsL] using hr) hg ha hY (by simpa using hlen) (fun b hb' => by
      have h1 := hm.lt b (by simpa [M.blocksL] using hb')
      have h2 : ∀ b' ∈ (M.sl a cap size e xs).blocks, b' < wr.heap.size := fun b' hb' => (hrow.lt b' hb').2
      exact ⟨fun hn => by have := h2 b (by simp [M.blocks, hn]); omega, fun hn => by have := h2 b (by simp [M.blocks, hn]); omega⟩)
    have hkeep : ∀ b, b < w1.heap.size → b ∉ addrBlocks a → w'.heap[b]? = w1.heap[b]? := fun b hb1 hn => by
      rw [hg.block b (by simp; omega) (fun he => hn (addrBlocks_own.1 he.symm)), heapNew _ _ _ hb1]
    have hgs := hg.size
    simp only [World.size_alloc] at hgs
    refine h a' cap' w' hp ⟨hg.os, hg.tape, hg.output, by omega, fun k hk => hkeep k (by omega) fun hn => ?_⟩ (by omega) hkeep
    have := (Mine.addr_lo hrow k hn).1
    omega

theorem belowDrewN {B : Nat} {a w : World} (h : Below B a w) (n : Nat) : Below B a (w.drewN n) := ⟨h.os, h.tape, h.output, h.size, h.block⟩
theorem _root_.Go.RowKit.Below.step {a b c : World} (h : Below a.heap.size a b) (k : Below b.heap.size b c) : Below a.heap.size a c := h.trans (k.mono h.size)
theorem heapDrewN (w : World) (n k : Nat) : (w.drewN n).heap[k]? = w.heap[k]? := rfl
theorem sizeDrewN (w : World) (n : Nat) : (w.drewN n).heap.size = w.heap.size := rfl
attribute [simp] sizeDrewN
theorem take_snoc {α : Type} {l : List α} {k : Nat} {x : α} (h : l[k]? = some x) : l.take (k + 1) = l.take k ++ [x] := by
  obtain ⟨hk, rfl⟩ := List.getElem?_eq_some_iff.1 h
  exact List.take_succ_eq_append_getElem hk

/-! ### Stores into a row of one's own -/
def setCells (w : World) (g : Nat) : Nat → List Value → World
  | _, [] => w
  | o, u :: us => setCells (w.setCell ⟨g, o, none⟩ u) g (o + 1) us

theorem setCells_size (g : Nat) : ∀ (us : List Value) (w : World) (o : Nat), (setCells w g o us).heap.size = w.heap.size
  | [], _, _ => rfl
  | u :: us, w, o => by rw [setCells, setCells_size g us]; simp
theorem setCells_other (g k : Nat) (hk : k ≠ g) : ∀ (us : List Value) (w : World) (o : Nat), (setCells w g o us).heap[k]? = w.heap[k]?
  | [], _, _ => rfl
  | u :: us, w, o => by rw [setCells, setCells_other g k hk us, heapSet _ _ _ _ hk]
theorem setCells_rest (g : Nat) : ∀ (us : List Value) (w : World) (o : Nat), (setCells w g o us).os = w.os ∧ (setCells w g o us).tape = w.tape ∧ (setCells w g o us).output = w.output
  | [], _, _ => ⟨rfl, rfl, rfl⟩
  | u :: us, w, o => by rw [setCells]; exact setCells_rest g us _ _
theorem setCells_heap (g : Nat) (e : TypeId) : ∀ (us : List Value) (w : World) (o : Nat) (cur : Array Value), w.heap[g]? = some (.cells cur e (0, 0)) → o + us.length ≤ cur.size →
    (setCells w g o us).heap[g]? = some (.cells (cur.toList.take o ++ us ++ cur.toList.drop (o + us.length)).toArray e (0, 0))
  | [], w, o, cur, hg, _ => by simp [setCells, hg]
  | u :: us, w, o, cur, hg, hl => by
    rw [setCells, setCells_heap g e us _ _ _ (heap_setCell_same w g o cur e u hg) (by simp at hl ⊢; omega)]
    congr 2
    simp only [List.length_cons] at hl
    apply Array.ext'
    simp only [Array.toList_setIfInBounds]
    have ho : o < cur.toList.length := by simp; omega
    rw [List.take_set, List.drop_set]
    rw [if_pos (by omega)]
    have h1 : (cur.toList.take (o + 1)).set o u = cur.toList.take o ++ [u] := by
      rw [List.take_succ_eq_append_getElem ho, List.set_append, List.length_take, Nat.min_eq_left (by omega), if_neg (by omega)]
      simp
    rw [h1, List.length_cons, show o + (us.length + 1) = o + 1 + us.length by omega]
    simp

theorem cellsL_set {sz : Nat} : ∀ (xs : List M) (k : Nat) (m : M), (∀ x ∈ xs, x.cells.length = sz) → k < xs.length → m.cells.length = sz →
    M.cellsL (xs.set k m) = (M.cellsL xs).take (k * sz) ++ m.cells ++ (M.cellsL xs).drop (k * sz + sz)
  | [], k, m, _, hk, _ => by simp at hk
  | x :: r, 0, m, hu, _, hm => by
    have hx := hu x (List.mem_cons_self ..)
    simp [M.cellsL, List.drop_append, hx]
  | x :: r, k + 1, m, hu, hk, hm => by
    have hx := hu x (List.mem_cons_self ..)
    have ih := cellsL_set r k m (fun y hy => hu y (List.mem_cons_of_mem _ hy)) (by simpa using hk) hm
    simp only [List.set_cons_succ, M.cellsL, ih]
    rw [List.take_append, List.drop_append, hx]
    rw [show (k + 1) * sz - sz = k * sz by rw [Nat.succ_mul]; omega, show (k + 1) * sz + sz - sz = k * sz + sz by rw [Nat.succ_mul]; omega]
    rw [List.take_of_length_le (l := x.cells) (by rw [hx, Nat.succ_mul]; omega), List.drop_of_length_le (l := x.cells) (by rw [hx, Nat.succ_mul]; omega)]
    simp

theorem mem_blocksL {b : Nat} {xs : List M} : b ∈ M.blocksL xs ↔ ∃ x ∈ xs, b ∈ x.blocks := by
  induction xs with
  | nil => simp [M.blocksL]
  | cons x r ih => simp [M.blocksL, ih]
theorem OwnL_iff {w : World} {lo : Nat} {xs : List M} : M.OwnL w lo xs ↔ ∀ x ∈ xs, x.Own w lo := by
  induction xs with
  | nil => simp [M.OwnL]
  | cons x r ih => simp [M.OwnL, ih]
theorem blocksL_nodup_set : ∀ (xs : List M) (k : Nat) (m : M), (M.blocksL xs).Nodup → m.blocks.Nodup → (∀ b ∈ m.blocks, (∀ h : k < xs.length, b ∈ (xs[k]).blocks) ∨ b ∉ M.blocksL xs) → (M.blocksL (xs.set k m)).Nodup
  | [], _, _, h, _, _ => by simpa using h
  | x :: r, 0, m, h, hm, hd => by
    simp only [M.blocksL, List.set_cons_zero] at h ⊢
    rw [List.nodup_append] at h ⊢
    refine ⟨hm, h.2.1, fun b hb b' hb' he => ?_⟩
    subst he
    rcases hd b hb with h1 | h1
    · exact h.2.2 b (h1 (by simp)) b hb' rfl
    · exact h1 (by simp [M.blocksL, hb'])
  | x :: r, k + 1, m, h, hm, hd => by
    simp only [M.blocksL, List.set_cons_succ] at h ⊢
    rw [List.nodup_append] at h ⊢
    refine ⟨h.1, blocksL_nodup_set r k m h.2.1 hm fun b hb => ?_, fun b hb b' hb' he => ?_⟩
    · rcases hd b hb with h1 | h1
      · exact .inl fun hk => by have := h1 (by simpa using hk); rwa [List.getElem_cons_succ] at this
      · exact .inr fun hn => h1 (by simp [M.blocksL, hn])
    · subst he
      obtain ⟨y, hy, hby⟩ := mem_blocksL.1 hb'
      rcases List.mem_or_eq_of_mem_set hy with hy | rfl
      · exact h.2.2 b hb b (mem_blocksL.2 ⟨y, hy, hby⟩) rfl
      · rcases hd b hby with h1 | h1
        · by_cases hk : k < r.length
          · have := h1 (by simpa using hk)
            simp only [List.getElem_cons_succ] at this
            exact h.2.2 b hb b (mem_blocksL.2 ⟨_, List.getElem_mem hk, this⟩) rfl
          · rw [List.set_eq_of_length_le (by omega)] at hy
            exact h.2.2 b hb b (mem_blocksL.2 ⟨_, hy, hby⟩) rfl
        · exact h1 (by simp [M.blocksL, hb])

/-- Element k of a row of one's own is written anew, cell by cell. -/
theorem M.Mine.setElem {w : World} {lo g cap sz : Nat} {e : TypeId} {xs : List M} (h : (M.sl (some ⟨g, 0, none⟩) cap sz e xs).Mine w lo) (k : Nat) (hk : k < xs.length) (m : M) (hmc : m.cells.length = sz) (hm : m.Mine w lo)
    (hdis : ∀ b ∈ m.blocks, b ≠ g ∧ (b ∈ (xs[k]).blocks ∨ b ∉ M.blocksL xs)) : (M.sl (some ⟨g, 0, none⟩) cap sz e (xs.set k m)).Mine (setCells w g (k * sz) m.cells) lo := by
  obtain ⟨⟨⟨hrow, hs, hu⟩, hx⟩, hd⟩ := h
  simp only [M.blocks] at hd
  rw [List.nodup_append] at hd
  obtain ⟨hd1, hd2, hd3⟩ := hd
  have hng : ∀ b ∈ M.blocksL xs, b ≠ g := fun b hb he => hd3 g (by simp [addrBlocks]) b hb he.symm
  have hlen := M.cellsL_length hu
  have hlen2 : (xs.set k m).length = xs.length := by simp
  have hu2 : ∀ x ∈ xs.set k m, x.cells.length = sz := fun x hx => by
    rcases List.mem_or_eq_of_mem_set hx with hx | rfl
    · exact hu x hx
    · exact hmc
  have hkb : k * sz + sz ≤ xs.length * sz := by rw [← Nat.succ_mul]; exact Nat.mul_le_mul_right _ hk
  refine ⟨⟨⟨?_, hs, hu2⟩, ?_⟩, ?_⟩
  · refine ⟨by rw [M.cellsL_length hu2], ?_⟩
    rcases hrow.2 with ⟨hv, _⟩ | ⟨g', cap', cur, hv, hb, hg, h1, h2, h3, h4⟩
    · simp at hv
    · simp only [Value.slice.injEq, Option.some.injEq, Addr.mk.injEq, true_and, and_true] at hv
      obtain ⟨rfl, rfl⟩ := hv
      have hcur : xs.length * sz ≤ cur.size := by rw [h3]; exact Nat.mul_le_mul_right _ h1
      have hh := setCells_heap g e m.cells w (k * sz) cur hg (by rw [hmc]; omega)
      rw [hlen2]
      refine .inr ⟨g, cap, _, rfl, hb, hh, h1, h2, ?_, ?_⟩
      · simp only [List.size_toArray, List.length_append, List.length_take, List.length_drop, Array.length_toList, hmc]; omega
      · rw [cellsL_set xs k m hu hk hmc, ← h4, hmc]
        simp only []
        have hA : k * sz ≤ xs.length * sz := by omega
        rw [List.take_take, Nat.min_eq_left hA, List.append_assoc, List.append_assoc]
        rw [List.take_append, List.length_take, List.take_take, Nat.min_eq_right hA]
        rw [Nat.min_eq_left (by simp; omega)]
        congr 1
        rw [List.take_append, hmc, List.take_of_length_le (by rw [hmc]; omega)]
        congr 1
        rw [List.drop_take]
        congr 1
        omega
  · rw [OwnL_iff] at hx ⊢
    intro x hx2
    rcases List.mem_or_eq_of_mem_set hx2 with h1 | rfl
    · exact M.Own.frame x (hx x h1) fun b hb => setCells_other g b (hng b (mem_blocksL.2 ⟨x, h1, hb⟩)) _ _ _
    · exact M.Own.frame x hm.own fun b hb => setCells_other g b (hdis b hb).1 _ _ _
  · simp only [M.blocks]
    rw [List.nodup_append]
    refine ⟨by simp [addrBlocks], blocksL_nodup_set xs k m hd2 hm.dup fun b hb => ?_, fun b hb b' hb' he => ?_⟩
    · rcases (hdis b hb).2 with h1 | h1
      · exact .inl fun _ => h1
      · exact .inr h1
    · simp [addrBlocks] at hb
      subst hb
      obtain ⟨y, hy, hby⟩ := mem_blocksL.1 hb'
      rcases List.mem_or_eq_of_mem_set hy with h1 | rfl
      · exact hng b' (mem_blocksL.2 ⟨y, h1, hby⟩) he.symm
      · exact (hdis b' hby).1 he.symm

theorem madeCells_rows (z : Array Value) (n : Nat) : (madeCells z (n * z.size)).toList = (List.replicate n z.toList).flatten := by
  unfold madeCells
  rw [Array.toList_map, Array.toList_range]
  induction n with
  | zero => simp
  | succ n ih =>
    rw [Nat.succ_mul, List.range_add, List.map_append, ih, List.replicate_succ', List.flatten_append]
    congr 1
    simp only [List.map_map, List.flatten_cons, List.flatten_nil, List.append_nil]
    apply List.ext_getElem
    · simp
    · intro i h1 h2
      have hi : i < z.size := by simpa using h2
      simp only [List.getElem_map, List.getElem_range, Function.comp_apply]
      rw [Nat.mul_add_mod_self_right, Nat.mod_eq_of_lt hi]
      simp [hi]
theorem cellsL_replicate (m : M) (n : Nat) : M.cellsL (List.replicate n m) = (List.replicate n m.cells).flatten := by
  induction n with
  | zero => rfl
  | succ n ih => simp [List.replicate_succ, M.cellsL, ih]
theorem blocksL_replicate (m : M) (n : Nat) (h : m.blocks = []) : M.blocksL (List.replicate n m) = [] := by
  induction n with
  | zero => rfl
  | succ n ih => simp [List.replicate_succ, M.blocksL, h, ih]
theorem set_take {α : Type} {l : List α} {k n : Nat} {x z : α} (hx : l[k]? = some x) (hn : n = l.length) : (l.take k ++ List.replicate (n - k) z).set k x = l.take (k + 1) ++ List.replicate (n - (k + 1)) z := by
  have hk := (List.getElem?_eq_some_iff.1 hx).1
  subst hn
  rw [List.set_append, List.length_take, Nat.min_eq_left (by omega), if_neg (by omega), Nat.sub_self]
  rw [show l.length - k = (l.length - (k + 1)) + 1 by omega, List.replicate_succ, List.set_cons_zero, take_snoc hx]
  simp
/-- A new row of n zero elements. -/
theorem M.Mine.made {w : World} {lo g n sz : Nat} {e : TypeId} {z : Array Value} (m : M) (hmz : m.cells = z.toList) (hsz : z.size = sz) (hp : 0 < sz) (hb : m.blocks = []) (hm : ∀ w' lo', m.Own w' lo')
    (hr : w.ownsRow lo e sz (.slice (some ⟨g, 0, none⟩) n n) n (madeCells z (n * sz)).toList) : (M.sl (some ⟨g, 0, none⟩) n sz e (List.replicate n m)).Mine w lo := by
  subst hsz
  rw [madeCells_rows, ← hmz, ← cellsL_replicate] at hr
  refine ⟨⟨⟨by simpa using hr, hp, ?_⟩, ?_⟩, ?_⟩
  · intro x hx; rw [List.eq_of_mem_replicate hx, hmz]; simp
  · rw [OwnL_iff]; intro x hx; rw [List.eq_of_mem_replicate hx]; exact hm _ _
  · simp [M.blocks, blocksL_replicate m n hb, addrBlocks]

/-- Of what was there only the blocks bs may have changed. -/
structure Only (bs : List Nat) (w w' : World) : Prop where
  os : w'.os = w.os
  tape : w'.tape = w.tape
  output : w'.output = w.output
  size : w.heap.size ≤ w'.heap.size
  block : ∀ k, k < w.heap.size → k ∉ bs → w'.heap[k]? = w.heap[k]?
theorem Only.refl (bs : List Nat) (w : World) : Only bs w w := ⟨rfl, rfl, rfl, Nat.le_refl _, fun _ _ _ => rfl⟩
theorem Only.trans {bs : List Nat} {a b c : World} (h : Only bs a b) (k : Only bs b c) : Only bs a c :=
  ⟨k.os.trans h.os, k.tape.trans h.tape, k.output.trans h.output, Nat.le_trans h.size k.size, fun i hi hn => (k.block i (Nat.lt_of_lt_of_le hi h.size) hn).trans (h.block i hi hn)⟩
theorem Only.of_below {bs : List Nat} {a b : World} (h : Below a.heap.size a b) : Only bs a b := ⟨h.os, h.tape, h.output, h.size, fun k hk _ => h.block k hk⟩
theorem Only.mono {bs cs : List Nat} {a b : World} (h : Only bs a b) (hs : ∀ x ∈ bs, x ∈ cs) : Only cs a b := ⟨h.os, h.tape, h.output, h.size, fun k hk hn => h.block k hk fun hb => hn (hs k hb)⟩
theorem Only.below {bs : List Nat} {a b : World} {B : Nat} (h : Only bs a b) (hB : B ≤ a.heap.size) (hs : ∀ x ∈ bs, B ≤ x) : Below B a b :=
  ⟨h.os, h.tape, h.output, h.size, fun k hk => h.block k (by omega) fun hb => by have := hs k hb; omega⟩
theorem Only.setCell {bs : List Nat} {a w : World} (h : Only bs a w) {p : Addr} (hp : p.block ∈ bs) (u : Value) : Only bs a (w.setCell p u) :=
  h.trans ⟨rfl, rfl, rfl, by simp, fun k _ hn => heapSet _ _ _ _ (fun e => hn (e ▸ hp))⟩
theorem Only.alloc {bs : List Nat} {a w : World} (h : Only bs a w) (o : Obj) : Only bs a (w.alloc o) := h.trans ⟨rfl, rfl, rfl, by simp, fun k hk _ => heapNew _ _ _ hk⟩
theorem Only.drewN {bs : List Nat} {a w : World} (h : Only bs a w) (n : Nat) : Only bs a (w.drewN n) := h.trans ⟨rfl, rfl, rfl, Nat.le_refl _, fun k hk _ => rfl⟩
theorem M.Mine.only {bs : List Nat} {w w' : World} {lo : Nat} {m : M} (h : m.Mine w lo) (k : Only bs w w') (hd : ∀ b ∈ m.blocks, b ∉ bs) : m.Mine w' lo :=
  ⟨M.Own.frame m h.own fun b hb => k.block b (h.lt b hb).2 (hd b hb), h.dup⟩

theorem M.Mine.new {w : World} {lo sz n : Nat} {e : TypeId} {cs : Array Value} {xs : List M} (hn : n = xs.length) (hlo : lo ≤ w.heap.size) (hc : M.cellsL xs = cs.toList) (hp : 0 < sz) (hu : ∀ x ∈ xs, x.cells.length = sz) (hm : n ≤ maxLen) (h : M.MineL w lo xs) :
    (M.sl (some ⟨w.heap.size, 0, none⟩) n sz e xs).Mine (w.alloc (.cells cs e)) lo := by
  subst hn
  have hlen := M.cellsL_length hu
  have hlt := M.OwnL.lt xs h.own
  refine ⟨⟨⟨⟨hlen, .inr ⟨w.heap.size, xs.length, cs, rfl, hlo, heap_alloc_new w _, Nat.le_refl _, hm, ?_, ?_⟩⟩, hp, hu⟩, ?_⟩, ?_⟩
  · rw [← hlen, hc]; simp
  · rw [← hlen, hc]; exact List.take_of_length_le (by simp)
  · exact M.OwnL.frame xs h.own fun b hb => heapNew _ _ _ (hlt b hb).2
  · simp only [M.blocks, addrBlocks]
    rw [List.nodup_append]
    exact ⟨by simp, h.dup, fun b hb b' hb' he => by simp at hb; subst hb; subst he; have := (hlt _ hb').2; omega⟩

theorem M.Mine.only_lt {bs : List Nat} {w w' : World} {lo : Nat} {m : M} (h : m.Mine w lo) (k : Only bs w w') (c : Nat) (h1 : ∀ b ∈ m.blocks, b < c) (h2 : ∀ b ∈ bs, c ≤ b) : m.Mine w' lo :=
  h.only k fun b hb hn => by have := h1 b hb; have := h2 b hn; omega
theorem M.Mine.lt_size {w : World} {lo : Nat} {m : M} (h : m.Mine w lo) : ∀ b ∈ m.blocks, b < w.heap.size := fun b hb => (h.lt b hb).2
theorem Only.lift {w w' : World} {lo cap sz B : Nat} {a : Option Addr} {e : TypeId} {xs : List M} (h : Only (addrBlocks a) w w') (hm : (M.sl a cap sz e xs).Mine w lo) (hB : B ≤ lo) (hw : B ≤ w.heap.size) : Below B w w' :=
  h.below hw fun b hb => by have := (Mine.addr_lo hm b hb).1; omega

theorem M.Mine.row {w : World} {lo g cap sz : Nat} {e : TypeId} {xs : List M} (h : (M.sl (some ⟨g, 0, none⟩) cap sz e xs).Mine w lo) (j : Nat) (hj : j < xs.length * sz) :
    (∃ u, w.cell? ⟨g, j, none⟩ = some u) ∧ w.frozen? ⟨g, j, none⟩ = false := by
  obtain ⟨⟨⟨hrow, hs, hu⟩, hx⟩, hd⟩ := h
  rcases hrow.2 with ⟨hv, _⟩ | ⟨g', cap', cur, hv, hb, hg, h1, h2, h3, h4⟩
  · simp at hv
  · simp only [Value.slice.injEq, Option.some.injEq, Addr.mk.injEq, true_and, and_true] at hv
    obtain ⟨rfl, rfl⟩ := hv
    have hcur : xs.length * sz ≤ cur.size := by rw [h3]; exact Nat.mul_le_mul_right _ h1
    exact ⟨⟨cur[j]'(by omega), by rw [cell_of_row w g j cur e _ hg]; exact Array.getElem?_eq_getElem (by omega)⟩, frozen_of_row w g j cur e hg⟩
/-- The address of a row of one's own that has an element. -/
theorem M.Mine.addr {w : World} {lo cap sz : Nat} {a : Option Addr} {e : TypeId} {xs : List M} (h : (M.sl a cap sz e xs).Mine w lo) (hne : 0 < xs.length) : ∃ g, a = some ⟨g, 0, none⟩ ∧ lo ≤ g ∧ g < w.heap.size := by
  rcases h.own.1.1.2 with ⟨hv, hn⟩ | ⟨g', cap', cur, hv, hb, hg, _⟩
  · omega
  · simp only [Value.slice.injEq] at hv
    exact ⟨g', hv.1, hb, (Array.getElem?_eq_some_iff.1 hg).1⟩

end Go.Proofs.Ytigmgfinjapchaa
