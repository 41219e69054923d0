/-
  Single stores into elements of one's own rows; elements whose inner rows have changed. No condition.
-/
import Derived.Test.YtoflfamfhpijcaaAt
set_option linter.unusedVariables false
namespace Go.Proofs.Ytoflfamfhpijcaa
open Go.RowKit

theorem set_mid {α : Type} (A E B : List α) (j : Nat) (v : α) (hj : j < E.length) : (A ++ E ++ B).set (A.length + j) v = A ++ E.set j v ++ B := by
  rw [List.append_assoc, List.set_append, if_neg (by omega), show A.length + j - A.length = j by omega, List.set_append, if_pos hj, List.append_assoc]

/-- One cell of element k is written. -/
theorem M.Mine.setOne {w : World} {lo g cap sz : Nat} {e : TypeId} {xs : List M} (h : (M.sl (some ⟨g, 0, none⟩) cap sz e xs).Mine w lo) (k : Nat) (hk : k < xs.length) (j : Nat) (hj : j < sz) (m : M) (v : Value)
    (hmc : m.cells = (xs[k]).cells.set j v) (hm : m.Mine w lo) (hbl : m.blocks = (xs[k]).blocks) : (M.sl (some ⟨g, 0, none⟩) cap sz e (xs.set k m)).Mine (w.setCell ⟨g, k * sz + j, none⟩ v) lo := by
  have hd := h.dup
  simp only [M.blocks] at hd
  rw [List.nodup_append] at hd
  obtain ⟨hd1, hd2, hd3⟩ := hd
  have hng : ∀ b ∈ M.blocksL xs, b ≠ g := fun b hb he => hd3 g (by simp [addrBlocks]) b hb he.symm
  have hu := h.own.1.2.2
  have hxk := hu (xs[k]) (List.getElem_mem hk)
  have hset := h.setElem k hk m (by rw [hmc, List.length_set]; exact hxk) hm fun b hb => by
    rw [hbl] at hb
    exact ⟨hng b (mem_blocksL.2 ⟨_, List.getElem_mem hk, hb⟩), .inl hb⟩
  refine M.Mine.keep hset fun b _ _ => ?_
  by_cases hbg : b = g
  · subst hbg
    rcases h.own.1.1.2 with ⟨hv, _⟩ | ⟨g', cap', cur, hv, hb, hg, h1, h2, h3, h4⟩
    · simp at hv
    · simp only [Value.slice.injEq, Option.some.injEq, Addr.mk.injEq, true_and, and_true] at hv
      obtain ⟨rfl, rfl⟩ := hv
      have hkb : k * sz + sz ≤ xs.length * sz := by rw [← Nat.succ_mul]; exact Nat.mul_le_mul_right _ hk
      have hcur : xs.length * sz ≤ cur.size := by rw [h3]; exact Nat.mul_le_mul_right _ h1
      have hml : m.cells.length = sz := by rw [hmc, List.length_set]; exact hxk
      rw [setCells_heap b e m.cells w (k * sz) cur hg (by rw [hml]; omega), heap_setCell_same w b _ cur e v hg]
      congr 2
      apply Array.ext'
      simp only [Array.toList_setIfInBounds]
      rw [hml, hmc]
      have hx := cellsL_set xs k (xs[k]) hu hk hxk
      rw [List.set_getElem_self] at hx
      have hlen := M.cellsL_length hu
      have hcl : cur.toList = cur.toList.take (k * sz) ++ (xs[k]).cells ++ cur.toList.drop (k * sz + sz) := by
        have h5 : cur.toList = M.cellsL xs ++ cur.toList.drop (xs.length * sz) := by rw [← h4, List.take_append_drop]
        have h6 : cur.toList.take (k * sz) = (M.cellsL xs).take (k * sz) := by rw [← h4, List.take_take, Nat.min_eq_left (by omega)]
        have h7 : cur.toList.drop (k * sz + sz) = (M.cellsL xs).drop (k * sz + sz) ++ cur.toList.drop (xs.length * sz) := by
          conv => lhs; rw [h5]
          rw [List.drop_append, hlen, show k * sz + sz - xs.length * sz = 0 by omega, List.drop_zero]
        rw [h6, h7, ← List.append_assoc, ← hx]
        exact h5
      have hl0 : (cur.toList.take (k * sz)).length = k * sz := by simp; omega
      conv => lhs; rw [hcl]
      rw [show k * sz + j = (cur.toList.take (k * sz)).length + j by rw [hl0], set_mid _ _ _ _ _ (by rw [hxk]; exact hj)]
  · rw [heapSet _ _ _ _ hbg, setCells_other g b hbg]

theorem blocksL_split (xs : List M) (k : Nat) (hk : k < xs.length) : M.blocksL xs = M.blocksL (xs.take k) ++ ((xs[k]).blocks ++ M.blocksL (xs.drop (k + 1))) := by
  conv => lhs; rw [← List.take_append_drop k xs, List.drop_eq_getElem_cons hk]
  rw [M.blocksL_append]; rfl
theorem blocksL_set_same (xs : List M) (k : Nat) (m : M) (hk : k < xs.length) (h : m.blocks = (xs[k]).blocks) : M.blocksL (xs.set k m) = M.blocksL xs := by
  rw [blocksL_split xs k hk, List.set_eq_take_append_cons_drop, if_pos hk, M.blocksL_append, ← h]; rfl
theorem cellsL_set_same (xs : List M) (k : Nat) (m : M) (hk : k < xs.length) (h : m.cells = (xs[k]).cells) : M.cellsL (xs.set k m) = M.cellsL xs := by
  conv => rhs; rw [← List.take_append_drop k xs, List.drop_eq_getElem_cons hk]
  rw [List.set_eq_take_append_cons_drop, if_pos hk, M.cellsL_append, M.cellsL_append]
  simp only [M.cellsL, h]

theorem OwnL_setSub {w w' : World} {lo : Nat} {xs : List M} (hx : M.OwnL w lo xs) (hd2 : (M.blocksL xs).Nodup) (k : Nat) (hk : k < xs.length) (m : M) (hm : m.Own w' lo) {bs : List Nat} (ho : Only bs w w') (hbs : ∀ b ∈ bs, b ∈ (xs[k]).blocks) : M.OwnL w' lo (xs.set k m) := by
  have hxlt := M.OwnL.lt xs hx
  rw [blocksL_split xs k hk, List.nodup_append] at hd2
  obtain ⟨hp1, hp2, hp3⟩ := hd2
  rw [List.nodup_append] at hp2
  obtain ⟨hq1, hq2, hq3⟩ := hp2
  rw [List.set_eq_take_append_cons_drop, if_pos hk, M.OwnL_append]
  have hx' := hx
  rw [← List.take_append_drop k xs, List.drop_eq_getElem_cons hk, M.OwnL_append] at hx'
  obtain ⟨ha, _, hc⟩ := hx'
  refine ⟨M.OwnL.frame _ ha fun b hb => ?_, hm, M.OwnL.frame _ hc fun b hb => ?_⟩
  · exact ho.block b (hxlt b (by rw [blocksL_split xs k hk]; simp [hb])).2 fun hn => hp3 b hb b (by simp [hbs b hn]) rfl
  · exact ho.block b (hxlt b (by rw [blocksL_split xs k hk]; simp [hb])).2 fun hn => hq3 b (hbs b hn) b hb rfl

/-- The inner rows of element k have changed, its own cells have not. -/
theorem M.Mine.setSub {w w' : World} {lo g cap sz : Nat} {e : TypeId} {xs : List M} (h : (M.sl (some ⟨g, 0, none⟩) cap sz e xs).Mine w lo) (k : Nat) (hk : k < xs.length) (m : M)
    (hmc : m.cells = (xs[k]).cells) (hm : m.Mine w' lo) (hbl : m.blocks = (xs[k]).blocks) {bs : List Nat} (ho : Only bs w w') (hbs : ∀ b ∈ bs, b ∈ (xs[k]).blocks) :
    (M.sl (some ⟨g, 0, none⟩) cap sz e (xs.set k m)).Mine w' lo := by
  obtain ⟨⟨⟨hrow, hs, hu⟩, hx⟩, hd⟩ := h
  simp only [M.blocks] at hd
  have hd0 := hd
  rw [List.nodup_append] at hd
  obtain ⟨hd1, hd2, hd3⟩ := hd
  have hng : ∀ b ∈ M.blocksL xs, b ≠ g := fun b hb he => hd3 g (by simp [addrBlocks]) b hb he.symm
  have hmem : ∀ b ∈ (xs[k]).blocks, b ∈ M.blocksL xs := fun b hb => mem_blocksL.2 ⟨_, List.getElem_mem hk, hb⟩
  have hxlt := M.OwnL.lt xs hx
  rw [blocksL_split xs k hk, List.nodup_append] at hd2
  obtain ⟨hp1, hp2, hp3⟩ := hd2
  rw [List.nodup_append] at hp2
  obtain ⟨hq1, hq2, hq3⟩ := hp2
  refine ⟨⟨⟨?_, hs, ?_⟩, ?_⟩, ?_⟩
  · rw [cellsL_set_same xs k m hk hmc, List.length_set]
    refine ownsRow_frame hrow fun b hb => ?_
    simp [addrBlocks] at hb
    subst hb
    rcases hrow.2 with ⟨hv, _⟩ | ⟨g', cap', cur, hv, hb', hg, _⟩
    · simp at hv
    · simp only [Value.slice.injEq, Option.some.injEq, Addr.mk.injEq, true_and, and_true] at hv
      obtain ⟨rfl, rfl⟩ := hv
      exact ho.block _ (Array.getElem?_eq_some_iff.1 hg).1 fun hb => hng _ (hmem _ (hbs _ hb)) rfl
  · intro x hx2
    rcases List.mem_or_eq_of_mem_set hx2 with h1 | rfl
    · exact hu x h1
    · rw [hmc]; exact hu _ (List.getElem_mem hk)
  · rw [List.set_eq_take_append_cons_drop, if_pos hk]
    rw [M.OwnL_append]
    have hx' := hx
    rw [← List.take_append_drop k xs, List.drop_eq_getElem_cons hk, M.OwnL_append] at hx'
    obtain ⟨ha, _, hc⟩ := hx'
    refine ⟨M.OwnL.frame _ ha fun b hb => ?_, hm.own, M.OwnL.frame _ hc fun b hb => ?_⟩
    · exact ho.block b (hxlt b (by rw [blocksL_split xs k hk]; simp [hb])).2 fun hn => hp3 b hb b (by simp [hbs b hn]) rfl
    · exact ho.block b (hxlt b (by rw [blocksL_split xs k hk]; simp [hb])).2 fun hn => hq3 b (hbs b hn) b hb rfl
  · simp only [M.blocks]
    rw [blocksL_set_same xs k m hk hbl]; exact hd0

theorem M.Mine.inner {w : World} {lo g cap sz : Nat} {e : TypeId} {xs : List M} (h : (M.sl (some ⟨g, 0, none⟩) cap sz e xs).Mine w lo) (k : Nat) (hk : k < xs.length) : (xs[k]).Mine w lo := by
  have hd := h.dup
  simp only [M.blocks] at hd
  rw [List.nodup_append] at hd
  have hd2 := hd.2.1
  rw [blocksL_split xs k hk, List.nodup_append] at hd2
  have h3 := hd2.2.1
  rw [List.nodup_append] at h3
  exact ⟨OwnL_iff.1 h.own.2 _ (List.getElem_mem hk), h3.1⟩
theorem M.Mine.part {w : World} {lo : Nat} {ys : List M} (h : (M.ag ys).Mine w lo) {j : Nat} {m : M} (hj : ys[j]? = some m) : m.Mine w lo := by
  obtain ⟨hjj, rfl⟩ := List.getElem?_eq_some_iff.1 hj
  have hd2 : (M.blocksL ys).Nodup := h.dup
  rw [blocksL_split ys j hjj, List.nodup_append] at hd2
  have h3 := hd2.2.1
  rw [List.nodup_append] at h3
  exact ⟨OwnL_iff.1 h.own _ (List.getElem_mem hjj), h3.1⟩
/-- Part j of element k of a row of one's own. -/
theorem M.Mine.piece {w : World} {lo g cap sz : Nat} {e : TypeId} {xs : List M} (h : (M.sl (some ⟨g, 0, none⟩) cap sz e xs).Mine w lo) {k : Nat} {ys : List M} (hx : xs[k]? = some (.ag ys)) {j : Nat} {m : M} (hj : ys[j]? = some m) : m.Mine w lo := by
  obtain ⟨hk, he⟩ := List.getElem?_eq_some_iff.1 hx
  exact (he ▸ h.inner k hk : (M.ag ys).Mine w lo).part hj

theorem cellsL_one : ∀ (ys : List M) (j : Nat) (m : M), (∀ y ∈ ys, y.cells.length = 1) → j < ys.length → ∀ v, m.cells = [v] → M.cellsL (ys.set j m) = (M.cellsL ys).set j v
  | [], j, _, _, hj, _, _ => by simp at hj
  | y :: r, 0, m, h, _, v, hm => by
    have h1 := h y (List.mem_cons_self ..)
    obtain ⟨u, hu⟩ := List.length_eq_one_iff.1 h1
    simp [M.cellsL, hm, hu]
  | y :: r, j + 1, m, h, hj, v, hm => by
    have h1 := h y (List.mem_cons_self ..)
    obtain ⟨u, hu⟩ := List.length_eq_one_iff.1 h1
    simp only [List.set_cons_succ, M.cellsL, cellsL_one r j m (fun z hz => h z (List.mem_cons_of_mem _ hz)) (by simpa using hj) v hm, hu]
    simp
theorem cellsL_ones : ∀ (ys : List M), (∀ y ∈ ys, y.cells.length = 1) → (M.cellsL ys).length = ys.length
  | [], _ => rfl
  | y :: r, h => by simp only [M.cellsL, List.length_append, List.length_cons, cellsL_ones r (fun z hz => h z (List.mem_cons_of_mem _ hz)), h y (List.mem_cons_self ..)]; omega

/-- Part j of element k, a simple cell, is written. -/
theorem M.Mine.setC {w : World} {lo g cap sz : Nat} {e : TypeId} {xs : List M} (h : (M.sl (some ⟨g, 0, none⟩) cap sz e xs).Mine w lo) {k : Nat} {ys : List M} (hx : xs[k]? = some (.ag ys)) (j : Nat) {u : Value} (hy : ys[j]? = some (.c u))
    (h1 : ∀ y ∈ ys, y.cells.length = 1) (v : Value) (hv : v.oneCell' = true) :
    (M.sl (some ⟨g, 0, none⟩) cap sz e (xs.set k (.ag (ys.set j (.c v))))).Mine (w.setCell ⟨g, k * sz + j, none⟩ v) lo ∧ (xs.set k (.ag (ys.set j (.c v))))[k]? = some (.ag (ys.set j (.c v))) := by
  obtain ⟨hk, he⟩ := List.getElem?_eq_some_iff.1 hx
  obtain ⟨hj, hej⟩ := List.getElem?_eq_some_iff.1 hy
  have hsz := h.own.1.2.2 _ (List.getElem_mem hk)
  rw [he] at hsz
  have hsz' : ys.length = sz := by rw [← hsz]; exact (cellsL_ones ys h1).symm
  have hel := h.inner k hk
  rw [he] at hel
  have hbl : M.blocksL (ys.set j (.c v)) = M.blocksL ys := blocksL_set_same ys j _ hj (by rw [hej]; rfl)
  refine ⟨h.setOne k hk j (by omega) (.ag (ys.set j (.c v))) v ?_ ⟨?_, ?_⟩ ?_, by simp [hk]⟩
  · rw [he]; exact cellsL_one ys j _ h1 hj v rfl
  · refine OwnL_iff.2 fun y hy => ?_
    rcases List.mem_or_eq_of_mem_set hy with h2 | rfl
    · exact OwnL_iff.1 hel.own y h2
    · exact hv
  · show (M.blocksL (ys.set j (.c v))).Nodup
    rw [hbl]; exact hel.dup
  · rw [he]; exact hbl

/-- Part j of element k, an inner row, has changed inside. -/
theorem M.Mine.setP {w w' : World} {lo g cap sz : Nat} {e : TypeId} {xs : List M} (h : (M.sl (some ⟨g, 0, none⟩) cap sz e xs).Mine w lo) {k : Nat} {ys : List M} (hx : xs[k]? = some (.ag ys)) (j : Nat) {m : M} (hy : ys[j]? = some m)
    (m' : M) (hc : m'.cells = m.cells) (hb : m'.blocks = m.blocks) (hm : m'.Mine w' lo) {bs : List Nat} (ho : Only bs w w') (hbs : ∀ b ∈ bs, b ∈ m.blocks) :
    (M.sl (some ⟨g, 0, none⟩) cap sz e (xs.set k (.ag (ys.set j m')))).Mine w' lo ∧ (xs.set k (.ag (ys.set j m')))[k]? = some (.ag (ys.set j m')) ∧ M.blocksL (xs.set k (.ag (ys.set j m'))) = M.blocksL xs := by
  obtain ⟨hk, he⟩ := List.getElem?_eq_some_iff.1 hx
  obtain ⟨hj, hej⟩ := List.getElem?_eq_some_iff.1 hy
  have hel := h.inner k hk
  rw [he] at hel
  have hbl : M.blocksL (ys.set j m') = M.blocksL ys := blocksL_set_same ys j _ hj (by rw [hej]; exact hb)
  have hcl : M.cellsL (ys.set j m') = M.cellsL ys := cellsL_set_same ys j _ hj (by rw [hej]; exact hc)
  have hbs' : ∀ b ∈ bs, b ∈ M.blocksL ys := fun b hb => mem_blocksL.2 ⟨m, hej ▸ List.getElem_mem hj, hbs b hb⟩
  refine ⟨h.setSub k hk (.ag (ys.set j m')) (by rw [he]; exact hcl) ⟨OwnL_setSub hel.own hel.dup j hj m' hm.own ho (by rw [hej]; exact hbs), ?_⟩ (by rw [he]; exact hbl) ho (by rw [he]; exact hbs'), by simp [hk], ?_⟩
  · show (M.blocksL (ys.set j m')).Nodup
    rw [hbl]; exact hel.dup
  · exact blocksL_set_same xs k _ hk (by rw [he]; exact hbl)
theorem setC_blocks {xs : List M} {k : Nat} {ys : List M} (hx : xs[k]? = some (.ag ys)) {j : Nat} {u : Value} (hy : ys[j]? = some (.c u)) (v : Value) : M.blocksL (xs.set k (.ag (ys.set j (.c v)))) = M.blocksL xs := by
  obtain ⟨hk, he⟩ := List.getElem?_eq_some_iff.1 hx
  obtain ⟨hj, hej⟩ := List.getElem?_eq_some_iff.1 hy
  exact blocksL_set_same xs k _ hk (by rw [he]; exact blocksL_set_same ys j _ hj (by rw [hej]; rfl))
end Go.Proofs.Ytoflfamfhpijcaa
