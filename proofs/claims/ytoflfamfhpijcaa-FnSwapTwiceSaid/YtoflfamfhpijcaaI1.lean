/-
  Lists of numbers that a call builds: append laws, copies. No condition.
-/
import Derived.Test.YtoflfamfhpijcaaW4
set_option linter.unusedVariables false
set_option linter.unusedSimpArgs false
set_option maxRecDepth 100000
namespace Go.Proofs.Ytoflfamfhpijcaa
open Go.RowKit

/-- append(own, s...): a row of one's own, grown by all of a slice of simple cells. -/
theorem wpList_all {P : Program} {W : World} {ops : Array Oper} {rest : List Oper} {o : Oper} {act : Act} {Q : Exit → Act → World → Prop} (hgd : o.guard = none) (s x : Operand) (t : TypeId)
    (ho : o.op = .call { callee := .builtin .append, args := #[s, x], argTypes := #[t, t] })
    (e e' : TypeId) (z : Value) (bytes : Nat) (ht : P.underlying t = some (.slice e)) (hinfo : (P.info? e).map (fun i => (i.zero, i.size, i.bytes)) = some (some z, 1, bytes))
    (hzs : z.cells.size = 1) (lo : Nat) (a : Option Addr) (cap : Nat) (xs ys : List M) (hs : act.eval s = .slice a xs.length cap) (hrow : (M.sl a cap 1 e xs).Mine W lo) (hlo : lo ≤ W.heap.size)
    (ao : Option Addr) (c : Nat) (hx : act.eval x = .slice ao ys.length c) (h : (M.sl ao c 1 e' ys).In W) (h1 : ∀ y ∈ ys, ∃ v : Value, y = .c v ∧ v.oneCell' = true)
    (h63 : xs.length + ys.length ≤ maxLen) (hbytes : (xs.length + ys.length) * bytes ≤ 140737488355328)
    (k : ∀ a' cap' w', (M.sl a' cap' 1 e (xs ++ ys)).Mine w' lo → Below lo W w' → W.heap.size ≤ w'.heap.size →
      wpList P ops Q rest (act.put o.dst (.slice a' (xs.length + ys.length) cap')) w') : wpList P ops Q (o :: rest) act W := by
  have hob : M.blocksL ys = [] := by
    clear h hx h63 hbytes k
    induction ys with
    | nil => rfl
    | cons y r ih => obtain ⟨v, rfl, _⟩ := h1 y (List.mem_cons_self ..); simpa [M.blocksL, M.blocks] using ih fun z hz => h1 z (List.mem_cons_of_mem _ hz)
  have hown : M.MineL W lo ys := ⟨OwnL_iff.2 fun y hy => by obtain ⟨v, rfl, hv⟩ := h1 y hy; exact hv, by rw [hob]; exact List.nodup_nil⟩
  refine wpList_row _ hgd s x t ho e z 1 bytes ht hinfo hzs (by decide) lo a xs.length cap (M.cellsL xs) hs hrow.own.1.1 ao ys.length c (M.cellsL ys) hx (by simpa using h.1.1.len) h.1.1.nil h.1.1.cell ?_ h63 hbytes hlo ?_
  · exact M.OwnL.one ys hown.own
  · intro a' cap' w' hr hg ha
    refine k a' cap' w' (M.Mine.push hrow hr hg ha hown h.1.2 (by rw [hob]; simp)) ?_ hg.size
    exact grownBy_below (lo := lo) hg hlo fun b hb => (Mine.addr_lo hrow b hb).1

theorem intM_one (l : List Int) : ∀ y ∈ intM l, ∃ v : Value, y = .c v ∧ v.oneCell' = true := by
  intro y hy; simp only [intM, List.mem_map] at hy; obtain ⟨n, _, rfl⟩ := hy; exact ⟨_, rfl, rfl⟩
theorem Ints.nil (w : World) (lo : Nat) : (M.sl none 0 1 3 (intM [])).Mine w lo := M.Mine.nil _ _ _ _ (by decide)
/-- the empty literal '[]int{}' -/
theorem Ints.lit (w : World) (lo : Nat) (h : lo ≤ w.heap.size) : (M.sl (some ⟨w.heap.size, 0, none⟩) 0 1 3 (intM [])).Mine (w.alloc (.cells #[] 3)) lo :=
  M.Mine.new rfl h rfl (by decide) (by simp [intM]) (by simp [maxLen]) ⟨trivial, by simp [intM, M.blocksL]⟩

theorem sl2Ints_calls (a : Option Addr) (cap : Nat) (l : List Int) (w : World) (h : (M.sl a cap 1 3 (intM l)).In w) (hB : l.length ≤ 1000000000) :
    Calls Try.prog 146 #[.slice a l.length cap] w (RetInts l w) := by
  have hil := intM_length l
  have H := Lib.hid h; clear h
  go_enter Try.func146, Try.ntmps146
  go_wp2_with (at_builtin; refine wpList_all rfl _ _ 40 rfl 3 3 _ 8 Try.underlying40 infoI rfl w.heap.size _ _ [] (intM l) rfl ?mine ?lo a cap ?ev ?hin (intM_one l) ?max ?bytes ?_)
  case mine => first | exact M.Mine.nil _ _ _ _ (by decide) | exact Ints.lit _ _ (Nat.le_refl _)
  case lo => simp
  case ev => simp [go_sem, intM_length]
  case hin => exact H.out.below (by (repeat (first | with_reducible assumption | with_reducible exact Below.refl _ _ | with_reducible refine Below.drew ?_ | with_reducible refine belowDrewN ?_ _ | ((with_reducible refine Below.setCell ?_ ?_ _); rotate_left; focus (first | omega | (simp; done) | (simp; omega))) | ((with_reducible refine Below.alloc ?_ ?_ _); rotate_left; focus (first | omega | (simp; done) | (simp; omega))))))
  case max => rw [hil]; unfold maxLen; simp; omega
  case bytes => rw [hil]; simp; omega
  intro a3 cap3 w3 hm3 hb3 hz3
  simp only [List.nil_append, List.length_nil, Nat.zero_add, hil] at *
  have HM3 := Lib.hid hm3; clear hm3
  go_wp2_with fail
  go_ret
  exact ⟨_, _, rfl, HM3.out, by first | exact hb3 | exact Below.trans (Below.alloc (Below.refl _ _) (Nat.le_refl _) _) hb3⟩
theorem icopyInts_calls (a : Option Addr) (cap : Nat) (l : List Int) (w : World) (h : (M.sl a cap 1 3 (intM l)).In w) (hB : l.length ≤ 1000000000) :
    Calls Try.prog 128 #[.slice a l.length cap] w (RetInts l w) := by
  have hil := intM_length l
  have H := Lib.hid h; clear h
  go_enter Try.func128, Try.ntmps128
  go_wp2_with (at_builtin; refine wpList_all rfl _ _ 40 rfl 3 3 _ 8 Try.underlying40 infoI rfl w.heap.size _ _ [] (intM l) rfl ?mine ?lo a cap ?ev ?hin (intM_one l) ?max ?bytes ?_)
  case mine => first | exact M.Mine.nil _ _ _ _ (by decide) | exact Ints.lit _ _ (Nat.le_refl _)
  case lo => simp
  case ev => simp [go_sem, intM_length]
  case hin => exact H.out.below (by (repeat (first | with_reducible assumption | with_reducible exact Below.refl _ _ | with_reducible refine Below.drew ?_ | with_reducible refine belowDrewN ?_ _ | ((with_reducible refine Below.setCell ?_ ?_ _); rotate_left; focus (first | omega | (simp; done) | (simp; omega))) | ((with_reducible refine Below.alloc ?_ ?_ _); rotate_left; focus (first | omega | (simp; done) | (simp; omega))))))
  case max => rw [hil]; unfold maxLen; simp; omega
  case bytes => rw [hil]; simp; omega
  intro a3 cap3 w3 hm3 hb3 hz3
  simp only [List.nil_append, List.length_nil, Nat.zero_add, hil] at *
  have HM3 := Lib.hid hm3; clear hm3
  go_wp2_with fail
  go_ret
  exact ⟨_, _, rfl, HM3.out, by first | exact hb3 | exact Below.trans (Below.alloc (Below.refl _ _) (Nat.le_refl _) _) hb3⟩
end Go.Proofs.Ytoflfamfhpijcaa
