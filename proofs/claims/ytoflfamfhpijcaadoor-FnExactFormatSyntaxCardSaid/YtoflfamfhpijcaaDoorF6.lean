/-
  Rows of bytes that a call builds: append of bytes and of texts, what is read back. No condition.
-/
import Derived.Test.YtoflfamfhpijcaaDoorF1
import Derived.Test.YtoflfamfhpijcaaDoorBox
import Derived.Lib.AppendStr
import Derived.Lib.OwnKind
import Derived.Lib.OthersKept
import Derived.Lib.BufferRead
import Derived.Laws.IdiomStrings
set_option linter.unusedVariables false
set_option linter.unusedSimpArgs false
set_option maxRecDepth 100000
namespace Go.Proofs.YtoflfamfhpijcaaDoor
open Go.RowKit

theorem infoB : (Tryd.prog.info? 5).map (fun i => (i.zero, i.size, i.bytes)) = some (some (.int .u8 0), 1, 1) := by kernel_rfl
/-- a row of bytes of one's own, from block lo on -/
def Bts (lo : Nat) (w : World) (v : Value) (l : List UInt8) : Prop := w.ownsRow lo 5 1 v l.length (Lib.byteCells l)
theorem Bts.nil (lo : Nat) (w : World) : Bts lo w (.slice none 0 0) [] := World.ownsRow_nil _ _ _ _
theorem Bts.below {lo : Nat} {w w' : World} {v : Value} {l : List UInt8} (h : Bts lo w v l) (hb : Below w.heap.size w w') : Bts lo w' v l := by
  refine ⟨h.1, ?_⟩
  rcases h.2 with h0 | ⟨g, cap, cur, rfl, h1, h2, h3⟩
  · exact .inl h0
  · exact .inr ⟨g, cap, cur, rfl, h1, by rw [hb.block g (Array.getElem?_eq_some_iff.1 h2).1]; exact h2, h3⟩
theorem Bts.alloc {lo : Nat} {w : World} {v : Value} {l : List UInt8} (h : Bts lo w v l) (o : Obj) : Bts lo (w.alloc o) v l := World.ownsRow.alloc h o
theorem Bts.drew {lo : Nat} {w : World} {v : Value} {l : List UInt8} (h : Bts lo w v l) : Bts lo w.drew v l := h
/-- what the row reads as -/
theorem Bts.str {lo : Nat} {w : World} {v : Value} {l : List UInt8} (h : Bts lo w v l) : (convert 22 9 v).run Tryd.prog w = .ok (.string ⟨l.toArray⟩) w := by
  rcases h.2 with ⟨rfl, h0⟩ | ⟨g, cap, cur, rfl, h1, h2, h3, h4, h5, h6⟩
  · obtain rfl : l = [] := List.length_eq_zero_iff.1 h0
    exact Lib.run_convert_nil_bytes w 22 9 5 0 Tryd.underlying22 Tryd.underlying5 Tryd.underlying9
  · refine run_convert_bytes_back (P := Tryd.prog) w 22 9 5 ⟨g, 0, none⟩ cap l Tryd.underlying22 Tryd.underlying5 Tryd.underlying9 (fun j hj => ?_)
    have h7 : (cur.toList.take (l.length * 1))[j]? = (Lib.byteCells l)[j]? := by rw [h6]
    rw [List.getElem?_take, if_pos (by omega)] at h7
    have h8 : cur[j]? = some (.int .u8 (l[j].toNat : Int)) := by
      rw [← Array.getElem?_toList, h7]; simp [Lib.byteCells, hj]
    unfold World.cell?
    rw [addr_add, Nat.zero_add]
    simp [h2, h8]
/-- the two frames: what lies below lo, and what is no row of bytes -/
def Kb (lo : Nat) (w w' : World) : Prop := Below lo w w' ∧ Lib.OthersKept 5 none w w'
theorem Kb.refl (lo : Nat) (w : World) : Kb lo w w := ⟨Below.refl _ _, Lib.OthersKept.refl _ _ _⟩
theorem Kb.trans {lo : Nat} {a b c : World} (h : Kb lo a b) (k : Kb lo b c) : Kb lo a c := ⟨h.1.trans k.1, h.2.trans k.2⟩
theorem Kb.size {lo : Nat} {a b : World} (h : Kb lo a b) : a.heap.size ≤ b.heap.size := h.1.size
theorem Kb.alloc {lo : Nat} {a w : World} (h : Kb lo a w) (hl : lo ≤ w.heap.size) (o : Obj) : Kb lo a (w.alloc o) := ⟨h.1.alloc hl o, h.2.alloc o⟩
theorem Kb.drew {lo : Nat} {a w : World} (h : Kb lo a w) : Kb lo a w.drew := ⟨h.1.drew, h.2.drew⟩
theorem Kb.of {lo : Nat} {a b : World} (h : Below a.heap.size a b) (hl : lo ≤ a.heap.size) : Kb lo a b :=
  ⟨h.mono hl, fun k o hk _ _ => (h.block k (Array.getElem?_eq_some_iff.1 hk).1).trans hk⟩
/-- a datum's box is no row of bytes -/
theorem Kb.dbox {lo : Nat} {a b : World} {c : Nat} {k n : Int} {s : ByteArray} {v : Value} (h : Kb lo a b) (hc : a.heap[c]? = some (.cells #[.int .i64 k, .int .i64 n, .string s, v] 31)) (hd : DBox c k n s v a) : DBox c k n s v b :=
  hd.of ((h.2 c _ hc (by simp) (by intro c fz h; injection h with h1 h2 h3; exact absurd h2 (by decide))).trans hc.symm)
/-- append(out, s...) -/
theorem wpBts_str {ops : Array Oper} {rest : List Oper} {o : Oper} {act : Act} {Q : Exit → Act → World → Prop} {W : World} (hgd : o.guard = none) (sl x : Operand) (ho : o.op = .call { callee := .builtin .append, args := #[sl, x], argTypes := #[22, 9] })
    (lo : Nat) (v : Value) (l : List UInt8) (hs : act.eval sl = v) (h : Bts lo W v l) (s : ByteArray) (hx : act.eval x = .string s) (hB : l.length + s.size ≤ 100000000000000) (hlo : lo ≤ W.heap.size) (l' : List UInt8) (hl' : l' = l ++ s.data.toList)
    (k : ∀ v' w', Bts lo w' v' l' → Kb lo W w' → wpList Tryd.prog ops Q rest (act.put o.dst v') w') : wpList Tryd.prog ops Q (o :: rest) act W := by
  subst hl'
  obtain ⟨i0, hi, hz0, hz1, hz2⟩ := info_parts infoB
  refine Lib.wpList_append_own_string W hgd sl x 22 9 ho lo 5 i0 Tryd.underlying22 Tryd.underlying9 hi hz0 hz1 hz2 v l.length _ hs h s hx (by unfold maxLen; omega) (by omega) hlo ?_
  intro v' w' h1 h2 _
  have hk : ∀ g, v.ownBlock = some g → lo ≤ g := by
    intro g hg
    rcases h.2 with ⟨rfl, _⟩ | ⟨g', cap, cur, rfl, h3, _⟩
    · cases hg
    · simp [Value.ownBlock] at hg; omega
  refine k v' w' ?_ ⟨(Below.refl lo W).grown h2 hlo hk, (Lib.OthersKept.refl _ _ _).grown h2 (Lib.ownsRow_kind h)⟩
  unfold Bts
  have e1 : (l ++ s.data.toList).length = l.length + s.size := by rw [List.length_append]; rfl
  have e2 : Lib.byteCells (l ++ s.data.toList) = Lib.byteCells l ++ Lib.strCells s := by rw [Lib.byteCells_append]; rfl
  rw [e1, e2]
  exact h1
/-- append(out, 'c') -/
theorem wpBts_byte {ops : Array Oper} {rest : List Oper} {o : Oper} {act : Act} {Q : Exit → Act → World → Prop} {W : World} (hgd : o.guard = none) (sl x : Operand) (ho : o.op = .call { callee := .builtin .append, args := #[sl, x], argTypes := #[22, 22] })
    (lo : Nat) (v : Value) (l : List UInt8) (hs : act.eval sl = v) (h : Bts lo W v l) (b : UInt8) (c : Int) (hc : c = (b.toNat : Int)) (hx : act.eval x = .slice (some ⟨W.heap.size, 0, none⟩) 1 1) (hB : l.length + 1 ≤ 100000000000000) (hlo : lo ≤ W.heap.size) (l' : List UInt8) (hl' : l' = l ++ [b])
    (k : ∀ v' w', Bts lo w' v' l' → Kb lo W w' → wpList Tryd.prog ops Q rest (act.put o.dst v') w') : wpList Tryd.prog ops Q (o :: rest) act (W.alloc (.cells #[.int .u8 c] 5)) := by
  subst hl'
  obtain ⟨i0, hi, hz0, hz1, hz2⟩ := info_parts infoB
  have hA := h.alloc (.cells #[.int .u8 c] 5)
  refine wpList_append_own _ hgd sl x 22 ho lo 5 i0 (.int .u8 0) 1 1 Tryd.underlying22 hi hz0 hz1 hz2 rfl (by decide) v l.length _ hs hA ⟨W.heap.size, 0, none⟩ 1 1 [.int .u8 c] hx rfl (by intro j u hj; match j, hj with | 0, hj => simp at hj; subst hj; simp [Addr.add]) (by intro u hu; simp at hu; subst hu; rfl) (by unfold maxLen; omega) (by omega) (by simp; omega) ?_
  intro v' w' h1 h2 _
  have hk : ∀ g, v.ownBlock = some g → lo ≤ g := by
    intro g hg
    rcases h.2 with ⟨rfl, _⟩ | ⟨g', cap, cur, rfl, h3, _⟩
    · cases hg
    · simp [Value.ownBlock] at hg; omega
  refine k v' w' ?_ ⟨((Below.refl lo W).alloc hlo _).grown h2 (by simp; omega) hk, ((Lib.OthersKept.refl _ _ _).alloc _).grown h2 (Lib.ownsRow_kind hA)⟩
  unfold Bts
  have e1 : (l ++ [b]).length = l.length + 1 := by simp
  have e2 : Lib.byteCells (l ++ [b]) = Lib.byteCells l ++ [.int .u8 c] := by rw [Lib.byteCells_append, hc]; rfl
  rw [e1, e2]
  exact h1
/-- a row of bytes is handed back -/
def RetB (lo : Nat) (l : List UInt8) (w : World) (e : Ending) (w' : World) : Prop := ∃ v, e = .returned v ∧ Bts lo w' v l ∧ Kb lo w w'
end Go.Proofs.YtoflfamfhpijcaaDoor
