/-
  The cells of one datum, of one piece of syntax, of one binding, in a block of their own. No condition.
-/
import Derived.Test.YtoflfamfhpijcaaAt
import Derived.Test.YtoflfamfhpijcaaN4
set_option linter.unusedVariables false
set_option linter.unusedSimpArgs false
namespace Go.Proofs.Ytoflfamfhpijcaa
open Go.RowKit

/-- a datum's cells at block b -/
structure DBox (b : Nat) (k n : Int) (s : ByteArray) (v : Value) (w : World) : Prop where
  c0 : w.cell? ⟨b, 0, none⟩ = some (.int .i64 k)
  c1 : w.cell? ⟨b, 1, none⟩ = some (.int .i64 n)
  c2 : w.cell? ⟨b, 2, none⟩ = some (.string s)
  c3 : w.cell? ⟨b, 3, none⟩ = some v
  f0 : w.frozen? ⟨b, 0, none⟩ = false
  f1 : w.frozen? ⟨b, 1, none⟩ = false
  f2 : w.frozen? ⟨b, 2, none⟩ = false
  f3 : w.frozen? ⟨b, 3, none⟩ = false
theorem cellNew {w : World} {a : Addr} {v : Value} {o : Obj} (h : w.cell? a = some v) : (w.alloc o).cell? a = some v := by
  rw [World.cell?_of_block (heapNew w o a.block (World.block_lt_of_cell? w a h))]; exact h
theorem cellFar {w : World} {b o g i : Nat} {v u : Value} (h : b ≠ g) (hc : w.cell? ⟨b, o, none⟩ = some v) : (w.setCell ⟨g, i, none⟩ u).cell? ⟨b, o, none⟩ = some v := by
  rw [World.cell?_of_block (a := ⟨b, o, none⟩) (heapSet w ⟨g, i, none⟩ u b h)]; exact hc
theorem far5 {w : World} {b o g i0 i1 i2 i3 i4 : Nat} {v u0 u1 u2 u3 u4 : Value} (h : b ≠ g) (hc : w.cell? ⟨b, o, none⟩ = some v) :
    (((((w.setCell ⟨g, i0, none⟩ u0).setCell ⟨g, i1, none⟩ u1).setCell ⟨g, i2, none⟩ u2).setCell ⟨g, i3, none⟩ u3).setCell ⟨g, i4, none⟩ u4).cell? ⟨b, o, none⟩ = some v :=
  cellFar h (cellFar h (cellFar h (cellFar h (cellFar h hc))))
theorem cellSet_ne {w : World} {b i j : Nat} (v : Value) (h : i ≠ j) : (w.setCell ⟨b, j, none⟩ v).cell? ⟨b, i, none⟩ = w.cell? ⟨b, i, none⟩ := by
  have : (⟨b, i, none⟩ : Addr) ≠ ⟨b, j, none⟩ := by simp [h]
  simp [go_sem, this, h]
theorem frozenSet {w : World} {a c : Addr} (v : Value) : (w.setCell a v).frozen? c = w.frozen? c := by
  simp [go_sem]
theorem DBox.lt {b : Nat} {k n : Int} {s : ByteArray} {v : Value} {w : World} (h : DBox b k n s v w) : b < w.heap.size := World.block_lt_of_cell? w _ h.c0
theorem DBox.of {b : Nat} {k n : Int} {s : ByteArray} {v : Value} {w w' : World} (h : DBox b k n s v w) (hk : w'.heap[b]? = w.heap[b]?) : DBox b k n s v w' :=
  ⟨(World.cell?_of_block hk).trans h.c0, (World.cell?_of_block hk).trans h.c1, (World.cell?_of_block hk).trans h.c2, (World.cell?_of_block hk).trans h.c3,
   (World.frozen?_of_block hk).trans h.f0, (World.frozen?_of_block hk).trans h.f1, (World.frozen?_of_block hk).trans h.f2, (World.frozen?_of_block hk).trans h.f3⟩
theorem DBox.only {b lo hi : Nat} {k n : Int} {s : ByteArray} {v : Value} {w w' : World} (h : DBox b k n s v w) (o : OnlyIn lo hi w w') (hb : b < lo ∨ hi ≤ b) : DBox b k n s v w' := h.of (o.block b h.lt hb)
theorem DBox.below {b B : Nat} {k n : Int} {s : ByteArray} {v : Value} {w w' : World} (h : DBox b k n s v w) (o : Below B w w') (hb : b < B) : DBox b k n s v w' := h.of (o.block b hb)
theorem DBox.far {b : Nat} {k n : Int} {s : ByteArray} {v : Value} {w : World} (h : DBox b k n s v w) {a : Addr} (u : Value) (hb : b ≠ a.block) : DBox b k n s v (w.setCell a u) := h.of (heapSet _ _ _ _ hb)
theorem DBox.new (k n : Int) (s : ByteArray) (v : Value) (w : World) : DBox w.heap.size k n s v (w.alloc (.cells #[.int .i64 k, .int .i64 n, .string s, v] 31)) := by
  constructor <;> simp [go_sem]
theorem DBox.set3 {b : Nat} {k n : Int} {s : ByteArray} {v : Value} {w : World} (h : DBox b k n s v w) (u : Value) : DBox b k n s u (w.setCell ⟨b, 3, none⟩ u) :=
  ⟨(cellSet_ne u (by decide)).trans h.c0, (cellSet_ne u (by decide)).trans h.c1, (cellSet_ne u (by decide)).trans h.c2, by rw [cell?_setCell_eq, h.c3]; rfl,
   (frozenSet u).trans h.f0, (frozenSet u).trans h.f1, (frozenSet u).trans h.f2, (frozenSet u).trans h.f3⟩
theorem DBox.set2 {b : Nat} {k n : Int} {s : ByteArray} {v : Value} {w : World} (h : DBox b k n s v w) (u : ByteArray) : DBox b k n u v (w.setCell ⟨b, 2, none⟩ (.string u)) :=
  ⟨(cellSet_ne _ (by decide)).trans h.c0, (cellSet_ne _ (by decide)).trans h.c1, by rw [cell?_setCell_eq, h.c2]; rfl, (cellSet_ne _ (by decide)).trans h.c3,
   (frozenSet _).trans h.f0, (frozenSet _).trans h.f1, (frozenSet _).trans h.f2, (frozenSet _).trans h.f3⟩

/-- a piece of syntax's cells at block b -/
structure SBox (b : Nat) (k n : Int) (s : ByteArray) (x v : Value) (w : World) : Prop where
  c0 : w.cell? ⟨b, 0, none⟩ = some (.int .i64 k)
  c1 : w.cell? ⟨b, 1, none⟩ = some (.int .i64 n)
  c2 : w.cell? ⟨b, 2, none⟩ = some (.string s)
  c3 : w.cell? ⟨b, 3, none⟩ = some x
  c4 : w.cell? ⟨b, 4, none⟩ = some v
  f0 : w.frozen? ⟨b, 0, none⟩ = false
  f1 : w.frozen? ⟨b, 1, none⟩ = false
  f2 : w.frozen? ⟨b, 2, none⟩ = false
  f3 : w.frozen? ⟨b, 3, none⟩ = false
  f4 : w.frozen? ⟨b, 4, none⟩ = false
theorem SBox.lt {b : Nat} {k n : Int} {s : ByteArray} {x v : Value} {w : World} (h : SBox b k n s x v w) : b < w.heap.size := World.block_lt_of_cell? w _ h.c0
theorem SBox.of {b : Nat} {k n : Int} {s : ByteArray} {x v : Value} {w w' : World} (h : SBox b k n s x v w) (hk : w'.heap[b]? = w.heap[b]?) : SBox b k n s x v w' :=
  ⟨(World.cell?_of_block hk).trans h.c0, (World.cell?_of_block hk).trans h.c1, (World.cell?_of_block hk).trans h.c2, (World.cell?_of_block hk).trans h.c3, (World.cell?_of_block hk).trans h.c4,
   (World.frozen?_of_block hk).trans h.f0, (World.frozen?_of_block hk).trans h.f1, (World.frozen?_of_block hk).trans h.f2, (World.frozen?_of_block hk).trans h.f3, (World.frozen?_of_block hk).trans h.f4⟩
theorem SBox.only {b lo hi : Nat} {k n : Int} {s : ByteArray} {x v : Value} {w w' : World} (h : SBox b k n s x v w) (o : OnlyIn lo hi w w') (hb : b < lo ∨ hi ≤ b) : SBox b k n s x v w' := h.of (o.block b h.lt hb)
theorem SBox.below {b B : Nat} {k n : Int} {s : ByteArray} {x v : Value} {w w' : World} (h : SBox b k n s x v w) (o : Below B w w') (hb : b < B) : SBox b k n s x v w' := h.of (o.block b hb)
theorem SBox.far {b : Nat} {k n : Int} {s : ByteArray} {x v : Value} {w : World} (h : SBox b k n s x v w) {a : Addr} (u : Value) (hb : b ≠ a.block) : SBox b k n s x v (w.setCell a u) := h.of (heapSet _ _ _ _ hb)
theorem SBox.new (k n : Int) (s : ByteArray) (x v : Value) (w : World) : SBox w.heap.size k n s x v (w.alloc (.cells #[.int .i64 k, .int .i64 n, .string s, x, v] 43)) := by
  constructor <;> simp [go_sem]
theorem SBox.set5 {b : Nat} {k n : Int} {s : ByteArray} {x v : Value} {w : World} (h : SBox b k n s x v w) (k' n' : Int) (s' : ByteArray) (x' v' : Value) :
    SBox b k' n' s' x' v' (((((w.setCell ⟨b, 0, none⟩ (.int .i64 k')).setCell ⟨b, 1, none⟩ (.int .i64 n')).setCell ⟨b, 2, none⟩ (.string s')).setCell ⟨b, 3, none⟩ x').setCell ⟨b, 4, none⟩ v') := by
  have here : ∀ (W : World) (i : Nat) (u y : Value), W.cell? ⟨b, i, none⟩ = some y → (W.setCell ⟨b, i, none⟩ u).cell? ⟨b, i, none⟩ = some u := fun W i u y hy => by rw [cell?_setCell_eq, hy]; rfl
  have far : ∀ (W : World) (i j : Nat) (u y : Value), i ≠ j → W.cell? ⟨b, i, none⟩ = some y → (W.setCell ⟨b, j, none⟩ u).cell? ⟨b, i, none⟩ = some y := fun W i j u y hij hy => (cellSet_ne u hij).trans hy
  constructor
  · exact far _ _ _ _ _ (by decide) (far _ _ _ _ _ (by decide) (far _ _ _ _ _ (by decide) (far _ _ _ _ _ (by decide) (here _ _ _ _ h.c0))))
  · exact far _ _ _ _ _ (by decide) (far _ _ _ _ _ (by decide) (far _ _ _ _ _ (by decide) (here _ _ _ _ (far _ _ _ _ _ (by decide) h.c1))))
  · exact far _ _ _ _ _ (by decide) (far _ _ _ _ _ (by decide) (here _ _ _ _ (far _ _ _ _ _ (by decide) (far _ _ _ _ _ (by decide) h.c2))))
  · exact far _ _ _ _ _ (by decide) (here _ _ _ _ (far _ _ _ _ _ (by decide) (far _ _ _ _ _ (by decide) (far _ _ _ _ _ (by decide) h.c3))))
  · exact here _ _ _ _ (far _ _ _ _ _ (by decide) (far _ _ _ _ _ (by decide) (far _ _ _ _ _ (by decide) (far _ _ _ _ _ (by decide) h.c4))))
  all_goals simp only [frozenSet]
  · exact h.f0
  · exact h.f1
  · exact h.f2
  · exact h.f3
  · exact h.f4
theorem SBox.set4 {b : Nat} {k n : Int} {s : ByteArray} {x v : Value} {w : World} (h : SBox b k n s x v w) (u : Value) : SBox b k n s x u (w.setCell ⟨b, 4, none⟩ u) :=
  ⟨(cellSet_ne u (by decide)).trans h.c0, (cellSet_ne u (by decide)).trans h.c1, (cellSet_ne u (by decide)).trans h.c2, (cellSet_ne u (by decide)).trans h.c3, by rw [cell?_setCell_eq, h.c4]; rfl,
   (frozenSet u).trans h.f0, (frozenSet u).trans h.f1, (frozenSet u).trans h.f2, (frozenSet u).trans h.f3, (frozenSet u).trans h.f4⟩
theorem SBox.set3 {b : Nat} {k n : Int} {s : ByteArray} {x v : Value} {w : World} (h : SBox b k n s x v w) (u : Value) : SBox b k n s u v (w.setCell ⟨b, 3, none⟩ u) :=
  ⟨(cellSet_ne u (by decide)).trans h.c0, (cellSet_ne u (by decide)).trans h.c1, (cellSet_ne u (by decide)).trans h.c2, by rw [cell?_setCell_eq, h.c3]; rfl, (cellSet_ne u (by decide)).trans h.c4,
   (frozenSet u).trans h.f0, (frozenSet u).trans h.f1, (frozenSet u).trans h.f2, (frozenSet u).trans h.f3, (frozenSet u).trans h.f4⟩
/-- a binding's cells at block b -/
structure BBox (b : Nat) (s : ByteArray) (x : Value) (k n : Int) (w : World) : Prop where
  c0 : w.cell? ⟨b, 0, none⟩ = some (.string s)
  c1 : w.cell? ⟨b, 1, none⟩ = some x
  c2 : w.cell? ⟨b, 2, none⟩ = some (.int .i64 k)
  c3 : w.cell? ⟨b, 3, none⟩ = some (.int .i64 n)
  f0 : w.frozen? ⟨b, 0, none⟩ = false
  f1 : w.frozen? ⟨b, 1, none⟩ = false
  f2 : w.frozen? ⟨b, 2, none⟩ = false
  f3 : w.frozen? ⟨b, 3, none⟩ = false
theorem BBox.lt {b : Nat} {k n : Int} {s : ByteArray} {x : Value} {w : World} (h : BBox b s x k n w) : b < w.heap.size := World.block_lt_of_cell? w _ h.c0
theorem BBox.of {b : Nat} {k n : Int} {s : ByteArray} {x : Value} {w w' : World} (h : BBox b s x k n w) (hk : w'.heap[b]? = w.heap[b]?) : BBox b s x k n w' :=
  ⟨(World.cell?_of_block hk).trans h.c0, (World.cell?_of_block hk).trans h.c1, (World.cell?_of_block hk).trans h.c2, (World.cell?_of_block hk).trans h.c3,
   (World.frozen?_of_block hk).trans h.f0, (World.frozen?_of_block hk).trans h.f1, (World.frozen?_of_block hk).trans h.f2, (World.frozen?_of_block hk).trans h.f3⟩
theorem BBox.only {b lo hi : Nat} {k n : Int} {s : ByteArray} {x : Value} {w w' : World} (h : BBox b s x k n w) (o : OnlyIn lo hi w w') (hb : b < lo ∨ hi ≤ b) : BBox b s x k n w' := h.of (o.block b h.lt hb)
theorem BBox.below {b B : Nat} {k n : Int} {s : ByteArray} {x : Value} {w w' : World} (h : BBox b s x k n w) (o : Below B w w') (hb : b < B) : BBox b s x k n w' := h.of (o.block b hb)
theorem BBox.far {b : Nat} {k n : Int} {s : ByteArray} {x : Value} {w : World} (h : BBox b s x k n w) {a : Addr} (u : Value) (hb : b ≠ a.block) : BBox b s x k n (w.setCell a u) := h.of (heapSet _ _ _ _ hb)
theorem BBox.new (s : ByteArray) (x : Value) (k n : Int) (w : World) : BBox w.heap.size s x k n (w.alloc (.cells #[.string s, x, .int .i64 k, .int .i64 n] 49)) := by
  constructor <;> simp [go_sem]
end Go.Proofs.Ytoflfamfhpijcaa
