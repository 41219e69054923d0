/-
  Memory in ranges of blocks: what a call has made lies in a range; marking writes in that range alone. No condition.
-/
import Derived.Test.YtigmgfinjapchaaMem
set_option linter.unusedVariables false
namespace Go.Proofs.Ytigmgfinjapchaa
open Go.RowKit

/-- Owned data whose blocks lie in lo..hi. -/
structure M.At (m : M) (lo hi : Nat) (w : World) : Prop where
  mine : m.Mine w lo
  lt : ∀ b ∈ m.blocks, b < hi
  hi : hi ≤ w.heap.size
theorem M.At.of {m : M} {lo : Nat} {w : World} (h : m.Mine w lo) : m.At lo w.heap.size w := ⟨h, h.lt_size, Nat.le_refl _⟩
theorem M.At.in_ {m : M} {lo hi : Nat} {w : World} (h : m.At lo hi w) : m.In w := h.mine.in_
theorem M.At.below {m : M} {lo hi : Nat} {w w' : World} (h : m.At lo hi w) (hb : Below w.heap.size w w') : m.At lo hi w' := ⟨h.mine.below hb, h.lt, Nat.le_trans h.hi hb.size⟩
/-- Of what was there only the blocks lo..hi may have changed. -/
structure OnlyIn (lo hi : Nat) (w w' : World) : Prop where
  os : w'.os = w.os
  tape : w'.tape = w.tape
  output : w'.output = w.output
  size : w.heap.size ≤ w'.heap.size
  block : ∀ k, k < w.heap.size → (k < lo ∨ hi ≤ k) → w'.heap[k]? = w.heap[k]?
theorem OnlyIn.of {bs : List Nat} {lo hi : Nat} {w w' : World} (h : Only bs w w') (hs : ∀ x ∈ bs, lo ≤ x ∧ x < hi) : OnlyIn lo hi w w' :=
  ⟨h.os, h.tape, h.output, h.size, fun k hk hd => h.block k hk fun hb => by have := hs k hb; omega⟩
theorem OnlyIn.below {lo hi B : Nat} {w w' : World} (h : OnlyIn lo hi w w') (hB : B ≤ lo) (hw : B ≤ w.heap.size) : Below B w w' :=
  ⟨h.os, h.tape, h.output, h.size, fun k hk => h.block k (by omega) (.inl (by omega))⟩
theorem OnlyIn.before {lo hi : Nat} {w W w' : World} (h : OnlyIn lo hi W w') (hb : Below w.heap.size w W) : OnlyIn lo hi w w' :=
  ⟨h.os.trans hb.os, h.tape.trans hb.tape, h.output.trans hb.output, Nat.le_trans hb.size h.size, fun k hk hd => (h.block k (Nat.lt_of_lt_of_le hk hb.size) hd).trans (hb.block k hk)⟩
theorem M.At.onlyIn {m : M} {lo hi lo' hi' : Nat} {w w' : World} (h : m.At lo hi w) (k : OnlyIn lo' hi' w w') (hd : hi ≤ lo' ∨ hi' ≤ lo) : m.At lo hi w' :=
  ⟨⟨M.Own.frame m h.mine.own fun b hb => k.block b (h.mine.lt b hb).2 (by have := h.lt b hb; have := (h.mine.lt b hb).1; omega), h.mine.dup⟩, h.lt, Nat.le_trans h.hi k.size⟩
theorem ocell {lo hi : Nat} {w w' : World} (h : OnlyIn lo hi w w') :
    (∀ b o, (b < lo ∨ hi ≤ b) → b < w.heap.size → w'.cell? ⟨b, o, none⟩ = w.cell? ⟨b, o, none⟩) ∧ (∀ b o, (b < lo ∨ hi ≤ b) → b < w.heap.size → w'.frozen? ⟨b, o, none⟩ = w.frozen? ⟨b, o, none⟩) :=
  ⟨fun b o h1 h2 => World.cell?_of_block (w := w) (h.block b h2 h1), fun b o h1 h2 => World.frozen?_of_block (w := w) (h.block b h2 h1)⟩
/-- What marking leaves: the end value, the marked data in the old range, nothing else changed. -/
def MarkedAt (v : Value) (m : M) (lo hi : Nat) (w : World) (e : Ending) (w' : World) : Prop := e = .returned v ∧ m.At lo hi w' ∧ OnlyIn lo hi w w'
theorem MarkedAt.of {v : Value} {m m' : M} {lo hi : Nat} {w : World} {e : Ending} {w' : World} {bs : List Nat} (h : m.At lo hi w) (hv : e = .returned v) (hm : m'.Mine w' lo) (ho : Only bs w w')
    (hs : ∀ b ∈ bs, b ∈ m.blocks) (hs' : ∀ b ∈ m'.blocks, b ∈ m.blocks) : MarkedAt v m' lo hi w e w' :=
  ⟨hv, ⟨hm, fun b hb => h.lt b (hs' b hb), Nat.le_trans h.hi ho.size⟩, OnlyIn.of ho fun x hx => ⟨(h.mine.lt x (hs x hx)).1, h.lt x (hs x hx)⟩⟩
end Go.Proofs.Ytigmgfinjapchaa
