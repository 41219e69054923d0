/-
  Walks: the cursor of the draws. No condition.
-/
import Derived.Test.YtoflfamfhpijcaaN4
import Derived.Test.YtoflfamfhpijcaaW3
set_option linter.unusedVariables false
set_option linter.unusedSimpArgs false
set_option maxRecDepth 100000
namespace Go.Proofs.Ytoflfamfhpijcaa
open Go.RowKit

def u8M (l : List Int) : List M := l.map fun n => .c (.int .u8 n)
theorem u8M_length (l : List Int) : (u8M l).length = l.length := by simp [u8M]
theorem U8s.elem {w : World} {a : Option Addr} {cap : Nat} {e : TypeId} {l : List Int} (h : (M.sl a cap 1 e (u8M l)).In w) (k : Nat) (hk : k < l.length) :
    ∃ b off x, a = some ⟨b, off, none⟩ ∧ l[k]? = some x ∧ w.cell? ⟨b, off + k, none⟩ = some (.int .u8 x) := by
  have hk' : k < (u8M l).length := by rw [u8M_length]; exact hk
  obtain ⟨b, off, ha, hel⟩ := h.elem (by omega)
  refine ⟨b, off, l[k], ha, List.getElem?_eq_getElem hk, ?_⟩
  have := hel k hk' 0 (.int .u8 l[k]) (by simp [u8M, M.cells])
  simpa using this
theorem U8s.len {w : World} {a : Option Addr} {cap : Nat} {e : TypeId} {l : List Int} (h : (M.sl a cap 1 e (u8M l)).In w) : l.length ≤ cap ∧ cap ≤ 9223372036854775807 := by
  have := h.len
  rwa [u8M_length] at this

/-- The cursor at block pb over the bytes l. -/
structure CurAt (pb : Nat) (a : Option Addr) (cap : Nat) (l : List Int) (i : Nat) (h : Int) (w : World) : Prop where
  c0 : w.cell? ⟨pb, 0, none⟩ = some (.slice a l.length cap)
  c1 : w.cell? ⟨pb, 1, none⟩ = some (.int .i64 i)
  c2 : w.cell? ⟨pb, 2, none⟩ = some (.int .i64 h)
  f1 : w.frozen? ⟨pb, 1, none⟩ = false
  f2 : w.frozen? ⟨pb, 2, none⟩ = false
  le : i ≤ l.length
  row : (M.sl a cap 1 5 (u8M l)).In w
  off : 0 < l.length → ∀ b ∈ addrBlocks a, b < pb
  u8 : ∀ z ∈ l, 0 ≤ z ∧ z ≤ 255
def Cur (pb : Nat) (a : Option Addr) (cap : Nat) (l : List Int) (w : World) : Prop := ∃ i h, CurAt pb a cap l i h w
/-- What a draw hands back: a number of a range, the cursor moved, nothing else changed. -/
def Drawn (lo hi : Int) (pb : Nat) (a : Option Addr) (cap : Nat) (l : List Int) (w : World) (e : Ending) (w' : World) : Prop :=
  ∃ x : Int, e = .returned (.int .i64 x) ∧ lo ≤ x ∧ x ≤ hi ∧ Cur pb a cap l w' ∧ OnlyIn pb (pb + 1) w w'
theorem OnlyIn.thenBelow {lo hi : Nat} {w a b : World} (h : OnlyIn lo hi w a) (hb : Below w.heap.size a b) : OnlyIn lo hi w b :=
  ⟨hb.os.trans h.os, hb.tape.trans h.tape, hb.output.trans h.output, Nat.le_trans h.size hb.size, fun k hk hd => (hb.block k hk).trans (h.block k hk hd)⟩
theorem and_range (x : Int) (m : Nat) (hm : m < 2147483648) : 0 ≤ bits .and .i64 x (m : Int) ∧ bits .and .i64 x (m : Int) ≤ (m : Int) := by
  have h : bits .and .i64 x (m : Int) = IntKind.i64.wrap (((BitVec.ofInt 64 x) &&& (BitVec.ofInt 64 (m:Int))).toNat : Int) := rfl
  rw [h]
  have h2 : ((BitVec.ofInt 64 x) &&& (BitVec.ofInt 64 (m:Int))).toNat ≤ m := by
    rw [BitVec.toNat_and, BitVec.ofInt_natCast, BitVec.toNat_ofNat]
    refine Nat.le_trans Nat.and_le_right ?_
    omega
  rw [IntKind.wrap_i64]
  omega
theorem and255 (x : Int) : 0 ≤ bits .and .i64 x 255 ∧ bits .and .i64 x 255 ≤ 255 := and_range x 255 (by decide)
theorem and30 (x : Int) : 0 ≤ bits .and .i64 x 1073741823 ∧ bits .and .i64 x 1073741823 ≤ 1073741823 := and_range x 1073741823 (by decide)
theorem M.In.only {lo hi : Nat} {w w' : World} {a : Option Addr} {cap : Nat} {e : TypeId} {l : List Int} (h : (M.sl a cap 1 e (u8M l)).In w) (k : OnlyIn lo hi w w') (hl : 0 < l.length → ∀ b ∈ addrBlocks a, b < lo) : (M.sl a cap 1 e (u8M l)).In w' := by
  obtain ⟨⟨hh, hu⟩, hx⟩ := h
  refine ⟨⟨⟨hh.len, hh.pos, hh.le, hh.max, hh.nil, fun ad had j u hj => ?_⟩, hu⟩, M.InL_of fun x hx => by simp [u8M] at hx; obtain ⟨n, _, rfl⟩ := hx; trivial⟩
  have hc := hh.cell ad had j u hj
  have hb : (ad.add j).block = ad.block := by unfold Addr.add; split <;> rfl
  refine (World.cell?_of_block (k.block _ (World.block_lt_of_cell? w _ hc) (.inl ?_))).trans hc
  rw [hb]
  refine hl ?_ _ (by rw [had]; simp [addrBlocks])
  cases l with
  | nil => simp [u8M, M.cellsL] at hj
  | cons _ _ => simp
theorem Cur.lt {pb : Nat} {a : Option Addr} {cap : Nat} {l : List Int} {w : World} (h : Cur pb a cap l w) : pb < w.heap.size := by
  obtain ⟨i, x, h⟩ := h
  exact World.block_lt_of_cell? w _ h.c0
theorem Cur.belowB {pb B : Nat} {a : Option Addr} {cap : Nat} {l : List Int} {w w' : World} (h : Cur pb a cap l w) (hb : Below B w w') (hp : pb < B) : Cur pb a cap l w' := by
  obtain ⟨i, x, ⟨c0, c1, c2, f1, f2, hle, hrow, hoff, hu8⟩⟩ := h
  have ho : OnlyIn B w.heap.size w w' := ⟨hb.os, hb.tape, hb.output, hb.size, fun k hk hd => hb.block k (by omega)⟩
  exact ⟨i, x, ⟨(hb.cell (p := ⟨pb, 0, none⟩) hp).trans c0, (hb.cell (p := ⟨pb, 1, none⟩) hp).trans c1, (hb.cell (p := ⟨pb, 2, none⟩) hp).trans c2, (hb.frozen (p := ⟨pb, 1, none⟩) hp).trans f1, (hb.frozen (p := ⟨pb, 2, none⟩) hp).trans f2, hle, hrow.only ho (fun hl b hb' => by have := hoff hl b hb'; omega), hoff, hu8⟩⟩
theorem Cur.below {pb : Nat} {a : Option Addr} {cap : Nat} {l : List Int} {w w' : World} (h : Cur pb a cap l w) (hb : Below w.heap.size w w') : Cur pb a cap l w' := by
  have hp := h.lt
  obtain ⟨i, x, ⟨c0, c1, c2, f1, f2, hle, hrow, hoff, hu8⟩⟩ := h
  exact ⟨i, x, ⟨(hb.cell (p := ⟨pb, 0, none⟩) hp).trans c0, (hb.cell (p := ⟨pb, 1, none⟩) hp).trans c1, (hb.cell (p := ⟨pb, 2, none⟩) hp).trans c2, (hb.frozen (p := ⟨pb, 1, none⟩) hp).trans f1, (hb.frozen (p := ⟨pb, 2, none⟩) hp).trans f2, hle, hrow.below hb, hoff, hu8⟩⟩
theorem pairOf {A B : Prop} (hB : B) (hA : B → A) : A ∧ B := ⟨hA hB, hB⟩
theorem OnlyIn.drewN {lo hi : Nat} {a b : World} (h : OnlyIn lo hi a b) (n : Nat) : OnlyIn lo hi a (b.drewN n) := ⟨h.os, h.tape, h.output, h.size, h.block⟩
theorem l01Byte_calls (pb : Nat) (a : Option Addr) (cap : Nat) (l : List Int) (w : World) (hc : Cur pb a cap l w) :
    Calls Try.prog 140 #[.pointer (some ⟨pb, 0, none⟩)] w (Drawn 0 255 pb a cap l w) := by
  obtain ⟨i, h, ⟨c0, c1, c2, f1, f2, hle, hrow, hoff, hu8⟩⟩ := hc
  have hl := U8s.len hrow
  have hpb := World.block_lt_of_cell? w _ c0
  simp only at hpb
  by_cases hlt : i < l.length
  · obtain ⟨b, off, z, rfl, hz, hcz⟩ := U8s.elem hrow i hlt
    have hbp := hoff (by omega) b (by simp [addrBlocks])
    have hne : ¬ b = pb := by omega
    have hzr := hu8 z (List.mem_of_getElem? hz)
    have HROW := Lib.hid hrow; clear hrow; have HOFF := Lib.hid hoff; clear hoff; have HU8 := Lib.hid hu8; clear hu8; have HZ := Lib.hid hz; clear hz; have HZR := Lib.hid hzr; clear hzr
    go_enter Try.func140, Try.ntmps140
    go_wp2_with fail
    go_quiet (fail)
    go_wp2_with fail
    go_quiet (fail)
    go_wp2_with fail
    go_quiet (fail)
    go_wp2_with fail
    go_ret
    refine ⟨_, rfl, (and255 _).1, (and255 _).2, pairOf ?_ ?_⟩
    · (repeat (first | with_reducible exact OnlyIn.refl _ _ _ | with_reducible refine OnlyIn.drewN ?_ _ | with_reducible refine OnlyIn.drew ?_ | with_reducible refine OnlyIn.set ?_ _ _ (Nat.le_refl _) (Nat.lt_succ_self _)))
    intro ho
    refine ⟨i + 1, wrap64 (wrap64 (h * 6364136223846793005) + 1442695040888963407), ?_, ?_, ?_, ?_, ?_, by omega, HROW.out.only ho HOFF.out, HOFF.out, HU8.out⟩
    all_goals (first | (simp (disch := (first | omega | (simp; done) | (simp; omega))) [go_sem, c0, c1, c2, f1, f2]; done) | (simp (disch := (first | omega | (simp; done) | (simp; omega))) [go_sem, c0, c1, c2, f1, f2]; omega))
  · have HROW := Lib.hid hrow; clear hrow; have HOFF := Lib.hid hoff; clear hoff; have HU8 := Lib.hid hu8; clear hu8
    go_enter Try.func140, Try.ntmps140
    go_wp2_with fail
    go_quiet (fail)
    go_wp2_with fail
    go_quiet (fail)
    go_wp2_with fail
    go_ret
    refine ⟨_, rfl, (and255 _).1, (and255 _).2, pairOf ?_ ?_⟩
    · (repeat (first | with_reducible exact OnlyIn.refl _ _ _ | with_reducible refine OnlyIn.drewN ?_ _ | with_reducible refine OnlyIn.drew ?_ | with_reducible refine OnlyIn.set ?_ _ _ (Nat.le_refl _) (Nat.lt_succ_self _)))
    intro ho
    refine ⟨i, wrap64 (wrap64 (h * 6364136223846793005) + 1442695040888963407), ?_, ?_, ?_, ?_, ?_, by omega, HROW.out.only ho HOFF.out, HOFF.out, HU8.out⟩
    all_goals (first | (simp (disch := (first | omega | (simp; done) | (simp; omega))) [go_sem, c0, c1, c2, f1, f2]; done) | (simp (disch := (first | omega | (simp; done) | (simp; omega))) [go_sem, c0, c1, c2, f1, f2]; omega))
end Go.Proofs.Ytoflfamfhpijcaa
