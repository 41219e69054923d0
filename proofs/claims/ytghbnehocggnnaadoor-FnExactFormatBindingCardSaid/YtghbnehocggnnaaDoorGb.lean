/-
  Texts set together by wip/tools/merge.py: FB1, Shelf, F3, Shelf3, FB2, F2, W6, StrP, N5, N6, F4, F5, F6, F7, F9, FB3, Gnd, W7. No condition beyond those told with each.
-/
import Derived.Test.YtghbnehocggnnaaDoorGa
import Derived.Lib.AppendStr
import Derived.Lib.ConvBytes
import Derived.Lib.BufferRead
import Derived.Laws.IdiomStrings
import Derived.Laws.AppendOwn
import Derived.Shelf.LaysM
import Derived.Shelf.Strconv.Itoa3
import Derived.Shelf.Strconv.AppendIntPublic10
import Derived.Test.YtghbnehocggnnaaDoorProg
import Derived.Lib.AppendIntMem
import Derived.Shelf.Strconv.Itoa0
import Derived.Shelf.Strconv.Itoa1
import Derived.Shelf.Strconv.Itoa2
import Derived.Lib.ItoaWalk
import Derived.Lib.ItoaMem
import Derived.Lib.Slices
import Derived.Lib.Hide
import Derived.OwnWalk
import Derived.BigCall
import Derived.BigGuard
import Derived.CellFam
import Derived.Lib.OwnKind
import Derived.Lib.OthersKept
/-
  Rows of bytes that a call builds in a row that the run-time has marked ('[]byte(text)'): append of bytes and of texts, what is read back. No condition.
-/
set_option linter.unusedVariables false
set_option linter.unusedSimpArgs false
set_option maxRecDepth 100000
namespace Go.Proofs.YtghbnehocggnnaaDoor
open Go.RowKit

theorem infoG : (Tryd.prog.info? 5).map (fun i => (i.zero, i.size, i.bytes)) = some (some (.int .u8 0), 1, 1) := by kernel_rfl
/-- none of the first m cells bears the mark -/
def Clean (fz : Nat × Nat) (m : Nat) : Prop := fz.2 = 0 ∨ m ≤ fz.1
/-- a row of bytes of one's own, from block lo on, of which no cell bears a mark -/
def Btg (lo : Nat) (w : World) (v : Value) (l : List UInt8) : Prop :=
  ∃ g cap cur fz, v = .slice (some ⟨g, 0, none⟩) l.length cap ∧ lo ≤ g ∧ w.heap[g]? = some (.cells cur 5 fz) ∧ Clean fz cur.size ∧ l.length ≤ cap ∧ cap ≤ maxLen ∧ cur.size = cap ∧ cur.toList.take l.length = Lib.byteCells l
theorem Btg.below {lo : Nat} {w w' : World} {v : Value} {l : List UInt8} (h : Btg lo w v l) (hb : Below w.heap.size w w') : Btg lo w' v l := by
  obtain ⟨g, cap, cur, fz, h1, h2, h3, h4⟩ := h
  exact ⟨g, cap, cur, fz, h1, h2, by rw [hb.block g (Array.getElem?_eq_some_iff.1 h3).1]; exact h3, h4⟩
theorem Btg.drew {lo : Nat} {w : World} {v : Value} {l : List UInt8} (h : Btg lo w v l) : Btg lo w.drew v l := h
/-- the bytes, cell by cell -/
theorem Btg.cells {w : World} {g : Nat} {cur : Array Value} {fz : Nat × Nat} {l : List UInt8} (hg : w.heap[g]? = some (.cells cur 5 fz)) (ht : cur.toList.take l.length = Lib.byteCells l) (j : Nat) (u : Value) (hu : (Lib.byteCells l)[j]? = some u) :
    w.cell? ((⟨g, 0, none⟩ : Addr).add j) = some u := by
  rw [← ht, List.getElem?_take] at hu
  split at hu
  · rw [addr_add, Nat.zero_add]
    unfold World.cell?
    simpa [hg] using hu
  · cases hu
/-- what the row reads as -/
theorem Btg.str {lo : Nat} {w : World} {v : Value} {l : List UInt8} (h : Btg lo w v l) : (convert 31 9 v).run Tryd.prog w = .ok (.string ⟨l.toArray⟩) w := by
  obtain ⟨g, cap, cur, fz, rfl, h1, h2, h3, h4, h5, h6, h7⟩ := h
  refine run_convert_bytes_back (P := Tryd.prog) w 31 9 5 ⟨g, 0, none⟩ cap l Tryd.underlying31 Tryd.underlying5 Tryd.underlying9 (fun j hj => ?_)
  exact Btg.cells h2 h7 j _ (by simp [Lib.byteCells, hj])
/-- '[]byte(text)' -/
theorem Btg.conv (w : World) (s : ByteArray) (hs : s.size ≤ 100000000000000) (lo : Nat) (hlo : lo ≤ w.heap.size) :
    ∃ v, (convert 9 31 (.string s)).run Tryd.prog w = .ok v (Lib.bytesWorld w 5 s) ∧ Btg lo (Lib.bytesWorld w 5 s) v s.data.toList ∧ Below w.heap.size w (Lib.bytesWorld w 5 s) := by
  have hsz : s.data.toList.length = s.size := rfl
  have hge := grownCap_ge w s.size 0 5
  have hcm : grownCap w s.size 0 5 ≤ maxLen := grownCap_le_maxLen w s.size 0 5 (by unfold maxLen; omega)
  refine ⟨_, Lib.run_convert_string_bytes (P := Tryd.prog) w 9 31 5 s Tryd.underlying9 Tryd.underlying31 Tryd.underlying5, ?_, ?_⟩
  · have hd : s.data.size = s.size := rfl
    refine ⟨w.heap.size, grownCap w s.size 0 5, Lib.bytesCells w 5 s, _, by rw [hsz], hlo, Lib.bytesWorld_at_new w 5 s, .inr (Nat.le_refl _), by rw [hsz]; exact hge, hcm, ?_, ?_⟩
    · unfold Lib.bytesCells
      simp only [Array.size_append, Array.size_map, Array.size_replicate, hd]
      omega
    · unfold Lib.bytesCells
      rw [Array.toList_append, List.take_append_of_le_length (by simp)]
      rw [List.take_of_length_le (by simp)]
      simp [Lib.byteCells]
  · exact ⟨rfl, rfl, rfl, by rw [Lib.bytesWorld_size]; omega, fun k hk => Lib.bytesWorld_at_old w 5 s k hk⟩
/-- a store into a row of which no cell bears a mark -/
theorem clean_frozen {w : World} {g j : Nat} {cur : Array Value} {t : TypeId} {fz : Nat × Nat} (hg : w.heap[g]? = some (.cells cur t fz)) (hc : Clean fz cur.size) (hj : j < cur.size) : w.frozen? ⟨g, j, none⟩ = false := by
  obtain ⟨a, b⟩ := fz
  simp only [Clean] at hc
  simp only [World.frozen?, hg]
  rcases hc with h | h
  · simp [h]
  · have : ¬ a ≤ j := by omega
    simp [this]
theorem storeAll (g o : Nat) (t : TypeId) (fz : Nat × Nat) : ∀ (vs : List Value) (i : Nat) (cur : Array Value) (w : World), w.heap[g]? = some (.cells cur t fz) → Clean fz cur.size → o + i + vs.length ≤ cur.size → (∀ v ∈ vs, v.oneCell' = true) →
    ∃ cur', (storeCells ⟨g, o, none⟩ vs i).run Tryd.prog w = .ok () (w.setRow g cur') ∧ cur'.size = cur.size ∧ cur'.toList.take (o + i + vs.length) = cur.toList.take (o + i) ++ vs
  | [], i, cur, w, hg, _, _, _ => ⟨cur, by rw [setRow_self w g cur t fz hg]; rfl, rfl, by simp⟩
  | v :: r, i, cur, w, hg, hc, hl, h1 => by
    simp only [List.length_cons] at hl
    have hi : o + i < cur.size := by omega
    have hadd : (⟨g, o, none⟩ : Addr).add i = ⟨g, o + i, none⟩ := addr_add _ _ _
    have hcell : w.cell? ⟨g, o + i, none⟩ = some cur[o + i] := by rw [cell_of_row w g (o + i) cur t fz hg]; exact Array.getElem?_eq_getElem hi
    have hst : (store ((⟨g, o, none⟩ : Addr).add i) v).run Tryd.prog w = .ok () (w.setRow g (cur.setIfInBounds (o + i) v)) := by
      rw [hadd, run_store Tryd.prog w _ v _ (h1 v (List.mem_cons_self ..)), hcell]
      simp [clean_frozen hg hc hi, setCell_eq_setRow w g (o + i) cur t fz v hg]
    obtain ⟨cur', k1, k2, k3⟩ := storeAll g o t fz r (i + 1) (cur.setIfInBounds (o + i) v) (w.setRow g (cur.setIfInBounds (o + i) v)) (setRow_heap w g cur _ t fz hg) (by simpa using hc) (by simp; omega) fun x hx => h1 x (List.mem_cons_of_mem _ hx)
    refine ⟨cur', ?_, by rw [k2]; simp, ?_⟩
    · simp only [storeCells, Sem.run_bind, hst, Result.andThen_ok, k1, setRow_setRow]
    · have e1 : o + (i + 1) + r.length = o + i + (v :: r).length := by simp; omega
      rw [e1] at k3
      rw [k3, Array.toList_setIfInBounds, show o + (i + 1) = (o + i) + 1 by omega]
      have hlt : o + i < cur.toList.length := by simpa using hi
      rw [List.take_succ_eq_append_getElem (by simpa using hlt), List.take_set_of_le (Nat.le_refl _)]
      simp
theorem byteCells_one (b : List UInt8) : ∀ u ∈ Lib.byteCells b, u.oneCell' = true := by
  intro u hu
  simp only [Lib.byteCells, List.mem_map] at hu
  obtain ⟨x, _, rfl⟩ := hu
  rfl
/-- the row behind an append that found room -/
theorem Btg.room {lo g cap m : Nat} {w : World} {cur cur' : Array Value} {fz : Nat × Nat} {l b : List UInt8} (hlo : lo ≤ g) (hg : w.heap[g]? = some (.cells cur 5 fz)) (hc : Clean fz cur.size) (hcm : cap ≤ maxLen) (hcs : cur.size = cap) (ht : cur.toList.take l.length = Lib.byteCells l)
    (hm : b.length = m) (hroom : l.length + m ≤ cap) (h1 : cur'.size = cur.size) (h2 : cur'.toList.take (l.length + m) = cur.toList.take l.length ++ Lib.byteCells b) :
    Btg lo (w.setRow g cur') (.slice (some ⟨g, 0, none⟩) (l.length + m) cap) (l ++ b) ∧ Below lo w (w.setRow g cur') := by
  have hl : (l ++ b).length = l.length + m := by rw [List.length_append, hm]
  refine ⟨⟨g, cap, cur', fz, by rw [hl], hlo, setRow_heap w g cur cur' _ fz hg, by rw [h1]; exact hc, by rw [hl]; exact hroom, hcm, by rw [h1, hcs], ?_⟩, ⟨rfl, rfl, rfl, by simp, fun k hk => setRow_other w g k _ (by omega)⟩⟩
  rw [hl, h2, ht, Lib.byteCells_append]
/-- the row behind an append that made a new one -/
theorem Btg.grown {lo m cap0 cap : Nat} {w : World} {l b : List UInt8} {z : Array Value} (hlo : lo ≤ w.heap.size) (hm : b.length = m) (hge : l.length + m ≤ cap) (hcm : cap ≤ maxLen) (hz : z.size = cap - (l.length + m)) :
    Btg lo (w.drew.alloc (.cells ((Lib.byteCells l).toArray ++ (Lib.byteCells b).toArray ++ z) 5)) (.slice (some ⟨w.heap.size, 0, none⟩) (l.length + m) cap) (l ++ b) ∧ Below lo w (w.drew.alloc (.cells ((Lib.byteCells l).toArray ++ (Lib.byteCells b).toArray ++ z) 5)) := by
  have hl : (l ++ b).length = l.length + m := by rw [List.length_append, hm]
  have hbl : (Lib.byteCells l).length = l.length := Lib.byteCells_length l
  have hbb : (Lib.byteCells b).length = b.length := Lib.byteCells_length b
  refine ⟨⟨w.heap.size, cap, _, (0, 0), by rw [hl], hlo, heap_alloc_new w.drew _, .inl rfl, by rw [hl]; exact hge, hcm, ?_, ?_⟩, (Below.refl lo w).drew.alloc (by simpa using hlo) _⟩
  · simp only [Array.size_append, List.size_toArray, hz, hbl, hbb]; omega
  · rw [hl, Lib.byteCells_append]
    simp only [Array.toList_append]
    rw [List.take_append_of_le_length (by simp [hbl, hbb]; omega), List.take_of_length_le (by simp [hbl, hbb]; omega)]
/-- append(out, x...), x bytes that lie elsewhere -/
theorem runG_slice (ty : TypeId) {lo : Nat} {w : World} {v : Value} {l : List UInt8} (h : Btg lo w v l) (ad : Addr) (m c : Nat) (b : List UInt8) (hm : b.length = m) (hn : ∀ j u, (Lib.byteCells b)[j]? = some u → w.cell? (ad.add j) = some u) (hB : l.length + m ≤ 100000000000000) (hlo : lo ≤ w.heap.size) :
    ∃ v' w', (Builtin.append_ #[31, 31] ty #[v, .slice (some ad) m c]).run Tryd.prog w = .ok v' w' ∧ Btg lo w' v' (l ++ b) ∧ Below lo w w' := by
  obtain ⟨i0, hi, hz0, hz1, hz2⟩ := info_parts infoG
  obtain ⟨g, cap, cur, fz, rfl, h1, h2, h3, h4, h5, h6, h7⟩ := h
  have hbl : (Lib.byteCells l).length = l.length := Lib.byteCells_length l
  have hbb : (Lib.byteCells b).length = m := by rw [Lib.byteCells_length, hm]
  by_cases hroom : l.length + m ≤ cap
  · obtain ⟨cur', k1, k2, k3⟩ := storeAll g l.length 5 fz (Lib.byteCells b) 0 cur w h2 h3 (by rw [hbb]; omega) (byteCells_one b)
    simp only [Nat.add_zero, hbb] at k1 k3
    have hf := run_firstCells_some (P := Tryd.prog) w i0.size m ad m c (Lib.byteCells b) (by rw [hz1, hbb, Nat.mul_one]) hn
    obtain ⟨q1, q2⟩ := Btg.room h1 h2 h3 h5 h6 h7 hm hroom k2 k3
    refine ⟨_, _, ?_, q1, q2⟩
    simp [Builtin.append_, run_underlying Tryd.underlying31, sizeOf, typeInfo, hi, hz1, Builtin.lenOf, hroom, Addr.add_lit, k1]
    rw [hz1] at hf
    simp [hf, k1]
  · have hr := run_append_grow (P := Tryd.prog) w 31 ty 5 i0 (.int .u8 0) Tryd.underlying31 hi hz0 ⟨g, 0, none⟩ l.length cap (Lib.byteCells l) (by rw [hz1, hbl, Nat.mul_one]) (Btg.cells h2 h7) ad m c (Lib.byteCells b) (by rw [hz1, hbb, Nat.mul_one]) hn (by omega) (by omega) (by rw [hz2]; exact growslice_fits (by omega) (by omega))
    have hge := grownCap_ge w (l.length + m) cap 5
    have hcm := grownCap_le_maxLen w (l.length + m) cap 5 (by unfold maxLen; omega)
    obtain ⟨q1, q2⟩ := Btg.grown (w := w) (l := l) (b := b) (cap0 := cap) (z := Builtin.zeroCells (Value.int .u8 0).cells (grownCap w (l.length + m) cap 5 - (l.length + m))) hlo hm hge hcm (by rw [size_zeroCells]; simp [Value.cells])
    exact ⟨_, _, hr, q1, q2⟩
/-- append(out, s...), s a text -/
theorem runG_str (ty : TypeId) {lo : Nat} {w : World} {v : Value} {l : List UInt8} (h : Btg lo w v l) (s : ByteArray) (hB : l.length + s.size ≤ 100000000000000) (hlo : lo ≤ w.heap.size) :
    ∃ v' w', (Builtin.append_ #[31, 9] ty #[v, .string s]).run Tryd.prog w = .ok v' w' ∧ Btg lo w' v' (l ++ s.data.toList) ∧ Below lo w w' := by
  obtain ⟨i0, hi, hz0, hz1, hz2⟩ := info_parts infoG
  obtain ⟨g, cap, cur, fz, rfl, h1, h2, h3, h4, h5, h6, h7⟩ := h
  have hbl : (Lib.byteCells l).length = l.length := Lib.byteCells_length l
  have hm : s.data.toList.length = s.size := rfl
  have hsc : Lib.strCells s = Lib.byteCells s.data.toList := rfl
  have hbb : (Lib.byteCells s.data.toList).length = s.size := by rw [Lib.byteCells_length, hm]
  by_cases hroom : l.length + s.size ≤ cap
  · obtain ⟨cur', k1, k2, k3⟩ := storeAll g l.length 5 fz (Lib.byteCells s.data.toList) 0 cur w h2 h3 (by rw [hbb]; omega) (byteCells_one _)
    simp only [Nat.add_zero, hbb] at k1 k3
    have hf := Lib.run_firstCells_string (P := Tryd.prog) w i0.size s
    rw [hsc, hz1] at hf
    obtain ⟨q1, q2⟩ := Btg.room h1 h2 h3 h5 h6 h7 hm hroom k2 k3
    refine ⟨_, _, ?_, q1, q2⟩
    simp [Builtin.append_, run_underlying Tryd.underlying31, run_underlying Tryd.underlying9, sizeOf, typeInfo, hi, hz1, Builtin.lenOf, hroom, Addr.add_lit, hf, k1]
  · have hr := Lib.run_append_grow_string (P := Tryd.prog) w 31 9 ty 5 i0 (.int .u8 0) Tryd.underlying31 Tryd.underlying9 hi hz0 ⟨g, 0, none⟩ l.length cap (Lib.byteCells l) (by rw [hz1, hbl, Nat.mul_one]) (Btg.cells h2 h7) s (by omega) (by omega) (by rw [hz2]; exact growslice_fits (by omega) (by omega))
    have hge := grownCap_ge w (l.length + s.size) cap 5
    have hcm := grownCap_le_maxLen w (l.length + s.size) cap 5 (by unfold maxLen; omega)
    rw [hsc] at hr
    obtain ⟨q1, q2⟩ := Btg.grown (w := w) (l := l) (b := s.data.toList) (cap0 := cap) (z := Builtin.zeroCells (Value.int .u8 0).cells (grownCap w (l.length + s.size) cap 5 - (l.length + s.size))) hlo hm hge hcm (by rw [size_zeroCells]; simp [Value.cells])
    exact ⟨_, _, hr, q1, q2⟩
/-- append(out, x...), the walk's law -/
theorem wpG_slice {ops : Array Oper} {rest : List Oper} {o : Oper} {act : Act} {Q : Exit → Act → World → Prop} {W : World} (hgd : o.guard = none) (sl x : Operand) (ho : o.op = .call { callee := .builtin .append, args := #[sl, x], argTypes := #[31, 31] })
    (lo : Nat) (v : Value) (l : List UInt8) (hs : act.eval sl = v) (h : Btg lo W v l) (ad : Addr) (m c : Nat) (b : List UInt8) (hx : act.eval x = .slice (some ad) m c) (hm : b.length = m) (hn : ∀ j u, (Lib.byteCells b)[j]? = some u → W.cell? (ad.add j) = some u) (hB : l.length + m ≤ 100000000000000) (hlo : lo ≤ W.heap.size)
    (k : ∀ v' w', Btg lo w' v' (l ++ b) → Below lo W w' → wpList Tryd.prog ops Q rest (act.put o.dst v') w') : wpList Tryd.prog ops Q (o :: rest) act W := by
  refine wpList_plain hgd fun K hK => ?_
  obtain ⟨v', w', hr, h2, h3⟩ := runG_slice o.type h ad m c b hm hn hB hlo
  unfold Oper.wp execOp
  simp only [ho, resolve, invoke, builtin, Sem.run_bind, Sem.run_pure, Result.andThen_ok, List.map_toArray, List.map_cons, List.map_nil, hs, hx, hr]
  exact hK _ _ (k v' w' h2 h3)
/-- append(out, s...), the walk's law -/
theorem wpG_str {ops : Array Oper} {rest : List Oper} {o : Oper} {act : Act} {Q : Exit → Act → World → Prop} {W : World} (hgd : o.guard = none) (sl x : Operand) (ho : o.op = .call { callee := .builtin .append, args := #[sl, x], argTypes := #[31, 9] })
    (lo : Nat) (v : Value) (l : List UInt8) (hs : act.eval sl = v) (h : Btg lo W v l) (s : ByteArray) (hx : act.eval x = .string s) (hB : l.length + s.size ≤ 100000000000000) (hlo : lo ≤ W.heap.size)
    (k : ∀ v' w', Btg lo w' v' (l ++ s.data.toList) → Below lo W w' → wpList Tryd.prog ops Q rest (act.put o.dst v') w') : wpList Tryd.prog ops Q (o :: rest) act W := by
  refine wpList_plain hgd fun K hK => ?_
  obtain ⟨v', w', hr, h2, h3⟩ := runG_str o.type h s hB hlo
  unfold Oper.wp execOp
  simp only [ho, resolve, invoke, builtin, Sem.run_bind, Sem.run_pure, Result.andThen_ok, List.map_toArray, List.map_cons, List.map_nil, hs, hx, hr]
  exact hK _ _ (k v' w' h2 h3)
/-- append(out, 'c'), the walk's law -/
theorem wpG_byte {ops : Array Oper} {rest : List Oper} {o : Oper} {act : Act} {Q : Exit → Act → World → Prop} {W : World} (hgd : o.guard = none) (sl x : Operand) (ho : o.op = .call { callee := .builtin .append, args := #[sl, x], argTypes := #[31, 31] })
    (lo : Nat) (v : Value) (l : List UInt8) (hs : act.eval sl = v) (h : Btg lo W v l) (b : UInt8) (c : Int) (hc : c = (b.toNat : Int)) (hx : act.eval x = .slice (some ⟨W.heap.size, 0, none⟩) 1 1) (hB : l.length + 1 ≤ 100000000000000) (hlo : lo ≤ W.heap.size) (l' : List UInt8) (hl' : l' = l ++ [b])
    (k : ∀ v' w', Btg lo w' v' l' → Below lo W w' → wpList Tryd.prog ops Q rest (act.put o.dst v') w') : wpList Tryd.prog ops Q (o :: rest) act (W.alloc (.cells #[.int .u8 c] 5)) := by
  subst hl'
  refine wpG_slice hgd sl x ho lo v l hs (h.below ((Below.refl _ _).alloc (Nat.le_refl _) _)) ⟨W.heap.size, 0, none⟩ 1 1 [b] hx rfl (fun j u hj => ?_) hB (by simp; omega) fun v' w' h1 h2 => k v' w' h1 (((Below.refl lo W).alloc hlo _).trans h2)
  have h0 : j = 0 := by
    have := (List.getElem?_eq_some_iff.1 hj).1
    simp [Lib.byteCells] at this
    exact this
  subst h0
  simp only [Lib.byteCells, List.map_cons, List.map_nil, List.getElem?_cons_zero, Option.some.injEq] at hj
  subst hj
  rw [addr_add, Nat.add_zero, World.cell?_alloc_new, hc]
  rfl
/-- a row of bytes is handed back -/
def RetG (lo : Nat) (l : List UInt8) (w : World) (e : Ending) (w' : World) : Prop := ∃ v, e = .returned v ∧ Btg lo w' v l ∧ Below lo w w'
end Go.Proofs.YtghbnehocggnnaaDoor

/-
  The library's contracts on strconv.Itoa and strconv.AppendInt, laid at this program (written by the kit's lay-shelf.mjs and lay-plain.mjs at one seat: its numbers; wip/tools/shelf.py). Conditions: those told with each.
-/
namespace Go.Proofs
open Go.Shelf
def Tryd.laysM171_ren : Go.Shelf.Ren := ⟨fun | 171 => 49 | 243 => 72 | 246 => 78 | 283 => 80 | 284 => 81 | 285 => 82 | 286 => 83 | 129 => 87 | 317 => 86 | 318 => 88 | 319 => 89 | 320 => 90 | 337 => 96 | 338 => 97 | n => n, fun | 3 => 3 | 9 => 9 | 2 => 2 | 4 => 4 | 171 => 97 | 0 => 0 | 53 => 90 | 37 => 31 | 5 => 5 | 173 => 100 | 212 => 104 | 51 => 105 | 20 => 20 | 213 => 106 | 46 => 89 | 232 => 122 | 233 => 123 | n => n, fun | 17 => 0 | 18 => 3 | 19 => 4 | n => n⟩
theorem Tryd.laysM171 : Go.Proofs.LaysM.n171 Tryd.prog Tryd.laysM171_ren := {
  mixed := by kernel_rfl
  f129 := Tryd.func87.trans (congrArg some (by kernel_rfl))
  f171 := Tryd.func49.trans (congrArg some (by kernel_rfl))
  f243 := Tryd.func72.trans (congrArg some (by kernel_rfl))
  f246 := Tryd.func78.trans (congrArg some (by kernel_rfl))
  f283 := Tryd.func80.trans (congrArg some (by kernel_rfl))
  f284 := Tryd.func81.trans (congrArg some (by kernel_rfl))
  f285 := Tryd.func82.trans (congrArg some (by kernel_rfl))
  f286 := Tryd.func83.trans (congrArg some (by kernel_rfl))
  f317 := Tryd.func86.trans (congrArg some (by kernel_rfl))
  f318 := Tryd.func88.trans (congrArg some (by kernel_rfl))
  f319 := Tryd.func89.trans (congrArg some (by kernel_rfl))
  f320 := Tryd.func90.trans (congrArg some (by kernel_rfl))
  f337 := Tryd.func96.trans (congrArg some (by kernel_rfl))
  f338 := Tryd.func97.trans (congrArg some (by kernel_rfl))
  t0 := Tryd.underlying0
  a0 := Tryd.isAgg0
  z0 := Tryd.sizeOf0
  v0 := Tryd.zeroValue0
  t2 := Tryd.underlying2
  a2 := Tryd.isAgg2
  z2 := Tryd.sizeOf2
  v2 := Tryd.zeroValue2
  t3 := Tryd.underlying3
  a3 := Tryd.isAgg3
  z3 := Tryd.sizeOf3
  v3 := Tryd.zeroValue3
  t4 := Tryd.underlying4
  a4 := Tryd.isAgg4
  z4 := Tryd.sizeOf4
  v4 := Tryd.zeroValue4
  t5 := Tryd.underlying5
  a5 := Tryd.isAgg5
  z5 := Tryd.sizeOf5
  v5 := Tryd.zeroValue5
  t9 := Tryd.underlying9
  a9 := Tryd.isAgg9
  z9 := Tryd.sizeOf9
  v9 := Tryd.zeroValue9
  t20 := Tryd.underlying20
  a20 := Tryd.isAgg20
  z20 := Tryd.sizeOf20
  v20 := Tryd.zeroValue20
  t37 := Tryd.underlying31
  a37 := Tryd.isAgg31
  z37 := Tryd.sizeOf31
  v37 := Tryd.zeroValue31
  t46 := Tryd.underlying89
  a46 := Tryd.isAgg89
  z46 := Tryd.sizeOf89
  v46 := Tryd.zeroValue89
  t51 := Tryd.underlying105
  a51 := Tryd.isAgg105
  z51 := Tryd.sizeOf105
  v51 := Tryd.zeroValue105
  t53 := Tryd.underlying90
  a53 := Tryd.isAgg90
  z53 := Tryd.sizeOf90
  v53 := Tryd.zeroValue90
  t171 := Tryd.underlying97
  a171 := Tryd.isAgg97
  z171 := Tryd.sizeOf97
  v171 := Tryd.zeroValue97
  t173 := Tryd.underlying100
  a173 := Tryd.isAgg100
  z173 := Tryd.sizeOf100
  v173 := Tryd.zeroValue100
  t212 := Tryd.underlying104
  a212 := Tryd.isAgg104
  z212 := Tryd.sizeOf104
  v212 := Tryd.zeroValue104
  t213 := Tryd.underlying106
  a213 := Tryd.isAgg106
  z213 := Tryd.sizeOf106
  t232 := Tryd.underlying122
  a232 := Tryd.isAgg122
  z232 := Tryd.sizeOf122
  v232 := Tryd.zeroValue122
  t233 := Tryd.underlying123
  a233 := Tryd.isAgg123
  z233 := Tryd.sizeOf123
  v233 := Tryd.zeroValue123
  g17 := by kernel_rfl
  g18 := by kernel_rfl
  g19 := by kernel_rfl
  i0 := by kernel_rfl
  i2 := by kernel_rfl
  i3 := by kernel_rfl
  i4 := by kernel_rfl
  i5 := by kernel_rfl
  i9 := by kernel_rfl
  i20 := by kernel_rfl
  i37 := by kernel_rfl
  i46 := by kernel_rfl
  i51 := by kernel_rfl
  i53 := by kernel_rfl
  i171 := by kernel_rfl
  i173 := by kernel_rfl
  i212 := by kernel_rfl
  i232 := by kernel_rfl
  i233 := by kernel_rfl
  m17 := by kernel_rfl
  m18 := by kernel_rfl
  m19 := by kernel_rfl }
open Go.RowKit Go.Sort Go.Lib in
/-- strconv.Itoa: "Itoa is equivalent to FormatInt(int64(i), 10).": i's DECIMAL NUMERAL ('Lib.itoa': a '-' where i is negative, then the digits), FOR EVERY int. The world behind the call: the world before it, new blocks behind the heap (the library's 'var a [24]byte'), draws. (LAID: no walk: one application.) -/
theorem Tryd.strconv_Itoa (n : Int) (h0 : -9223372036854775808 ≤ n) (h1 : n ≤ 9223372036854775807) (w : World) (htab : Lib.TabIs Tryd.prog w "internal/strconv.uint64pow10" .u64 Lib.pow10Tab) :
    Calls Tryd.prog 49 #[.int .i64 n] w fun e w' => e = .returned (.string ⟨(Lib.itoa n).toArray⟩) ∧ ∃ k os, w' = grow (w.drewN k) os := Any.strconv_Itoa Tryd.laysM171 n h0 h1 w htab
def Tryd.laysM176_ren : Go.Shelf.Ren := ⟨fun | 176 => 48 | 249 => 71 | 288 => 77 | 283 => 80 | 284 => 81 | 285 => 82 | 286 => 83 | 129 => 87 | 317 => 86 | 318 => 88 | 319 => 89 | 320 => 90 | 337 => 96 | 338 => 97 | n => n, fun | 37 => 31 | 2 => 2 | 3 => 3 | 53 => 90 | 4 => 4 | 9 => 9 | 171 => 97 | 0 => 0 | 173 => 100 | 212 => 104 | 51 => 105 | 5 => 5 | 20 => 20 | 213 => 106 | 46 => 89 | 232 => 122 | 233 => 123 | n => n, fun | 17 => 0 | 18 => 3 | 19 => 4 | n => n⟩
theorem Tryd.laysM176 : Go.Proofs.LaysM.n176 Tryd.prog Tryd.laysM176_ren := {
  mixed := by kernel_rfl
  f129 := Tryd.func87.trans (congrArg some (by kernel_rfl))
  f176 := Tryd.func48.trans (congrArg some (by kernel_rfl))
  f249 := Tryd.func71.trans (congrArg some (by kernel_rfl))
  f283 := Tryd.func80.trans (congrArg some (by kernel_rfl))
  f284 := Tryd.func81.trans (congrArg some (by kernel_rfl))
  f285 := Tryd.func82.trans (congrArg some (by kernel_rfl))
  f286 := Tryd.func83.trans (congrArg some (by kernel_rfl))
  f288 := Tryd.func77.trans (congrArg some (by kernel_rfl))
  f317 := Tryd.func86.trans (congrArg some (by kernel_rfl))
  f318 := Tryd.func88.trans (congrArg some (by kernel_rfl))
  f319 := Tryd.func89.trans (congrArg some (by kernel_rfl))
  f320 := Tryd.func90.trans (congrArg some (by kernel_rfl))
  f337 := Tryd.func96.trans (congrArg some (by kernel_rfl))
  f338 := Tryd.func97.trans (congrArg some (by kernel_rfl))
  t0 := Tryd.underlying0
  a0 := Tryd.isAgg0
  z0 := Tryd.sizeOf0
  v0 := Tryd.zeroValue0
  t2 := Tryd.underlying2
  a2 := Tryd.isAgg2
  z2 := Tryd.sizeOf2
  v2 := Tryd.zeroValue2
  t3 := Tryd.underlying3
  a3 := Tryd.isAgg3
  z3 := Tryd.sizeOf3
  v3 := Tryd.zeroValue3
  t4 := Tryd.underlying4
  a4 := Tryd.isAgg4
  z4 := Tryd.sizeOf4
  v4 := Tryd.zeroValue4
  t5 := Tryd.underlying5
  a5 := Tryd.isAgg5
  z5 := Tryd.sizeOf5
  v5 := Tryd.zeroValue5
  t9 := Tryd.underlying9
  a9 := Tryd.isAgg9
  z9 := Tryd.sizeOf9
  v9 := Tryd.zeroValue9
  t20 := Tryd.underlying20
  a20 := Tryd.isAgg20
  z20 := Tryd.sizeOf20
  v20 := Tryd.zeroValue20
  t37 := Tryd.underlying31
  a37 := Tryd.isAgg31
  z37 := Tryd.sizeOf31
  v37 := Tryd.zeroValue31
  t46 := Tryd.underlying89
  a46 := Tryd.isAgg89
  z46 := Tryd.sizeOf89
  v46 := Tryd.zeroValue89
  t51 := Tryd.underlying105
  a51 := Tryd.isAgg105
  z51 := Tryd.sizeOf105
  v51 := Tryd.zeroValue105
  t53 := Tryd.underlying90
  a53 := Tryd.isAgg90
  z53 := Tryd.sizeOf90
  v53 := Tryd.zeroValue90
  t171 := Tryd.underlying97
  a171 := Tryd.isAgg97
  z171 := Tryd.sizeOf97
  v171 := Tryd.zeroValue97
  t173 := Tryd.underlying100
  a173 := Tryd.isAgg100
  z173 := Tryd.sizeOf100
  v173 := Tryd.zeroValue100
  t212 := Tryd.underlying104
  a212 := Tryd.isAgg104
  z212 := Tryd.sizeOf104
  v212 := Tryd.zeroValue104
  t213 := Tryd.underlying106
  a213 := Tryd.isAgg106
  z213 := Tryd.sizeOf106
  t232 := Tryd.underlying122
  a232 := Tryd.isAgg122
  z232 := Tryd.sizeOf122
  v232 := Tryd.zeroValue122
  t233 := Tryd.underlying123
  a233 := Tryd.isAgg123
  z233 := Tryd.sizeOf123
  v233 := Tryd.zeroValue123
  g17 := by kernel_rfl
  g18 := by kernel_rfl
  g19 := by kernel_rfl
  i0 := by kernel_rfl
  i2 := by kernel_rfl
  i3 := by kernel_rfl
  i4 := by kernel_rfl
  i5 := by kernel_rfl
  i9 := by kernel_rfl
  i20 := by kernel_rfl
  i37 := by kernel_rfl
  i46 := by kernel_rfl
  i51 := by kernel_rfl
  i53 := by kernel_rfl
  i171 := by kernel_rfl
  i173 := by kernel_rfl
  i212 := by kernel_rfl
  i232 := by kernel_rfl
  i233 := by kernel_rfl
  m17 := by kernel_rfl
  m18 := by kernel_rfl
  m19 := by kernel_rfl }
open Go.RowKit Go.Sort Go.Lib in
/-- strconv.AppendInt: "AppendInt appends the string form of the integer i, as generated by FormatInt, to dst and returns the extended buffer.": AT BASE 10: WHAT COMES BACK OWNS dst's CELLS AND, BEHIND THEM, i's DECIMAL NUMERAL ('Lib.itoa i': at most 20 bytes), for every int64. Below the call's own blocks nothing has turned. (LAID: no walk: one application.) -/
theorem Tryd.strconv_AppendInt_10 (B n : Nat) (i : Int) (h0 : -9223372036854775808 ≤ i) (h1 : i ≤ 9223372036854775807) (sv : Value) (xs : List Value) (w : World) (hown : w.ownsRow B 5 1 sv n xs) (hBw : B ≤ w.heap.size) (hlim : n + 21 ≤ 140737488355328) (htab : Lib.TabBelow Tryd.prog B w "internal/strconv.uint64pow10" .u64 Lib.pow10Tab) :
    Calls Tryd.prog 48 #[sv, .int .i64 i, .int .i64 10] w fun e w' => ∃ v', e = .returned v' ∧ w'.ownsRow B 5 1 v' (n + (Lib.itoa i).length) (xs ++ Lib.byteCells (Lib.itoa i)) ∧ Below B w w' ∧ Lib.OthersKept 5 none w w' := Any.strconv_AppendInt_10 Tryd.laysM176 B n i h0 h1 sv xs w hown hBw hlim htab
end Go.Proofs

/-
  The program's text of a number: strconv's contract. Condition: the library's table of powers of ten reads as laid.
-/
set_option linter.unusedVariables false
set_option linter.unusedSimpArgs false
set_option maxRecDepth 100000
namespace Go.Proofs.YtghbnehocggnnaaDoor
open Go.RowKit

/-- the table of powers of ten, in every world that keeps what lies below B -/
def Tab (B : Nat) (w : World) : Prop := Lib.TabBelow Tryd.prog B w "internal/strconv.uint64pow10" .u64 Lib.pow10Tab
theorem Tab.on {B : Nat} {w w' : World} (h : Tab B w) (hb : Below B w w') : Tab B w' := fun w2 h2 => h w2 (hb.trans h2)
theorem Tab.mono {B C : Nat} {w : World} (h : Tab B w) (hc : B ≤ C) : Tab C w := fun w2 h2 => h w2 (h2.mono hc)
theorem Tab.of {w : World} (h : Lib.TabIs Tryd.prog w "internal/strconv.uint64pow10" .u64 Lib.pow10Tab) : Tab w.heap.size w := Lib.tabBelow_of_tabIs h
theorem iFormatNumber_calls (n : Int) (w : World) (hn : I64 n) (B : Nat) (ht : Tab B w) (hB : B ≤ w.heap.size) :
    Calls Tryd.prog 23 #[.int .i64 n] w (Ret (.string ⟨(Lib.itoa n).toArray⟩) w) := by
  go_enter Tryd.func23, Tryd.ntmps23
  go_wp2_with (go_at_call 49; refine (Tryd.strconv_Itoa n hn.1 hn.2 _ (ht _ (by (repeat (first | with_reducible assumption | with_reducible exact Below.refl _ _ | with_reducible refine Below.drew ?_ | with_reducible refine belowDrewN ?_ _ | ((with_reducible refine Below.setCell ?_ ?_ _); rotate_left; focus (first | omega | (simp; done) | (simp; omega))) | ((with_reducible refine Below.alloc ?_ ?_ _); rotate_left; focus (first | omega | (simp; done) | (simp; omega)))))))).mono ?_; rintro e w1 ⟨rfl, k, os, rfl⟩)
  go_ret
  exact ⟨rfl, Lib.below_grow _ _ (Nat.le_refl _) k os⟩
end Go.Proofs.YtghbnehocggnnaaDoor

/-
  The library's contracts on the numerals of package internal/strconv, laid at this program (written by the kit's lay-shelf.mjs and lay-plain.mjs at one seat: its numbers; wip/tools/shelf.py). Conditions: those told with each.
-/
namespace Go.Proofs
open Go.Shelf
def Tryd.lays283_ren : Go.Shelf.Ren := ⟨fun | 283 => 80 | n => n, fun | 3 => 3 | 9 => 9 | 4 => 4 | n => n, fun | n => n⟩
theorem Tryd.lays283 : Go.Proofs.Lays.n283 Tryd.prog Tryd.lays283_ren := {
  mixed := by kernel_rfl
  f283 := Tryd.func80.trans (congrArg some (by kernel_rfl))
  t3 := Tryd.underlying3
  a3 := Tryd.isAgg3
  z3 := Tryd.sizeOf3
  v3 := Tryd.zeroValue3
  t4 := Tryd.underlying4
  a4 := Tryd.isAgg4
  z4 := Tryd.sizeOf4
  v4 := Tryd.zeroValue4
  t9 := Tryd.underlying9
  a9 := Tryd.isAgg9
  z9 := Tryd.sizeOf9
  v9 := Tryd.zeroValue9 }
open Go.Lib in
/-- internal/strconv.small: "small returns the string for an i with 0 <= i < nSmalls.": i's decimal numeral. The world is as it was. (LAID: no walk: one application.) -/
theorem Tryd.internal_strconv_small (i : Nat) (h : i < 100) (w : World) :
    Calls Tryd.prog 80 #[.int .i64 i] w fun e w' => e = .returned (.string ⟨(Lib.decDigits i).toArray⟩) ∧ w' = w := Any.internal_strconv_small Tryd.lays283 i h w
def Tryd.laysM284_ren : Go.Shelf.Ren := ⟨fun | 284 => 81 | 129 => 87 | 317 => 86 | 318 => 88 | n => n, fun | 53 => 90 | 3 => 3 | 212 => 104 | 0 => 0 | 4 => 4 | 46 => 89 | 5 => 5 | 9 => 9 | n => n, fun | 17 => 0 | n => n⟩
theorem Tryd.laysM284 : Go.Proofs.LaysM.n284 Tryd.prog Tryd.laysM284_ren := {
  mixed := by kernel_rfl
  f129 := Tryd.func87.trans (congrArg some (by kernel_rfl))
  f284 := Tryd.func81.trans (congrArg some (by kernel_rfl))
  f317 := Tryd.func86.trans (congrArg some (by kernel_rfl))
  f318 := Tryd.func88.trans (congrArg some (by kernel_rfl))
  t0 := Tryd.underlying0
  a0 := Tryd.isAgg0
  z0 := Tryd.sizeOf0
  v0 := Tryd.zeroValue0
  t3 := Tryd.underlying3
  a3 := Tryd.isAgg3
  z3 := Tryd.sizeOf3
  v3 := Tryd.zeroValue3
  t4 := Tryd.underlying4
  a4 := Tryd.isAgg4
  z4 := Tryd.sizeOf4
  v4 := Tryd.zeroValue4
  t5 := Tryd.underlying5
  a5 := Tryd.isAgg5
  z5 := Tryd.sizeOf5
  v5 := Tryd.zeroValue5
  t9 := Tryd.underlying9
  a9 := Tryd.isAgg9
  z9 := Tryd.sizeOf9
  v9 := Tryd.zeroValue9
  t46 := Tryd.underlying89
  a46 := Tryd.isAgg89
  z46 := Tryd.sizeOf89
  v46 := Tryd.zeroValue89
  t53 := Tryd.underlying90
  a53 := Tryd.isAgg90
  z53 := Tryd.sizeOf90
  v53 := Tryd.zeroValue90
  t212 := Tryd.underlying104
  a212 := Tryd.isAgg104
  z212 := Tryd.sizeOf104
  v212 := Tryd.zeroValue104
  g17 := by kernel_rfl
  i0 := by kernel_rfl
  i3 := by kernel_rfl
  i4 := by kernel_rfl
  i5 := by kernel_rfl
  i9 := by kernel_rfl
  i46 := by kernel_rfl
  i53 := by kernel_rfl
  i212 := by kernel_rfl
  m17 := by kernel_rfl }
open Go.Lib in
/-- internal/strconv.numDigits, at a d that is not 0: THE NUMBER OF d's DECIMAL DIGITS. The world is as it was. (LAID: no walk: one application.) -/
theorem Tryd.internal_strconv_numDigits (u : Nat) (h1 : 1 ≤ u) (h2 : u < 18446744073709551616) (w : World) (htab : Lib.TabIs Tryd.prog w "internal/strconv.uint64pow10" .u64 Lib.pow10Tab) :
    Calls Tryd.prog 81 #[.int .u64 u] w fun e w' => e = .returned (.int .i64 (Lib.nDigits u)) ∧ w' = w := Any.internal_strconv_numDigits Tryd.laysM284 u h1 h2 w htab
def Tryd.lays285_ren : Go.Shelf.Ren := ⟨fun | 285 => 82 | n => n, fun | 37 => 31 | 53 => 90 | 3 => 3 | 4 => 4 | 51 => 105 | 9 => 9 | 5 => 5 | 0 => 0 | n => n, fun | n => n⟩
theorem Tryd.lays285 : Go.Proofs.Lays.n285 Tryd.prog Tryd.lays285_ren := {
  mixed := by kernel_rfl
  f285 := Tryd.func82.trans (congrArg some (by kernel_rfl))
  t0 := Tryd.underlying0
  a0 := Tryd.isAgg0
  z0 := Tryd.sizeOf0
  v0 := Tryd.zeroValue0
  t3 := Tryd.underlying3
  a3 := Tryd.isAgg3
  z3 := Tryd.sizeOf3
  v3 := Tryd.zeroValue3
  t4 := Tryd.underlying4
  a4 := Tryd.isAgg4
  z4 := Tryd.sizeOf4
  v4 := Tryd.zeroValue4
  t5 := Tryd.underlying5
  a5 := Tryd.isAgg5
  z5 := Tryd.sizeOf5
  v5 := Tryd.zeroValue5
  t9 := Tryd.underlying9
  a9 := Tryd.isAgg9
  z9 := Tryd.sizeOf9
  v9 := Tryd.zeroValue9
  t37 := Tryd.underlying31
  a37 := Tryd.isAgg31
  z37 := Tryd.sizeOf31
  v37 := Tryd.zeroValue31
  t51 := Tryd.underlying105
  a51 := Tryd.isAgg105
  z51 := Tryd.sizeOf105
  v51 := Tryd.zeroValue105
  t53 := Tryd.underlying90
  a53 := Tryd.isAgg90
  z53 := Tryd.sizeOf90
  v53 := Tryd.zeroValue90 }
open Go.RowKit Go.Sort Go.Lib in
/-- internal/strconv.formatBase10: "formatBase10 formats the decimal representation of u into a. The caller is responsible for ensuring that a is big enough to hold u. If a is too big, leading zeros will be filled in as needed.": THE ROW HOLDS u's DIGITS ('FmtInv .. 0 ..': every place t holds 'dg u (len - 1 - t)'); all else is as it was but for the count of draws. (LAID: no walk: one application.) -/
theorem Tryd.internal_strconv_formatBase10 (blk off cap : Nat) (u : Nat) (d : Array UInt8) (w : World) (hH : Holds (fun (b : UInt8) => Value.int .u8 (b.toNat : Int)) w blk off d) (hu : u < 10 ^ d.size) (hu64 : u < 18446744073709551616) (hsz : d.size < 4611686018427387904) :
    Calls Tryd.prog 82 #[.slice (some ⟨blk, off, none⟩) d.size cap, .int .u64 u] w fun e w' =>
      e = .returned (.tuple #[]) ∧ ∃ (n v' : Nat) (dk : Array UInt8), w' = (putRow (fun (b : UInt8) => Value.int .u8 (b.toNat : Int)) w blk off dk).drewN n ∧ FmtInv d.size u 0 v' dk := Any.internal_strconv_formatBase10 Tryd.lays285 blk off cap u d w hH hu hu64 hsz
end Go.Proofs

/-
  Walks: strconv.AppendInt at numbers that are not negative, behind a row that the run-time has marked. Condition: the library's table of powers of ten reads as laid.
-/
set_option linter.unusedVariables false
set_option linter.unusedSimpArgs false
set_option maxRecDepth 100000
namespace Go.Proofs.YtghbnehocggnnaaDoor
open Go.RowKit Go.Sort

set_option maxHeartbeats 4000000 in
theorem appendU_small (lo : Nat) (v : Value) (l : List UInt8) (u : Nat) (w : World) (hu : u < 100) (h : Btg lo w v l) (hlo : lo ≤ w.heap.size) (hB : l.length ≤ 10000000000000) :
    Calls Tryd.prog 77 #[v, .int .u64 u, .int .i64 10] w (RetG lo (l ++ Lib.decDigits u) w) := by
  have hlen : (Lib.decDigits u).length ≤ 20 := by
    rw [Lib.decDigits_length]
    by_cases h10 : u < 10
    · rw [Lib.nDigits_small h10]; omega
    · rw [Lib.nDigits_big h10, Lib.nDigits_small (show u / 10 < 10 by omega)]; omega
  have hsz : (⟨(Lib.decDigits u).toArray⟩ : ByteArray).size = (Lib.decDigits u).length := by simp [ByteArray.size]
  have H := Lib.hid h; clear h
  go_enter Tryd.func77, Tryd.ntmps77
  go_wp2_with (first
    | (go_at_call 80; refine (Tryd.internal_strconv_small u hu _).mono ?_; rintro e w' ⟨rfl, rfl⟩)
    | (at_builtin; refine wpG_str rfl _ _ rfl lo v l rfl H.out ⟨(Lib.decDigits u).toArray⟩ rfl (by rw [hsz]; omega) hlo ?_))
  intro v' w1 h1 hb1
  have H1 := Lib.hid h1; clear h1
  go_wp2_with fail
  go_ret
  exact ⟨v', rfl, by simpa using H1.out, hb1⟩
/-- what is written into a new block leaves the row as it was -/
theorem Btg.grow {lo : Nat} {w : World} {v : Value} {l : List UInt8} (h : Btg lo w v l) (k : Nat) (os : Array Obj) : Btg lo (grow (w.drewN k) os) v l := by
  obtain ⟨g, cap, cur, fz, h1, h2, h3, h4⟩ := h
  exact ⟨g, cap, cur, fz, h1, h2, by rw [Lib.heap_grow_old w k os g (Array.getElem?_eq_some_iff.1 h3).1]; exact h3, h4⟩
set_option maxHeartbeats 8000000 in
theorem appendU_big (lo : Nat) (v : Value) (l : List UInt8) (u : Nat) (w : World) (hu : 100 ≤ u) (hu9 : u ≤ 99999) (h : Btg lo w v l) (hlo : lo ≤ w.heap.size) (hB : l.length ≤ 10000000000000) (hT : Tab lo w) :
    Calls Tryd.prog 77 #[v, .int .u64 u, .int .i64 10] w (RetG lo (l ++ Lib.decDigits u) w) := by
  have hu1 : 1 ≤ u := by omega
  have hu64 : u < 18446744073709551616 := by omega
  have hnd20 : Lib.nDigits u ≤ 20 := by have := Lib.numDigits_eq u hu1 hu64; split at this <;> omega
  have hdl := Lib.decDigits_length u
  have hal : Tryd.prog.arrayLen 97 = 24 := by simp [Program.arrayLen, Tryd.underlying97]
  have hsl : ∀ W, (Instr.sliceAt 97 (.pointer (some ⟨w.heap.size, 0, none⟩)) none (some (.int .i64 (Lib.nDigits u : Int))) none).run Tryd.prog W = .ok (.slice (some ⟨w.heap.size, 0, none⟩) (Lib.nDigits u) 24) W := fun W => by
    rw [run_sliceAt_array_h W 97 ⟨w.heap.size, 0, none⟩ (by simp [Program.arrayLen, Program.elem, Tryd.underlying97]) .i64 (Lib.nDigits u : Int) (by omega) (by rw [hal]; omega)]
    go_simp
  have hz := Lib.holds_zero0 w 97 (Lib.nDigits u) (by omega)
  have hfmt := Tryd.internal_strconv_formatBase10 w.heap.size 0 24 u (Array.replicate (Lib.nDigits u) 0) (w.alloc (.cells Lib.zeros24 97)) hz (by rw [Array.size_replicate]; exact Lib.lt_pow_nDigits u) hu64 (by rw [Array.size_replicate]; omega)
  rw [Array.size_replicate] at hfmt
  have hui : (100 : Int) ≤ (u : Int) := by omega
  clear hal
  have H := Lib.hid h; clear h; have HZ := Lib.hid hz; clear hz; have HT := Lib.hid hT; clear hT; have HDL := Lib.hid hdl; clear hdl
  go_enter Tryd.func77, Tryd.ntmps77
  go_wp2_with (first
    | (go_at_call 81; refine (Tryd.internal_strconv_numDigits u hu1 hu64 _ (HT.out _ (by (repeat (first | with_reducible assumption | with_reducible exact Below.refl _ _ | with_reducible refine Below.drew ?_ | with_reducible refine belowDrewN ?_ _ | ((with_reducible refine Below.setCell ?_ ?_ _); rotate_left; focus (first | omega | (simp; done) | (simp; omega))) | ((with_reducible refine Below.alloc ?_ ?_ _); rotate_left; focus (first | omega | (simp; done) | (simp; omega)))))))).mono ?_; rintro e w' ⟨rfl, rfl⟩))
  go_at_call 82
  refine hfmt.mono ?_
  rintro e w' ⟨rfl, k, v0, dk, rfl, hF⟩
  have hdk : dk.size = Lib.nDigits u := by rw [hF.size]
  obtain ⟨W2, hW2⟩ : ∃ W2, W2 = (putRow (fun (b : UInt8) => Value.int .u8 (b.toNat : Int)) (w.alloc (.cells Lib.zeros24 97)) w.heap.size 0 dk).drewN k := ⟨_, rfl⟩
  have hn : ∀ j y, (Lib.byteCells (Lib.decDigits u))[j]? = some y → W2.cell? ((⟨w.heap.size, 0, none⟩ : Addr).add j) = some y := fun j y hj => by
    have hjl : j < (Lib.decDigits u).length := by
      have h5 := (List.getElem?_eq_some_iff.1 hj).1
      rwa [Lib.byteCells_length] at h5
    have hjn : j < Lib.nDigits u := by rw [HDL.out] at hjl; exact hjl
    obtain rfl : Value.int .u8 ((Lib.decDigits u)[j].toNat : Int) = y := by
      have e5 : (Lib.byteCells (Lib.decDigits u))[j]? = some (Value.int .u8 ((Lib.decDigits u)[j].toNat : Int)) := by simp [Lib.byteCells, hjl]
      rw [e5] at hj
      exact Option.some.inj hj
    rw [Lib.row_is_numeral hF j hjl, addr_add, Nat.zero_add, hW2, World.cell?_drewN]
    have hp := cell?_putRow (fun (b : UInt8) => Value.int .u8 (b.toNat : Int)) _ w.heap.size 0 _ dk HZ.out (by rw [hdk, Array.size_replicate]) j (by omega)
    simpa using hp
  obtain ⟨os, eo⟩ := Lib.fin_at w (.cells Lib.zeros24 97) dk k 0
  have hb2 : Below lo w W2 := by rw [hW2, eo]; exact Lib.below_grow lo w hlo k os
  have h2 : Btg lo W2 v l := by rw [hW2, eo]; exact H.out.grow k os
  have hz2 : w.heap.size ≤ W2.heap.size := by rw [hW2, eo]; exact Lib.size_grow w k os
  rw [← hW2]
  clear hW2 eo hF hdk hfmt
  have hdd := HDL.out
  have HN := Lib.hid hn; clear hn; have H2 := Lib.hid h2; clear h2; have HB2 := Lib.hid hb2; clear hb2; have HDD := Lib.hid hdd; clear hdd
  go_wp2_with (at_builtin; refine wpG_slice rfl _ _ rfl lo v l rfl H2.out ⟨w.heap.size, 0, none⟩ (Lib.nDigits u) 24 (Lib.decDigits u) rfl HDD.out HN.out (by omega) (by omega) ?_)
  intro v3 w3 h3 hb3
  have H3 := Lib.hid h3; clear h3; have HB3 := Lib.hid hb3; clear hb3
  go_wp2_with fail
  go_ret
  exact ⟨v3, rfl, H3.out, HB2.out.trans HB3.out⟩
theorem appendU_calls (lo : Nat) (v : Value) (l : List UInt8) (u : Nat) (w : World) (hu9 : u ≤ 99999) (h : Btg lo w v l) (hlo : lo ≤ w.heap.size) (hB : l.length ≤ 10000000000000) (hT : Tab lo w) :
    Calls Tryd.prog 77 #[v, .int .u64 u, .int .i64 10] w (RetG lo (l ++ Lib.decDigits u) w) := by
  by_cases hu : u < 100
  · exact appendU_small lo v l u w hu h hlo hB
  · exact appendU_big lo v l u w (by omega) hu9 h hlo hB hT
set_option maxHeartbeats 2000000 in
theorem appendI_inner (lo : Nat) (v : Value) (l : List UInt8) (u : Nat) (w : World) (hu9 : u ≤ 99999) (h : Btg lo w v l) (hlo : lo ≤ w.heap.size) (hB : l.length ≤ 10000000000000) (hT : Tab lo w) :
    Calls Tryd.prog 71 #[v, .int .i64 u, .int .i64 10] w (RetG lo (l ++ Lib.decDigits u) w) := by
  have hw1 : IntKind.u64.wrap (u : Int) = (u : Int) := by rw [IntKind.wrap_u64]; omega
  have H := Lib.hid h; clear h; have HT := Lib.hid hT; clear hT
  go_enter Tryd.func71, Tryd.ntmps71
  go_wp2_with fail
  refine (appendU_calls lo v l u _ hu9 H.out hlo hB HT.out).mono ?_
  rintro e w1 ⟨v1, rfl, h1, hb1⟩
  have H1 := Lib.hid h1; clear h1; have HB1 := Lib.hid hb1; clear hb1
  go_wp2_with fail
  go_ret
  exact ⟨v1, rfl, H1.out, HB1.out⟩
set_option maxHeartbeats 2000000 in
theorem appendIntG_calls (lo : Nat) (v : Value) (l : List UInt8) (i : Int) (w : World) (hi : 0 ≤ i ∧ i ≤ 99999) (h : Btg lo w v l) (hlo : lo ≤ w.heap.size) (hB : l.length ≤ 10000000000000) (hT : Tab lo w) (l' : List UInt8) (hl' : l' = l ++ Lib.itoa i) :
    Calls Tryd.prog 48 #[v, .int .i64 i, .int .i64 10] w (RetG lo l' w) := by
  obtain ⟨u, rfl⟩ : ∃ u : Nat, i = u := ⟨i.toNat, by omega⟩
  subst hl'
  rw [Lib.itoa_nonneg]
  have H := Lib.hid h; clear h; have HT := Lib.hid hT; clear hT
  go_enter Tryd.func48, Tryd.ntmps48
  go_wp2_with fail
  refine (appendI_inner lo v l u _ (by omega) H.out hlo hB HT.out).mono ?_
  rintro e w1 ⟨v1, rfl, h1, hb1⟩
  have H1 := Lib.hid h1; clear h1; have HB1 := Lib.hid hb1; clear hb1
  go_wp2_with fail
  go_ret
  exact ⟨v1, rfl, H1.out, HB1.out⟩
end Go.Proofs.YtghbnehocggnnaaDoor

/-
  Walks: the reference's text of a number. No condition.
-/
set_option linter.unusedVariables false
set_option linter.unusedSimpArgs false
set_option maxRecDepth 100000
namespace Go.Proofs.YtghbnehocggnnaaDoor
open Go.RowKit

theorem oneByte (w : World) (c : Int) (b : UInt8) (hc : c = (b.toNat : Int)) : (convert 31 9 (.slice (some ⟨w.heap.size, 0, none⟩) 1 1)).run Tryd.prog (w.alloc (.cells #[.int .u8 c] 5)) = .ok (.string ⟨#[b]⟩) (w.alloc (.cells #[.int .u8 c] 5)) := by
  have h := run_convert_bytes_back (P := Tryd.prog) (w.alloc (.cells #[.int .u8 c] 5)) 31 9 5 ⟨w.heap.size, 0, none⟩ 1 [b] Tryd.underlying31 Tryd.underlying5 Tryd.underlying9 (fun j hj => by
    have : j = 0 := by simp at hj; omega
    subst this
    simp [Addr.add, go_sem, hc])
  exact h
theorem byteAdd (a : UInt8) (l : List UInt8) (b : ByteArray) (h : b.data.toList = l) : (⟨#[a]⟩ ++ b : ByteArray) = ⟨(a :: l).toArray⟩ := by
  apply ByteArray.ext
  rw [ByteArray.data_append]
  apply Array.ext'
  simp [h]
def dgt (u : Nat) : UInt8 := UInt8.ofNat (48 + u % 10)
theorem digit_toNat (u : Nat) : ((dgt u).toNat : Int) = ((48 + u % 10 : Nat) : Int) := by
  have : (48 + u % 10) % 256 = 48 + u % 10 := Nat.mod_eq_of_lt (by omega)
  unfold dgt; simp [UInt8.toNat_ofNat, this]
set_option maxHeartbeats 1000000 in
theorem sFormatNumber_calls (n : Int) (w : World) (hn : I64 n) :
    Calls Tryd.prog 19 #[.int .i64 n] w (Ret (.string ⟨(Lib.itoa n).toArray⟩) w) := by
  unfold I64 at hn
  by_cases h0 : n = 0
  · subst h0
    have hi := itoa_zero
    have HI := Lib.hid hi; clear hi
    go_enter Tryd.func19, Tryd.ntmps19
    go_wp2_with fail
    go_ret
    exact ⟨by rw [HI.out]; rfl, by (repeat (first | with_reducible assumption | with_reducible exact Below.refl _ _ | with_reducible refine Below.drew ?_ | with_reducible refine belowDrewN ?_ _ | ((with_reducible refine Below.setCell ?_ ?_ _); rotate_left; focus (first | omega | (simp; done) | (simp; omega))) | ((with_reducible refine Below.alloc ?_ ?_ _); rotate_left; focus (first | omega | (simp; done) | (simp; omega)))))⟩
  · go_enter Tryd.func19, Tryd.ntmps19
    have hb0 : (n == 0) = false := by simp [h0]
    go_wp2_with fail
    go_loopw [3, 4, 5] (fun o v d wr => ∃ (x : Int) (out : ByteArray), o = .string out ∧ v = .int .i64 x ∧ I64 x ∧ numRest x.natAbs ++ out.data.toList = numRest n.natAbs ∧ Below w.heap.size w wr) (fun _ v _ _ => (intOf v).natAbs)
    case atStart => exact ⟨n, ⟨#[]⟩, rfl, rfl, hn, by simp, by (repeat (first | with_reducible assumption | with_reducible exact Below.refl _ _ | with_reducible refine Below.drew ?_ | with_reducible refine belowDrewN ?_ _ | ((with_reducible refine Below.setCell ?_ ?_ _); rotate_left; focus (first | omega | (simp; done) | (simp; omega))) | ((with_reducible refine Below.alloc ?_ ?_ _); rotate_left; focus (first | omega | (simp; done) | (simp; omega)))))⟩
    case round =>
      obtain ⟨x, out, rfl, rfl, hx, hr, hb⟩ := hrel
      by_cases hx0 : x = 0
      · subst hx0
        have ho : out.data.toList = numRest n.natAbs := by simpa [numRest_zero] using hr
        have hl := Lib.itoa_length_le n hn.1 hn.2
        have hos : out.data.toList.length = out.size := rfl
        clear hr
        by_cases hneg : n < 0
        · have hi := itoa_neg' hneg
          rw [hi, ← ho] at hl
          simp only [List.length_cons] at hl
          have hns : ¬ (9223372036854775807 < 1 + out.size) := by omega
          have hadd := byteAdd 45 _ out ho
          have HO := Lib.hid ho; clear ho; have HI := Lib.hid hi; clear hi; have HL := Lib.hid hl; clear hl; have HADD := Lib.hid hadd; clear hadd
          go_wp2_with fail
          go_ret
          exact ⟨by rw [HI.out, ← HADD.out]; rfl, hb⟩
        · have hi := itoa_pos h0 hneg
          have HO := Lib.hid ho; clear ho; have HI := Lib.hid hi; clear hi; have HL := Lib.hid hl; clear hl
          go_wp2_with fail
          go_ret
          exact ⟨by rw [HI.out, ← HO.out]; rfl, hb⟩
      · have hxb : (x == 0) = false := by simp [hx0]
        have hm := Int.natAbs_tmod x 10
        have hd := Int.natAbs_tdiv x 10
        have hst : numRest x.natAbs = numRest (x.natAbs / 10) ++ [dgt x.natAbs] := numRest_step (u := x.natAbs) (by omega)
        have hz := hb.size
        have hdt := digit_toNat x.natAbs
        have hlo : out.size ≤ 25 := by
          have h1 := congrArg List.length hr
          have h2 := Lib.itoa_length_le n hn.1 hn.2
          have h3 : (numRest n.natAbs).length ≤ (Lib.itoa n).length := by
            by_cases hneg : n < 0
            · rw [itoa_neg' hneg]; simp
            · rw [itoa_pos h0 hneg]; exact Nat.le_refl _
          have hos : out.data.toList.length = out.size := rfl
          simp only [List.length_append] at h1
          omega
        have hns : ¬ (9223372036854775807 < 1 + out.size) := by omega
        have hadd := byteAdd (dgt x.natAbs) _ out rfl
        have hm2 : (x.tmod 10).natAbs = x.natAbs % 10 := hm
        have hd2 : (x.tdiv 10).natAbs = x.natAbs / 10 := hd
        have hfin : numRest (x.tdiv 10).natAbs ++ (⟨#[dgt x.natAbs]⟩ ++ out : ByteArray).data.toList = numRest n.natAbs := by
          rw [hd2, hadd, ← hr, hst]; simp
        have hltm : (x.tdiv 10).natAbs < x.natAbs := by omega
        have hI : I64 (x.tdiv 10) := by unfold I64 at hx ⊢; omega
        unfold I64 at hx
        by_cases hneg : x.tmod 10 < 0
        · have hcv := oneByte wr (wrap64 (48 + wrap64 (-x.tmod 10)) % 256) (dgt x.natAbs) (by rw [hdt]; unfold wrap64; omega)
          have HR := Lib.hid hr; clear hr; have HM := Lib.hid hm; clear hm; have HD := Lib.hid hd; clear hd; have HST := Lib.hid hst; clear hst; have HDT := Lib.hid hdt; clear hdt; have HM2 := Lib.hid hm2; clear hm2; have HD2 := Lib.hid hd2; clear hd2; have HADD := Lib.hid hadd; clear hadd; have HLO := Lib.hid hlo; clear hlo; have HFIN := Lib.hid hfin; clear hfin; have HI := Lib.hid hI; clear hI; have HLTM := Lib.hid hltm; clear hltm
          go_wp2_with fail
          go_roundw
          case rel => exact ⟨x.tdiv 10, _, rfl, by go_num, HI.out, HFIN.out, by (repeat (first | with_reducible assumption | with_reducible exact Below.refl _ _ | with_reducible refine Below.drew ?_ | with_reducible refine belowDrewN ?_ _ | ((with_reducible refine Below.setCell ?_ ?_ _); rotate_left; focus (first | omega | (simp; done) | (simp; omega))) | ((with_reducible refine Below.alloc ?_ ?_ _); rotate_left; focus (first | omega | (simp; done) | (simp; omega))) | ((with_reducible refine Below.trans ?_ (Below.mono hb ?_)); rotate_left; focus (first | omega | (simp; done) | (simp; omega)))))⟩
          case measure => exact HLTM.out
        · have hcv := oneByte wr (wrap64 (48 + x.tmod 10) % 256) (dgt x.natAbs) (by rw [hdt]; unfold wrap64; omega)
          have HR := Lib.hid hr; clear hr; have HM := Lib.hid hm; clear hm; have HD := Lib.hid hd; clear hd; have HST := Lib.hid hst; clear hst; have HDT := Lib.hid hdt; clear hdt; have HM2 := Lib.hid hm2; clear hm2; have HD2 := Lib.hid hd2; clear hd2; have HADD := Lib.hid hadd; clear hadd; have HLO := Lib.hid hlo; clear hlo; have HFIN := Lib.hid hfin; clear hfin; have HI := Lib.hid hI; clear hI; have HLTM := Lib.hid hltm; clear hltm
          go_wp2_with fail
          go_roundw
          case rel => exact ⟨x.tdiv 10, _, rfl, by go_num, HI.out, HFIN.out, by (repeat (first | with_reducible assumption | with_reducible exact Below.refl _ _ | with_reducible refine Below.drew ?_ | with_reducible refine belowDrewN ?_ _ | ((with_reducible refine Below.setCell ?_ ?_ _); rotate_left; focus (first | omega | (simp; done) | (simp; omega))) | ((with_reducible refine Below.alloc ?_ ?_ _); rotate_left; focus (first | omega | (simp; done) | (simp; omega))) | ((with_reducible refine Below.trans ?_ (Below.mono hb ?_)); rotate_left; focus (first | omega | (simp; done) | (simp; omega)))))⟩
          case measure => exact HLTM.out
end Go.Proofs.YtghbnehocggnnaaDoor

/-
  Walks: what the law marks and finds marked: numbers, texts. No condition.
-/
set_option linter.unusedVariables false
set_option linter.unusedSimpArgs false
set_option maxRecDepth 100000
namespace Go.Proofs.YtghbnehocggnnaaDoor
open Go.RowKit

def cnt (k : Int) (n : Nat) : List Int := (List.range n).map fun (i : Nat) => k + (i : Int)
theorem cnt_length (k : Int) (n : Nat) : (cnt k n).length = n := by simp [cnt]
theorem cnt_get (k : Int) (n i : Nat) (h : i < n) : (cnt k n)[i]? = some (k + i) := by simp [cnt, h]
theorem cnt_set (k : Int) (l : List Int) (i : Nat) (h : i < l.length) : (cnt k i ++ l.drop i).set i (k + i) = cnt k (i + 1) ++ l.drop (i + 1) := by
  rw [List.set_append, cnt_length, if_neg (by omega), Nat.sub_self, ← List.getElem_cons_drop h, List.set_cons_zero]
  simp [cnt, List.range_succ]

/-- What marking n numbers leaves. -/
def MarkedI (a : Option Addr) (cap n : Nat) (k : Int) (lo : Nat) (w : World) (e : Ending) (w' : World) : Prop :=
  e = .returned (.int .i64 (k + n)) ∧ (M.sl a cap 1 3 (intM (cnt k n))).Mine w' lo ∧ Only (addrBlocks a) w w'

def strM (l : List ByteArray) : List M := l.map fun n => .c (.string n)
theorem strM_length (l : List ByteArray) : (strM l).length = l.length := by simp [strM]
theorem strM_append (l r : List ByteArray) : strM (l ++ r) = strM l ++ strM r := by simp [strM]
theorem strM_blocks (l : List ByteArray) : M.blocksL (strM l) = [] := by
  induction l with
  | nil => rfl
  | cons x r ih => simp only [strM, List.map_cons, M.blocksL, M.blocks, List.nil_append]; exact ih
theorem strM_cells (l : List ByteArray) : M.cellsL (strM l) = l.map Value.string := by
  induction l with
  | nil => rfl
  | cons x r ih => simp only [strM, List.map_cons, M.cellsL, M.cells, List.singleton_append]; exact congrArg _ ih
theorem Strs.elem {w : World} {a : Option Addr} {cap : Nat} {e : TypeId} {l : List ByteArray} (h : (M.sl a cap 1 e (strM l)).In w) (k : Nat) (hk : k < l.length) :
    ∃ b off x, a = some ⟨b, off, none⟩ ∧ l[k]? = some x ∧ w.cell? ⟨b, off + k, none⟩ = some (.string x) := by
  have hk' : k < (strM l).length := by rw [strM_length]; exact hk
  obtain ⟨b, off, ha, hel⟩ := h.elem (by omega)
  refine ⟨b, off, l[k], ha, List.getElem?_eq_getElem hk, ?_⟩
  have := hel k hk' 0 (.string l[k]) (by simp [strM, M.cells])
  simpa using this
theorem Strs.len {w : World} {a : Option Addr} {cap : Nat} {e : TypeId} {l : List ByteArray} (h : (M.sl a cap 1 e (strM l)).In w) : l.length ≤ cap ∧ cap ≤ 9223372036854775807 := by
  have := h.len
  rwa [strM_length] at this
theorem Strs.set {w : World} {lo g cap : Nat} {e : TypeId} {l : List ByteArray} (h : (M.sl (some ⟨g, 0, none⟩) cap 1 e (strM l)).Mine w lo) (k : Nat) (hk : k < l.length) (x : ByteArray) :
    (M.sl (some ⟨g, 0, none⟩) cap 1 e (strM (l.set k x))).Mine (w.setCell ⟨g, k, none⟩ (.string x)) lo := by
  have := h.setElem k (by rw [strM_length]; exact hk) (.c (.string x)) rfl (M.Mine.c rfl) (by simp [M.blocks])
  simp only [M.cells, setCells, Nat.mul_one] at this
  rwa [show strM (l.set k x) = (strM l).set k (.c (.string x)) by simp [strM, List.map_set]]
def eqLS (l r : List ByteArray) : Bool := decide (l = r)
theorem eqLS_iff (l r : List ByteArray) : eqLS l r = true ↔ l = r := by simp [eqLS]

def scnt (k : Int) (n : Nat) : List ByteArray := (List.range n).map fun (i : Nat) => mtx (k + (i : Int))
theorem scnt_length (k : Int) (n : Nat) : (scnt k n).length = n := by simp [scnt]
theorem scnt_get (k : Int) (n i : Nat) (h : i < n) : (scnt k n)[i]? = some (mtx (k + i)) := by simp [scnt, h]
theorem scnt_set (k : Int) (l : List ByteArray) (i : Nat) (h : i < l.length) : (scnt k i ++ l.drop i).set i (mtx (k + i)) = scnt k (i + 1) ++ l.drop (i + 1) := by
  rw [List.set_append, scnt_length, if_neg (by omega), Nat.sub_self, ← List.getElem_cons_drop h, List.set_cons_zero]
  simp [scnt, List.range_succ]
def MarkedS (a : Option Addr) (cap n : Nat) (k : Int) (lo : Nat) (w : World) (e : Ending) (w' : World) : Prop :=
  e = .returned (.int .i64 (k + n)) ∧ (M.sl a cap 1 9 (strM (scnt k n))).Mine w' lo ∧ Only (addrBlocks a) w w'

end Go.Proofs.YtghbnehocggnnaaDoor

/-
  Lists of texts that a call builds. No condition.
-/
set_option linter.unusedVariables false
set_option linter.unusedSimpArgs false
set_option maxRecDepth 100000
namespace Go.Proofs.YtghbnehocggnnaaDoor
open Go.RowKit

theorem infoS : (Tryd.prog.info? 9).map (fun i => (i.zero, i.size, i.bytes)) = some (some (.string ⟨#[]⟩), 1, 16) := by kernel_rfl
theorem strM_snoc (l : List ByteArray) (n : ByteArray) : strM l ++ [.c (.string n)] = strM (l ++ [n]) := by simp [strM]
theorem Strs.nil (w : World) (lo : Nat) : (M.sl none 0 1 9 (strM [])).Mine w lo := M.Mine.nil _ _ _ _ (by decide)
/-- the empty literal '[]string{}' -/
theorem Strs.lit (w : World) (lo : Nat) (h : lo ≤ w.heap.size) : (M.sl (some ⟨w.heap.size, 0, none⟩) 0 1 9 (strM [])).Mine (w.alloc (.cells #[] 9)) lo :=
  M.Mine.new rfl h rfl (by decide) (by simp [strM]) (by simp [maxLen]) ⟨trivial, by simp [strM, M.blocksL]⟩
/-- 'out = append(out, s)' -/
theorem wpStrs_push {P : Program} {wr w1 : World} {ops : Array Oper} {rest : List Oper} {o : Oper} {act : Act} {Q : Exit → Act → World → Prop} (hgd : o.guard = none) (s x : Operand) (t : TypeId)
    (ho : o.op = .call { callee := .builtin .append, args := #[s, x], argTypes := #[t, t] })
    (e : TypeId) (z : Value) (ht : P.underlying t = some (.slice e)) (hinfo : (P.info? e).map (fun i => (i.zero, i.size, i.bytes)) = some (some z, 1, 16)) (hzs : z.cells.size = 1)
    (lo : Nat) (a : Option Addr) (cap : Nat) (xs : List ByteArray) (hs : act.eval s = .slice a xs.length cap) (hrow : (M.sl a cap 1 e (strM xs)).Mine wr lo) (hlo : lo ≤ wr.heap.size) (hb : Below wr.heap.size wr w1)
    (n : ByteArray) (hx : act.eval x = .slice (some ⟨w1.heap.size, 0, none⟩) 1 1) (hB : xs.length ≤ 1000000000)
    (k : ∀ a' cap' w', (M.sl a' cap' 1 e (strM (xs ++ [n]))).Mine w' lo → Below lo w1 w' → w1.heap.size ≤ w'.heap.size → (∀ b, b < w1.heap.size → b ∉ addrBlocks a → w'.heap[b]? = w1.heap[b]?) →
      wpList P ops Q rest (act.put o.dst (.slice a' (xs ++ [n]).length cap')) w') : wpList P ops Q (o :: rest) act (w1.alloc (.cells #[.string n] e)) := by
  refine wpList_push hgd s x t ho e z 1 16 ht hinfo hzs (by decide) lo a cap (strM xs) (by rw [strM_length]; exact hs) hrow hlo hb #[.string n] (.c (.string n)) rfl rfl wr.heap.size (M.Mine.c rfl) (Nat.le_refl _) hx (by rw [strM_length]; unfold maxLen; omega) (by rw [strM_length]; omega) ?_
  intro a' cap' w' h1 h2 h3 h4
  rw [strM_snoc] at h1
  rw [strM_length]
  have := k a' cap' w' h1 h2 h3 h4
  simpa using this
end Go.Proofs.YtghbnehocggnnaaDoor

/-
  Walks: the program's measure of a datum. No condition.
-/
set_option linter.unusedVariables false
set_option linter.unusedSimpArgs false
set_option maxRecDepth 100000
namespace Go.Proofs.YtghbnehocggnnaaDoor
open Go.RowKit

def MsOk (k n : Int) (s : ByteArray) (ds : List Dat) (D C : Int) : Prop := D + Dat.depthL ds ≤ 20 ∧ C + 1 + Dat.countL ds ≤ 600 ∧ (Dat.mk k n s ds).ok
def RetMs (ok : Prop) (C : Int) (m : Nat) (pb : Nat) (w : World) (e : Ending) (w' : World) : Prop :=
  ∃ (b : Bool) (C' : Int), e = .returned (.bool b) ∧ (b = true ↔ ok) ∧ (b = true → C' = C + m) ∧ C ≤ C' ∧ C' ≤ C + m ∧ w'.cell? ⟨pb, 0, none⟩ = some (.int .i64 C') ∧ w'.frozen? ⟨pb, 0, none⟩ = false ∧ OnlyIn pb (pb + 1) w w'
def MsDs (ds : List Dat) : Prop := ∀ (k n : Int) (s : ByteArray) (a : Option Addr) (cap : Nat) (ms : List M) (D : Int) (pb : Nat) (C : Int) (w0 w : World), (Dat.mk k n s ds).wf → Dat.countL ds ≤ 1000000000 → Dat.IsL 40 ds ms → (M.sl a cap 4 40 ms).In w0 →
    Below w0.heap.size w0 w → w0.heap.size ≤ pb → 0 ≤ D → D ≤ 1000000000 → 0 ≤ C → C ≤ 1000000000 → w.cell? ⟨pb, 0, none⟩ = some (.int .i64 C) → w.frozen? ⟨pb, 0, none⟩ = false →
    Calls Tryd.prog 51 #[.agg #[.int .i64 k, .int .i64 n, .string s, .slice a ms.length cap], .int .i64 D, .pointer (some ⟨pb, 0, none⟩)] w (RetMs (MsOk k n s ds D C) C (1 + Dat.countL ds) pb w)
theorem measure_calls : ∀ ds, MsDs ds := by
  refine Dat.inductL fun ds ih => ?_
  intro k n s a cap ms D pb C w0 w hwf hB hi hin hb0 hpb hD0 hD9 hC0 hC9 hp hpf
  have hl := hi.length
  have hcap := hin.len
  have hpw := World.block_lt_of_cell? w _ hp
  simp only at hpw
  have hs : s.size ≤ 9223372036854775807 := hwf.2.2.1
  have hwl := hwf.2.2.2
  have hok : MsOk k n s ds D C ↔ D + Dat.depthL ds ≤ 20 ∧ C + 1 + Dat.countL ds ≤ 600 ∧ nodeB k n s ms.length = true ∧ ∀ d ∈ ds, d.ok := by unfold MsOk; rw [Dat.ok_mk, ← hl]
  clear hwf
  have ho1 : OnlyIn pb (pb + 1) w (w.setCell ⟨pb, 0, none⟩ (.int .i64 (C + 1))) := (OnlyIn.refl pb (pb + 1) w).set ⟨pb, 0, none⟩ _ (Nat.le_refl _) (Nat.lt_succ_self _)
  by_cases hdeep : 20 < D
  · have hno : ¬ MsOk k n s ds D C := fun h => by have := h.1; omega
    have IH := Lib.hid ih; clear ih; have HIN := Lib.hid hin; clear hin; have HI := Lib.hid hi; clear hi; have HL := Lib.hid hl; clear hl; have HWL := Lib.hid hwl; clear hwl; have HOK := Lib.hid hok; clear hok; have HNO := Lib.hid hno; clear hno
    go_enter Tryd.func51, Tryd.ntmps51
    go_wp2_with fail
    go_ret
    refine ⟨false, C + 1, rfl, by simp [HNO.out], by simp, by omega, by omega, ?_, ?_, ?_⟩
    · simp (disch := (first | omega | (simp; omega))) [go_sem, hp]
    · simp (disch := (first | omega | (simp; omega))) [go_sem, hpf]
    · first | exact ho1 | exact ho1.new _
  · by_cases hmany : 600 < C + 1
    · have hno : ¬ MsOk k n s ds D C := fun h => by have := h.2.1; omega
      have IH := Lib.hid ih; clear ih; have HIN := Lib.hid hin; clear hin; have HI := Lib.hid hi; clear hi; have HL := Lib.hid hl; clear hl; have HWL := Lib.hid hwl; clear hwl; have HOK := Lib.hid hok; clear hok; have HNO := Lib.hid hno; clear hno
      go_enter Tryd.func51, Tryd.ntmps51
      go_wp2_with fail
      go_ret
      refine ⟨false, C + 1, rfl, by simp [HNO.out], by simp, by omega, by omega, ?_, ?_, ?_⟩
      · simp (disch := (first | omega | (simp; omega))) [go_sem, hp]
      · simp (disch := (first | omega | (simp; omega))) [go_sem, hpf]
      · first | exact ho1 | exact ho1.new _
    · cases hnode : nodeB k n s ms.length with
      | false =>
        have hno : ¬ MsOk k n s ds D C := fun h => by rw [hok, hnode] at h; simp at h
        have IH := Lib.hid ih; clear ih; have HIN := Lib.hid hin; clear hin; have HI := Lib.hid hi; clear hi; have HL := Lib.hid hl; clear hl; have HWL := Lib.hid hwl; clear hwl; have HOK := Lib.hid hok; clear hok; have HNO := Lib.hid hno; clear hno
        go_enter Tryd.func51, Tryd.ntmps51
        go_wp2_with fail
        refine (rightNode_calls k n s ms.length _ hs).mono ?_
        rintro e w1 ⟨rfl, rfl⟩
        go_wp2_with fail
        go_ret
        refine ⟨false, C + 1, rfl, by simp [HNO.out], by simp, by omega, by omega, ?_, ?_, ?_⟩
        · simp (disch := (first | omega | (simp; omega))) [go_sem, hp]
        · simp (disch := (first | omega | (simp; omega))) [go_sem, hpf]
        · first | exact ho1 | exact ho1.new _
      | true =>
        have IH := Lib.hid ih; clear ih; have HIN := Lib.hid hin; clear hin; have HI := Lib.hid hi; clear hi; have HL := Lib.hid hl; clear hl; have HWL := Lib.hid hwl; clear hwl; have HOK := Lib.hid hok; clear hok
        go_enter Tryd.func51, Tryd.ntmps51
        go_wp2_with fail
        refine (rightNode_calls k n s ms.length _ hs).mono ?_
        rintro e w1 ⟨rfl, rfl⟩
        go_wp2_with fail
        have hs' : (w.setCell ⟨pb, 0, none⟩ (.int .i64 (C + 1))).heap.size = w.heap.size := by simp
        go_loopw [38] (fun i wr => ∃ (j : Nat), j ≤ ms.length ∧ i = .int .i64 j ∧ D + Dat.depthL (ds.take j) ≤ 20 ∧ C + 1 + Dat.countL (ds.take j) ≤ 600 ∧ (∀ x ∈ ds.take j, x.ok) ∧ (wr.cell? ⟨pb, 0, none⟩ = some (.int .i64 (C + 1 + Dat.countL (ds.take j))) ∧ wr.frozen? ⟨pb, 0, none⟩ = false) ∧ OnlyIn pb (pb + 1) w wr ∧ w.heap.size + 1 ≤ wr.heap.size) (fun i _ => ms.length - (intOf i).toNat)
        case atStart =>
          refine ⟨0, Nat.zero_le _, rfl, by simp [Dat.depthL]; omega, by simp [Dat.countL]; omega, by simp, ?_, ho1.new _, by simp⟩
          simp (disch := (first | omega | (simp; omega))) [go_sem, hp, hpf, Dat.countL]
        case round =>
          obtain ⟨j, hj, rfl, hdp, hct, hpre, ⟨q, qf⟩, ho, hsz⟩ := hrel
          have hbz := ho.low hb0 hpb
          by_cases hlt : j < ms.length
          · obtain ⟨b, off, k1, n1, s1, ds1, a1, cap1, ms1, rfl, hd, hi1, hin1, c0, c1, c2, c3⟩ := Dat.elem HIN.out HI.out j hlt
            have hbl := World.block_lt_of_cell? w0 _ c0
            simp only at hbl
            have e0 := (hbz.cell (p := ⟨b, _, none⟩) hbl).trans c0
            have e1 := (hbz.cell (p := ⟨b, _, none⟩) hbl).trans c1
            have e2 := (hbz.cell (p := ⟨b, _, none⟩) hbl).trans c2
            have e3 := (hbz.cell (p := ⟨b, _, none⟩) hbl).trans c3
            clear c0 c1 c2 c3
            obtain ⟨ht, hle⟩ := Dat.countL_le ds j _ hd
            have htd := Dat.depthL_take hd
            have hgd := Dat.depthL_get hd
            have hw1 := Dat.wfL_get HWL.out hd
            have hmem := List.mem_of_getElem? hd
            simp only [Dat.count] at hle ht
            simp only [Dat.depth] at htd hgd
            have hD20 : D ≤ 20 := by omega
            have hbx := hbz.alloc (by first | exact hbz.size | omega) (.cells #[.int .i64 k1, .int .i64 n1, .string s1, .slice a1 ms1.length cap1] 40)
            generalize hCe : C + 1 + (Dat.countL (ds.take j) : Int) = C1 at *
            have hC1 : 0 ≤ C1 := by omega
            have hpr : pb < wr.heap.size := by omega
            have q1 : (wr.alloc (.cells #[.int .i64 k1, .int .i64 n1, .string s1, .slice a1 ms1.length cap1] 40)).cell? ⟨pb, 0, none⟩ = some (.int .i64 C1) := by simp (disch := (first | omega | (simp; omega))) [go_sem, q]
            have q1f : (wr.alloc (.cells #[.int .i64 k1, .int .i64 n1, .string s1, .slice a1 ms1.length cap1] 40)).frozen? ⟨pb, 0, none⟩ = false := by simp (disch := (first | omega | (simp; omega))) [go_sem, qf]
            have HD := Lib.hid hd; clear hd; have HI1 := Lib.hid hi1; clear hi1; have HIN1 := Lib.hid hin1; clear hin1; have HMEM := Lib.hid hmem; clear hmem; have HT := Lib.hid ht; clear ht; have HTD := Lib.hid htd; clear htd; have HGD := Lib.hid hgd; clear hgd; have HW1 := Lib.hid hw1; clear hw1; have HB0 := Lib.hid hb0; clear hb0; have HBZ := Lib.hid hbz; clear hbz; have HO := Lib.hid ho; clear ho; have HBX := Lib.hid hbx; clear hbx; have HPRE := Lib.hid hpre; clear hpre; have HCE := Lib.hid hCe; clear hCe; have Q1 := Lib.hid q1; clear q1; have Q1F := Lib.hid q1f; clear q1f
            go_wp2_with fail
            refine (IH.out k1 n1 s1 ds1 HMEM.out k1 n1 s1 a1 cap1 ms1 (D + 1) pb C1 w0 _ HW1.out (by omega) HI1.out HIN1.out HBX.out hpb (by omega) (by omega) hC1 (by omega) Q1.out Q1F.out).mono ?_
            rintro e w1 ⟨bb, C', rfl, hbb, hbc, hlo, hhi, q', qf', ho2⟩
            have hof := (HO.out.new (.cells #[.int .i64 k1, .int .i64 n1, .string s1, .slice a1 ms1.length cap1] 40)).trans ho2
            have hz2 := ho2.size
            simp only [World.size_alloc] at hz2
            cases bb with
            | true =>
              obtain ⟨m1, m2, m3⟩ := hbb.1 rfl
              have hcc := hbc rfl
              have hpre2 := ok_take HPRE.out HD.out m3
              have hdp2 : D + (Dat.depthL (ds.take (j + 1)) : Int) ≤ 20 := by rw [HTD.out]; omega
              have hct2 : C + 1 + (Dat.countL (ds.take (j + 1)) : Int) = C' := by rw [HT.out, hcc, ← HCE.out]; push_cast; omega
              have HOF := Lib.hid hof; clear hof; have HO2 := Lib.hid ho2; clear ho2; have HPRE2 := Lib.hid hpre2; clear hpre2; have HDP2 := Lib.hid hdp2; clear hdp2; have HBB := Lib.hid hbb; clear hbb; have HBC := Lib.hid hbc; clear hbc; have HCC := Lib.hid hcc; clear hcc; have M3 := Lib.hid m3; clear m3
              go_wp2_with fail
              go_roundw
              case rel => exact ⟨j + 1, by omega, by go_num, HDP2.out, by rw [hct2]; have := HCC.out; omega, HPRE2.out, ⟨by rw [hct2]; exact q', qf'⟩, HOF.out, by omega⟩
              case measure => simp [intOf]; omega
            | false =>
              have hno : ¬ MsOk k n s ds D C := fun h => by
                have h' := HOK.out.1 h
                have : ¬ MsOk k1 n1 s1 ds1 (D + 1) C1 := fun h2 => by have := hbb.2 h2; simp at this
                apply this
                refine ⟨?_, ?_, h'.2.2.2 _ HMEM.out⟩
                · have := HGD.out; omega
                · have := HCE.out; omega
              have hcl : C + ((1 + Dat.countL ds : Nat) : Int) = C + 1 + Dat.countL ds := by push_cast; omega
              have hce := HCE.out
              have HOF := Lib.hid hof; clear hof; have HO2 := Lib.hid ho2; clear ho2; have HBB := Lib.hid hbb; clear hbb; have HBC := Lib.hid hbc; clear hbc; have HNO := Lib.hid hno; clear hno
              go_wp2_with fail
              go_ret
              exact ⟨false, C', rfl, by simp [HNO.out], by simp, by omega, by push_cast at hhi ⊢; omega, q', qf', HOF.out⟩
          · have hk2 : j = ms.length := by omega
            subst hk2
            have hd2 : ds.take ms.length = ds := by rw [HL.out, List.take_length]
            rw [hd2] at q hdp hct hpre
            have hyes : MsOk k n s ds D C := HOK.out.2 ⟨hdp, hct, hnode, hpre⟩
            have HO := Lib.hid ho; clear ho; have HBZ := Lib.hid hbz; clear hbz; have HD2 := Lib.hid hd2; clear hd2; have HYES := Lib.hid hyes; clear hyes; have HPRE := Lib.hid hpre; clear hpre
            go_wp2_with fail
            go_ret
            exact ⟨true, _, rfl, by simp [HYES.out], fun _ => rfl, by push_cast; omega, Int.le_refl _, by rw [q]; congr 2; push_cast; omega, qf, HO.out⟩
end Go.Proofs.YtghbnehocggnnaaDoor

/-
  Walks: IsDatum. No condition.
-/
set_option linter.unusedVariables false
set_option linter.unusedSimpArgs false
set_option maxRecDepth 100000
namespace Go.Proofs.YtghbnehocggnnaaDoor
open Go.RowKit

def IsDatP (k n : Int) (s : ByteArray) (ds : List Dat) : Prop := 1 + Dat.countL ds ≤ 600 ∧ 1 + Dat.depthL ds ≤ 20 ∧ (Dat.mk k n s ds).ok
open Classical in
noncomputable def isDatB (k n : Int) (s : ByteArray) (ds : List Dat) : Bool := decide (IsDatP k n s ds)
theorem isDatB_yes {k n : Int} {s : ByteArray} {ds : List Dat} (h : IsDatP k n s ds) : isDatB k n s ds = true := by simp [isDatB, h]
theorem isDatB_no {k n : Int} {s : ByteArray} {ds : List Dat} (h : ¬ IsDatP k n s ds) : isDatB k n s ds = false := by simp [isDatB, h]

theorem sIsDatum_calls (k n : Int) (s : ByteArray) (ds : List Dat) (a : Option Addr) (cap : Nat) (ms : List M) (w : World) (hwf : (Dat.mk k n s ds).wf) (hB : Dat.countL ds ≤ 1000000000) (hi : Dat.IsL 40 ds ms) (hin : (M.sl a cap 4 40 ms).In w) :
    Calls Tryd.prog 30 #[.agg #[.int .i64 k, .int .i64 n, .string s, .slice a ms.length cap]] w (Ret (.bool (isDatB k n s ds)) w) := by
  have hdl := Dat.depthL_le ds
  have HI := Lib.hid hi; clear hi; have HIN := Lib.hid hin; clear hin; have HWF := Lib.hid hwf; clear hwf
  go_enter Tryd.func30, Tryd.ntmps30
  go_wp2_with fail
  refine (l1Few_calls ds k n s a cap ms (w.heap.size + 1) 600 w _ hB HI.out HIN.out (by (repeat (first | with_reducible assumption | with_reducible exact Below.refl _ _ | with_reducible refine Below.drew ?_ | with_reducible refine belowDrewN ?_ _ | ((with_reducible refine Below.setCell ?_ ?_ _); rotate_left; focus (first | omega | (simp; done) | (simp; omega))) | ((with_reducible refine Below.alloc ?_ ?_ _); rotate_left; focus (first | omega | (simp; done) | (simp; omega)))))) (by omega) (by omega) (by omega) (by simp [go_sem]) (by simp [go_sem])).mono ?_
  rintro e w1 ⟨rfl, q', qf', ho1⟩
  obtain ⟨hc1, hf1⟩ := ocell ho1
  have hz1 := ho1.size
  simp only [World.size_alloc] at hz1 hc1
  have hb1 : Below w.heap.size w w1 := ho1.low (by (repeat (first | with_reducible assumption | with_reducible exact Below.refl _ _ | with_reducible refine Below.drew ?_ | with_reducible refine belowDrewN ?_ _ | ((with_reducible refine Below.setCell ?_ ?_ _); rotate_left; focus (first | omega | (simp; done) | (simp; omega))) | ((with_reducible refine Below.alloc ?_ ?_ _); rotate_left; focus (first | omega | (simp; done) | (simp; omega)))))) (by omega)
  have q0 : w1.cell? ⟨w.heap.size, 0, none⟩ = some (.int .i64 k) := by rw [hc1 _ _ (by omega) (by omega)]; simp [go_sem]
  have q1 : w1.cell? ⟨w.heap.size, 1, none⟩ = some (.int .i64 n) := by rw [hc1 _ _ (by omega) (by omega)]; simp [go_sem]
  have q2 : w1.cell? ⟨w.heap.size, 2, none⟩ = some (.string s) := by rw [hc1 _ _ (by omega) (by omega)]; simp [go_sem]
  have q3 : w1.cell? ⟨w.heap.size, 3, none⟩ = some (.slice a ms.length cap) := by rw [hc1 _ _ (by omega) (by omega)]; simp [go_sem]
  clear hc1 hf1
  have HO1 := Lib.hid ho1; clear ho1
  by_cases hfew : ((1 + Dat.countL ds : Nat) : Int) ≤ 600
  · have hpos : 0 ≤ few 600 (1 + Dat.countL ds) := by rw [few_pos hfew]; omega
    go_wp2_with fail
    refine (sDepthOf_calls ds k n s a cap ms _ (by omega) HI.out (HIN.out.below hb1)).mono ?_
    rintro e w2 ⟨rfl, hb2⟩
    obtain ⟨hc2, hf2⟩ := bcell hb2; have hz2 := hb2.size; (try simp only [World.size_alloc, World.size_setCell, World.size_drew, sizeDrewN] at hz2 hc2 hf2)
    have q0' := (hc2 _ _ (by omega)).trans q0
    have q1' := (hc2 _ _ (by omega)).trans q1
    have q2' := (hc2 _ _ (by omega)).trans q2
    have q3' := (hc2 _ _ (by omega)).trans q3
    by_cases hdp : ((1 + Dat.depthL ds : Nat) : Int) ≤ 20
    · go_wp2_with fail
      refine (l1Nodes_calls ds k n s a cap ms _ HWF.out HI.out (HIN.out.below (by (repeat (first | with_reducible assumption | with_reducible exact Below.refl _ _ | with_reducible refine Below.drew ?_ | with_reducible refine belowDrewN ?_ _ | ((with_reducible refine Below.setCell ?_ ?_ _); rotate_left; focus (first | omega | (simp; done) | (simp; omega))) | ((with_reducible refine Below.alloc ?_ ?_ _); rotate_left; focus (first | omega | (simp; done) | (simp; omega))) | ((with_reducible refine Below.trans ?_ (Below.mono hb1 ?_)); rotate_left; focus (first | omega | (simp; done) | (simp; omega))) | ((with_reducible refine Below.trans ?_ (Below.mono hb2 ?_)); rotate_left; focus (first | omega | (simp; done) | (simp; omega)))))))).mono ?_
      rintro e w3 ⟨rfl, hb3⟩
      obtain ⟨hc3, hf3⟩ := bcell hb3; have hz3 := hb3.size; (try simp only [World.size_alloc, World.size_setCell, World.size_drew, sizeDrewN] at hz3 hc3 hf3)
      have hv : (Dat.mk k n s ds).okB = isDatB k n s ds := by
        cases hq : (Dat.mk k n s ds).okB with
        | true => exact (isDatB_yes ⟨by omega, by omega, Dat.okB_true.1 hq⟩).symm
        | false => exact (isDatB_no fun h => Dat.okB_false.1 hq h.2.2).symm
      go_wp2_with fail
      go_ret
      exact ⟨rfl, by (repeat (first | with_reducible assumption | with_reducible exact Below.refl _ _ | with_reducible refine Below.drew ?_ | with_reducible refine belowDrewN ?_ _ | ((with_reducible refine Below.setCell ?_ ?_ _); rotate_left; focus (first | omega | (simp; done) | (simp; omega))) | ((with_reducible refine Below.alloc ?_ ?_ _); rotate_left; focus (first | omega | (simp; done) | (simp; omega))) | ((with_reducible refine Below.trans ?_ (Below.mono hb1 ?_)); rotate_left; focus (first | omega | (simp; done) | (simp; omega))) | ((with_reducible refine Below.trans ?_ (Below.mono hb2 ?_)); rotate_left; focus (first | omega | (simp; done) | (simp; omega))) | ((with_reducible refine Below.trans ?_ (Below.mono hb3 ?_)); rotate_left; focus (first | omega | (simp; done) | (simp; omega)))))⟩
    · have hno := isDatB_no (k := k) (n := n) (s := s) (ds := ds) fun h => hdp (by have := h.2.1; omega)
      have HNO := Lib.hid hno; clear hno
      go_wp2_with fail
      go_ret
      exact ⟨ret_b HNO.out.symm, by (repeat (first | with_reducible assumption | with_reducible exact Below.refl _ _ | with_reducible refine Below.drew ?_ | with_reducible refine belowDrewN ?_ _ | ((with_reducible refine Below.setCell ?_ ?_ _); rotate_left; focus (first | omega | (simp; done) | (simp; omega))) | ((with_reducible refine Below.alloc ?_ ?_ _); rotate_left; focus (first | omega | (simp; done) | (simp; omega))) | ((with_reducible refine Below.trans ?_ (Below.mono hb1 ?_)); rotate_left; focus (first | omega | (simp; done) | (simp; omega))) | ((with_reducible refine Below.trans ?_ (Below.mono hb2 ?_)); rotate_left; focus (first | omega | (simp; done) | (simp; omega)))))⟩
  · have hneg : ¬ 0 ≤ few 600 (1 + Dat.countL ds) := by rw [few_neg hfew]; omega
    have hno := isDatB_no (k := k) (n := n) (s := s) (ds := ds) fun h => hfew (by have := h.1; omega)
    have HNO := Lib.hid hno; clear hno
    go_wp2_with fail
    go_ret
    exact ⟨ret_b HNO.out.symm, by (repeat (first | with_reducible assumption | with_reducible exact Below.refl _ _ | with_reducible refine Below.drew ?_ | with_reducible refine belowDrewN ?_ _ | ((with_reducible refine Below.setCell ?_ ?_ _); rotate_left; focus (first | omega | (simp; done) | (simp; omega))) | ((with_reducible refine Below.alloc ?_ ?_ _); rotate_left; focus (first | omega | (simp; done) | (simp; omega))) | ((with_reducible refine Below.trans ?_ (Below.mono hb1 ?_)); rotate_left; focus (first | omega | (simp; done) | (simp; omega)))))⟩
end Go.Proofs.YtghbnehocggnnaaDoor

/-
  Walks: the reference's text of a datum. No condition.
-/
set_option linter.unusedVariables false
set_option linter.unusedSimpArgs false
set_option maxRecDepth 100000
namespace Go.Proofs.YtghbnehocggnnaaDoor
open Go.RowKit

/-- texts as strings -/
def tx (l : List (List UInt8)) : List ByteArray := l.map fun x => ⟨x.toArray⟩
theorem tx_length (l : List (List UInt8)) : (tx l).length = l.length := by simp [tx]
theorem tx_snoc (l : List (List UInt8)) (x : List UInt8) : tx l ++ [⟨x.toArray⟩] = tx (l ++ [x]) := by simp [tx]
theorem tx_get {l : List (List UInt8)} {k : Nat} {b : ByteArray} (h : (tx l)[k]? = some b) : ∃ x, l[k]? = some x ∧ b = ⟨x.toArray⟩ := by
  simp only [tx, List.getElem?_map, Option.map_eq_some_iff] at h
  obtain ⟨x, hx, rfl⟩ := h
  exact ⟨x, hx, rfl⟩
theorem baOf {b : ByteArray} {l : List UInt8} (h : b.data.toList = l) : b = ⟨l.toArray⟩ := by subst h; rfl
theorem baApp (a b : List UInt8) : (⟨a.toArray⟩ ++ ⟨b.toArray⟩ : ByteArray) = ⟨(a ++ b).toArray⟩ := ByteArray.mk_append_mk a b
theorem sum_take_le (f : List UInt8 → Nat) : ∀ (l : List (List UInt8)) (k : Nat), ((l.take k).map f).sum ≤ (l.map f).sum
  | [], k => by simp
  | a :: r, 0 => by simp
  | a :: r, k + 1 => by have := sum_take_le f r k; rw [List.take_succ_cons, List.map_cons, List.map_cons, List.sum_cons, List.sum_cons]; omega
theorem join_take_le (sep : List UInt8) (l : List (List UInt8)) (k : Nat) : (joinB sep (l.take k)).length ≤ (l.map fun x => x.length + sep.length).sum :=
  Nat.le_trans (joinB_length sep _) (sum_take_le _ _ _)
theorem elem_le : ∀ {l : List (List UInt8)} {k : Nat} {x : List UInt8} (f : List UInt8 → Nat), l[k]? = some x → f x ≤ (l.map f).sum
  | [], k, x, f, h => by simp at h
  | a :: r, 0, x, f, h => by simp at h; subst h; simp
  | a :: r, k + 1, x, f, h => by have := elem_le f (l := r) (k := k) (by simpa using h); rw [List.map_cons, List.sum_cons]; omega
set_option maxHeartbeats 1000000 in
theorem l1Join_calls (a : Option Addr) (cap : Nat) (l : List (List UInt8)) (sep : List UInt8) (w : World) (h : (M.sl a cap 1 9 (strM (tx l))).In w) (hB : (l.map fun x => x.length + sep.length).sum ≤ 1000000000000) (hS : sep.length ≤ 1000) :
    Calls Tryd.prog 43 #[.slice a (tx l).length cap, .string ⟨sep.toArray⟩] w (RetEq (.string ⟨(joinB sep l).toArray⟩) w) := by
  have hl := Strs.len h
  have hn := tx_length l
  have H := Lib.hid h; clear h
  go_enter Tryd.func43, Tryd.ntmps43
  go_wp2_with fail
  go_loopw [5, 6, 7, 10] (fun o u v i wr => ∃ (k : Nat), k ≤ l.length ∧ i = .int .i64 k ∧ o = .string ⟨(joinB sep (l.take k)).toArray⟩ ∧ wr = w) (fun _ _ _ i _ => l.length - (intOf i).toNat)
  case atStart => exact ⟨0, Nat.zero_le _, rfl, by simp [joinB], rfl⟩
  case round =>
    obtain ⟨k, hk, rfl, rfl, rfl⟩ := hrel
    by_cases hlt : k < l.length
    · obtain ⟨b, off, x0, rfl, hx, hc⟩ := Strs.elem H.out k (by omega)
      obtain ⟨x, hx', rfl⟩ := tx_get hx
      have h1 := join_take_le sep l k
      have h2 : x.length + sep.length ≤ _ := elem_le (fun x => x.length + sep.length) hx'
      have hsn := joinB_snoc sep (l.take k) x
      rw [← take_snoc hx'] at hsn
      clear hx
      generalize hcur : joinB sep (l.take k) = cur at *
      generalize hnxt : joinB sep (l.take (k + 1)) = nxt at *
      by_cases hk0 : k = 0
      · subst hk0
        (try rw [Nat.add_zero] at hc)
        have hc0 : cur = [] := by rw [← hcur]; simp [joinB]
        subst hc0
        have hfin : nxt = [] ++ x := by simpa using hsn
        have hns : ¬ (9223372036854775807 < x.length) := by omega
        have hap := baApp [] x
        have HSN := Lib.hid hsn; clear hsn; have HCUR := Lib.hid hcur; clear hcur; have HNXT := Lib.hid hnxt; clear hnxt; have HFIN := Lib.hid hfin; clear hfin; have H1 := Lib.hid h1; clear h1; have H2 := Lib.hid h2; clear h2; have HX' := Lib.hid hx'; clear hx'; have HAP := Lib.hid hap; clear hap
        go_wp2_with fail

        go_roundw
        case rel => exact ⟨0 + 1, by omega, by go_num, by rw [HNXT.out, HFIN.out, ← HAP.out], by first | rfl | trivial⟩
        case measure => simp [intOf]; omega
      · have hne : (l.take k).isEmpty = false := by
          cases l with
          | nil => simp at hlt
          | cons y r => cases k with
            | zero => exact absurd rfl hk0
            | succ k => simp
        have hfin : nxt = (cur ++ sep) ++ x := by rw [hsn, hne]; simp
        have hpos : 0 < k := by omega
        have hns1 : ¬ (9223372036854775807 < cur.length + sep.length) := by omega
        have hns2 : ¬ (9223372036854775807 < cur.length + sep.length + x.length) := by omega
        have hap1 := baApp cur sep
        have hap2 := baApp (cur ++ sep) x
        have HSN := Lib.hid hsn; clear hsn; have HCUR := Lib.hid hcur; clear hcur; have HNXT := Lib.hid hnxt; clear hnxt; have HFIN := Lib.hid hfin; clear hfin; have H1 := Lib.hid h1; clear h1; have H2 := Lib.hid h2; clear h2; have HX' := Lib.hid hx'; clear hx'; have HNE := Lib.hid hne; clear hne; have HAP1 := Lib.hid hap1; clear hap1; have HAP2 := Lib.hid hap2; clear hap2
        go_wp2_with fail
        go_roundw
        case rel => exact ⟨k + 1, by omega, by go_num, by rw [HNXT.out, HFIN.out, ← HAP2.out, ← HAP1.out], by first | rfl | trivial⟩
        case measure => simp [intOf]; omega
    · have hk2 : k = l.length := by omega
      subst hk2
      rw [List.take_length]
      go_wp2_with fail
      go_ret
      exact ⟨rfl, rfl⟩
end Go.Proofs.YtghbnehocggnnaaDoor

/-
  Walks: the reference's text of a datum, continued. No condition.
-/
set_option linter.unusedVariables false
set_option linter.unusedSimpArgs false
set_option maxRecDepth 100000
namespace Go.Proofs.YtghbnehocggnnaaDoor
open Go.RowKit

theorem Dat.wt_le : ∀ {ds : List Dat} {k : Nat} {d : Dat}, ds[k]? = some d → d.wt ≤ Dat.wtX ds
  | [], k, d, h => by simp at h
  | x :: r, 0, d, h => by simp at h; subst h; simp [Dat.wtX]
  | x :: r, k + 1, d, h => by have := Dat.wt_le (ds := r) (k := k) (by simpa using h); simp only [Dat.wtX]; omega
theorem baId (s : ByteArray) : (⟨s.data.toList.toArray⟩ : ByteArray) = s := by cases s; simp
theorem baWrap (a b : UInt8) (l : List UInt8) : (⟨#[a]⟩ ++ ⟨l.toArray⟩ ++ ⟨#[b]⟩ : ByteArray) = ⟨(a :: (l ++ [b])).toArray⟩ := by
  apply ByteArray.ext; simp [ByteArray.data_append]
theorem baWrap' (a b : UInt8) (s : ByteArray) : (⟨#[a]⟩ ++ s ++ ⟨#[b]⟩ : ByteArray) = ⟨(a :: (s.data.toList ++ [b])).toArray⟩ := by
  rw [← baWrap, baId]
theorem ok_bool {n : Int} {s : ByteArray} {ds : List Dat} (h : (Dat.mk 3 n s ds).ok) : n = 0 ∨ n = 1 := by
  have h1 := (Dat.ok_mk.1 h).1
  rw [nodeB, if_neg (by decide), if_neg (by decide), if_neg (by decide), if_pos rfl] at h1
  simp only [inB, Bool.and_eq_true, decide_eq_true_eq] at h1
  omega
def FmtSs (ds : List Dat) : Prop := ∀ (k n : Int) (s : ByteArray) (a : Option Addr) (cap : Nat) (ms : List M) (w : World), (Dat.mk k n s ds).wf → (Dat.mk k n s ds).ok → s.size + (ds.length + Dat.wtX ds) ≤ 2000000 → Dat.IsL 40 ds ms → (M.sl a cap 4 40 ms).In w →
    Calls Tryd.prog 58 #[.agg #[.int .i64 k, .int .i64 n, .string s, .slice a ms.length cap]] w (Ret (.string ⟨(fmtD (.mk k n s ds)).toArray⟩) w)
set_option maxHeartbeats 1000000 in
theorem l1Format_calls : ∀ ds, FmtSs ds := by
  refine Dat.inductL fun ds ih => ?_
  intro k n s a cap ms w hwf hok hB hi hin
  have hl := hi.length
  have hcap := hin.len
  have hwd : I64 n ∧ Dat.wfL ds := ⟨hwf.2.1, hwf.2.2.2⟩
  have hsum := fmt_wt ds hwd.2
  have hitems := (Dat.ok_mk.1 hok).2
  have IH := Lib.hid ih; clear ih; have HIN := Lib.hid hin; clear hin; have HI := Lib.hid hi; clear hi; have HL := Lib.hid hl; clear hl; have HWF := Lib.hid hwf; clear hwf; have HWD := Lib.hid hwd; clear hwd; have HSUM := Lib.hid hsum; clear hsum; have HITEMS := Lib.hid hitems; clear hitems
  by_cases h1 : k = 1
  · subst h1
    have hf := fmtD_sym n s ds
    have HF := Lib.hid hf; clear hf; have HOK := Lib.hid hok; clear hok
    go_enter Tryd.func58, Tryd.ntmps58
    go_wp2_with fail
    go_ret
    exact ⟨by rw [HF.out]; first | rfl | (simp; done), by (repeat (first | with_reducible assumption | with_reducible exact Below.refl _ _ | with_reducible refine Below.drew ?_ | with_reducible refine belowDrewN ?_ _ | ((with_reducible refine Below.setCell ?_ ?_ _); rotate_left; focus (first | omega | (simp; done) | (simp; omega))) | ((with_reducible refine Below.alloc ?_ ?_ _); rotate_left; focus (first | omega | (simp; done) | (simp; omega)))))⟩
  by_cases h2 : k = 2
  · subst h2
    have hf := fmtD_num n s ds
    have HF := Lib.hid hf; clear hf; have HOK := Lib.hid hok; clear hok
    go_enter Tryd.func58, Tryd.ntmps58
    go_wp2_with fail
    refine (sFormatNumber_calls n _ HWD.out.1).mono ?_
    rintro e w1 ⟨rfl, hb1⟩
    go_wp2_with fail
    go_ret
    exact ⟨by rw [HF.out]; rfl, by (repeat (first | with_reducible assumption | with_reducible exact Below.refl _ _ | with_reducible refine Below.drew ?_ | with_reducible refine belowDrewN ?_ _ | ((with_reducible refine Below.setCell ?_ ?_ _); rotate_left; focus (first | omega | (simp; done) | (simp; omega))) | ((with_reducible refine Below.alloc ?_ ?_ _); rotate_left; focus (first | omega | (simp; done) | (simp; omega))) | ((with_reducible refine Below.trans ?_ (Below.mono hb1 ?_)); rotate_left; focus (first | omega | (simp; done) | (simp; omega)))))⟩
  by_cases h3 : k = 3
  · subst h3
    rcases ok_bool hok with rfl | rfl
    · have hf := fmtD_fa (show (0 : Int) ≠ 1 by decide) s ds
      have HF := Lib.hid hf; clear hf; have HOK := Lib.hid hok; clear hok
      go_enter Tryd.func58, Tryd.ntmps58
      go_wp2_with fail
      go_ret
      exact ⟨by rw [HF.out]; rfl, by (repeat (first | with_reducible assumption | with_reducible exact Below.refl _ _ | with_reducible refine Below.drew ?_ | with_reducible refine belowDrewN ?_ _ | ((with_reducible refine Below.setCell ?_ ?_ _); rotate_left; focus (first | omega | (simp; done) | (simp; omega))) | ((with_reducible refine Below.alloc ?_ ?_ _); rotate_left; focus (first | omega | (simp; done) | (simp; omega)))))⟩
    · have hf := fmtD_tr s ds
      have HF := Lib.hid hf; clear hf; have HOK := Lib.hid hok; clear hok
      go_enter Tryd.func58, Tryd.ntmps58
      go_wp2_with fail
      go_ret
      exact ⟨by rw [HF.out]; rfl, by (repeat (first | with_reducible assumption | with_reducible exact Below.refl _ _ | with_reducible refine Below.drew ?_ | with_reducible refine belowDrewN ?_ _ | ((with_reducible refine Below.setCell ?_ ?_ _); rotate_left; focus (first | omega | (simp; done) | (simp; omega))) | ((with_reducible refine Below.alloc ?_ ?_ _); rotate_left; focus (first | omega | (simp; done) | (simp; omega)))))⟩
  by_cases h4 : k = 4
  · subst h4
    have hf := fmtD_str n s ds
    have hwr := baWrap' 34 34 s
    have hns1 : ¬ (9223372036854775807 < 1 + s.size) := by omega
    have hns2 : ¬ (9223372036854775807 < 1 + s.size + 1) := by omega
    have HF := Lib.hid hf; clear hf; have HOK := Lib.hid hok; clear hok; have HWR := Lib.hid hwr; clear hwr
    go_enter Tryd.func58, Tryd.ntmps58
    go_wp2_with fail
    go_ret
    exact ⟨by rw [HF.out, ← HWR.out]; rfl, by (repeat (first | with_reducible assumption | with_reducible exact Below.refl _ _ | with_reducible refine Below.drew ?_ | with_reducible refine belowDrewN ?_ _ | ((with_reducible refine Below.setCell ?_ ?_ _); rotate_left; focus (first | omega | (simp; done) | (simp; omega))) | ((with_reducible refine Below.alloc ?_ ?_ _); rotate_left; focus (first | omega | (simp; done) | (simp; omega)))))⟩
  · have hf := fmtD_list h1 h2 h3 h4 n s ds
    have e1 : (k == 1) = false := by simp [h1]
    have e2 : (k == 2) = false := by simp [h2]
    have e3 : (k == 3) = false := by simp [h3]
    have e4 : (k == 4) = false := by simp [h4]
    have HF := Lib.hid hf; clear hf; have HOK := Lib.hid hok; clear hok
    clear h1 h2 h3 h4
    go_enter Tryd.func58, Tryd.ntmps58
    go_wp2_with fail
    go_loopw [3, 34] (fun t i wr => ∃ (j : Nat) (a' : Option Addr) (cap' : Nat), j ≤ ms.length ∧ i = .int .i64 j ∧ t = .slice a' (tx (fmtL (ds.take j))).length cap' ∧ (M.sl a' cap' 1 9 (strM (tx (fmtL (ds.take j))))).Mine wr w.heap.size ∧ Below w.heap.size w wr) (fun _ i _ => ms.length - (intOf i).toNat)
    case atStart => exact ⟨0, some ⟨w.heap.size + 1, 0, none⟩, 0, Nat.zero_le _, rfl, by simp [tx, fmtL], by rw [List.take_zero]; have h := Strs.lit (w.alloc (.cells #[.int .i64 k, .int .i64 n, .string s, .slice a ms.length cap] 40)) w.heap.size (by simp); simpa [tx, fmtL] using h, by (repeat (first | with_reducible assumption | with_reducible exact Below.refl _ _ | with_reducible refine Below.drew ?_ | with_reducible refine belowDrewN ?_ _ | ((with_reducible refine Below.setCell ?_ ?_ _); rotate_left; focus (first | omega | (simp; done) | (simp; omega))) | ((with_reducible refine Below.alloc ?_ ?_ _); rotate_left; focus (first | omega | (simp; done) | (simp; omega)))))⟩
    case round =>
      obtain ⟨j, a', cap', hj, rfl, rfl, hm', hb⟩ := hrel
      have hz := hb.size
      by_cases hlt : j < ms.length
      · obtain ⟨bb, off, k1, n1, s1, ds1, a1, cap1, ms1, rfl, hd, hi1, hin1, c0, c1, c2, c3⟩ := Dat.elem (HIN.out.below hb) HI.out j hlt
        have hmem := List.mem_of_getElem? hd
        have hwt1 := Dat.wt_le hd
        simp only [Dat.wt] at hwt1
        have hft := fmtL_take hd
        have hln := fmtL_length (ds.take j)
        have hlj : (ds.take j).length ≤ j := by simp; omega
        generalize hcur : fmtL (ds.take j) = cur at *
        have HD := Lib.hid hd; clear hd; have HI1 := Lib.hid hi1; clear hi1; have HIN1 := Lib.hid hin1; clear hin1; have HM' := Lib.hid hm'; clear hm'; have HMEM := Lib.hid hmem; clear hmem; have HFT := Lib.hid hft; clear hft; have HCUR := Lib.hid hcur; clear hcur
        go_wp2_with fail
        refine (IH.out k1 n1 s1 ds1 HMEM.out k1 n1 s1 a1 cap1 ms1 _ (Dat.wfL_get HWD.out.2 HD.out) (HITEMS.out _ HMEM.out) (by omega) HI1.out (HIN1.out.below (by (repeat (first | with_reducible assumption | with_reducible exact Below.refl _ _ | with_reducible refine Below.drew ?_ | with_reducible refine belowDrewN ?_ _ | ((with_reducible refine Below.setCell ?_ ?_ _); rotate_left; focus (first | omega | (simp; done) | (simp; omega))) | ((with_reducible refine Below.alloc ?_ ?_ _); rotate_left; focus (first | omega | (simp; done) | (simp; omega)))))))).mono ?_
        rintro e w1 ⟨rfl, hb1⟩
        have htx := tx_length cur
        have hsn := tx_snoc cur (fmtD (.mk k1 n1 s1 ds1))
        have HTX := Lib.hid htx; clear htx; have HSN := Lib.hid hsn; clear hsn; have HLN := Lib.hid hln; clear hln; have HLJ := Lib.hid hlj; clear hlj
        go_wp2_with (at_builtin; refine wpStrs_push (wr := wr) rfl _ _ 46 rfl 9 _ Tryd.underlying46 infoS rfl w.heap.size a' cap' (tx cur) rfl HM'.out hz (by (repeat (first | with_reducible assumption | with_reducible exact Below.refl _ _ | with_reducible refine Below.drew ?_ | with_reducible refine belowDrewN ?_ _ | ((with_reducible refine Below.setCell ?_ ?_ _); rotate_left; focus (first | omega | (simp; done) | (simp; omega))) | ((with_reducible refine Below.alloc ?_ ?_ _); rotate_left; focus (first | omega | (simp; done) | (simp; omega))) | ((with_reducible refine Below.trans ?_ (Below.mono hb1 ?_)); rotate_left; focus (first | omega | (simp; done) | (simp; omega)))))) ⟨(fmtD (.mk k1 n1 s1 ds1)).toArray⟩ (by simp [go_sem]) (by have := HTX.out; have := HLN.out; have := HLJ.out; have := HL.out; omega) ?_)
        intro a3 cap3 w3 hm3 hb3 hz3 hk3
        rw [HSN.out] at hm3
        have hlen : (tx cur).length + 1 = (tx (cur ++ [fmtD (.mk k1 n1 s1 ds1)])).length := by simp [tx]
        have HM3 := Lib.hid hm3; clear hm3; have HLEN := Lib.hid hlen; clear hlen
        go_wp2_with fail
        go_roundw
        case rel => exact ⟨j + 1, a3, cap3, by omega, by go_num, by rw [HFT.out, ← HLEN.out], by rw [HFT.out]; exact HM3.out, by (repeat (first | with_reducible assumption | with_reducible exact Below.refl _ _ | with_reducible refine Below.drew ?_ | with_reducible refine belowDrewN ?_ _ | ((with_reducible refine Below.setCell ?_ ?_ _); rotate_left; focus (first | omega | (simp; done) | (simp; omega))) | ((with_reducible refine Below.alloc ?_ ?_ _); rotate_left; focus (first | omega | (simp; done) | (simp; omega))) | ((with_reducible refine Below.trans ?_ (Below.mono hb1 ?_)); rotate_left; focus (first | omega | (simp; done) | (simp; omega))) | ((with_reducible refine Below.trans ?_ (Below.mono hb3 ?_)); rotate_left; focus (first | omega | (simp; done) | (simp; omega)))))⟩
        case measure => simp [intOf]; omega
      · have hk2 : j = ms.length := by omega
        subst hk2
        rw [HL.out, List.take_length] at hm'
        rw [HL.out, List.take_length]
        have hjl := joinB_length [32] (fmtL ds)
        simp only [List.length_singleton] at hjl
        have hs2 := HSUM.out
        have hns1 : ¬ (9223372036854775807 < 1 + (joinB [32] (fmtL ds)).length) := by omega
        have hns2 : ¬ (9223372036854775807 < 1 + (joinB [32] (fmtL ds)).length + 1) := by omega
        have hbd : ((fmtL ds).map fun x => x.length + [(32 : UInt8)].length).sum ≤ 1000000000000 := by simp only [List.length_singleton]; omega
        have hwr := baWrap 40 41 (joinB [32] (fmtL ds))
        have HM' := Lib.hid hm'; clear hm'; have HBD := Lib.hid hbd; clear hbd; have HWR := Lib.hid hwr; clear hwr; have HJL := Lib.hid hjl; clear hjl; have HS2 := Lib.hid hs2; clear hs2
        go_wp2_with fail
        refine (l1Join_calls a' cap' (fmtL ds) [32] _ (HM'.out.in_.below (by (repeat (first | with_reducible assumption | with_reducible exact Below.refl _ _ | with_reducible refine Below.drew ?_ | with_reducible refine belowDrewN ?_ _ | ((with_reducible refine Below.setCell ?_ ?_ _); rotate_left; focus (first | omega | (simp; done) | (simp; omega))) | ((with_reducible refine Below.alloc ?_ ?_ _); rotate_left; focus (first | omega | (simp; done) | (simp; omega))))))) HBD.out (by decide)).mono ?_
        rintro e w1 ⟨rfl, rfl⟩
        go_wp2_with fail
        go_ret
        exact ⟨by rw [HF.out, ← HWR.out]; rfl, by (repeat (first | with_reducible assumption | with_reducible exact Below.refl _ _ | with_reducible refine Below.drew ?_ | with_reducible refine belowDrewN ?_ _ | ((with_reducible refine Below.setCell ?_ ?_ _); rotate_left; focus (first | omega | (simp; done) | (simp; omega))) | ((with_reducible refine Below.alloc ?_ ?_ _); rotate_left; focus (first | omega | (simp; done) | (simp; omega)))))⟩
end Go.Proofs.YtghbnehocggnnaaDoor

/-
  Rows of bytes that a call builds: append of bytes and of texts, what is read back. No condition.
-/
set_option linter.unusedVariables false
set_option linter.unusedSimpArgs false
set_option maxRecDepth 100000
namespace Go.Proofs.YtghbnehocggnnaaDoor
open Go.RowKit

theorem infoB : (Tryd.prog.info? 5).map (fun i => (i.zero, i.size, i.bytes)) = some (some (.int .u8 0), 1, 1) := by kernel_rfl
/-- a row of bytes of one's own, from block lo on -/
def Bts (lo : Nat) (w : World) (v : Value) (l : List UInt8) : Prop := w.ownsRow lo 5 1 v l.length (Lib.byteCells l)
theorem Bts.nil (lo : Nat) (w : World) : Bts lo w (.slice none 0 0) [] := World.ownsRow_nil _ _ _ _
theorem Bts.below {lo : Nat} {w w' : World} {v : Value} {l : List UInt8} (h : Bts lo w v l) (hb : Below w.heap.size w w') : Bts lo w' v l := by
  refine ⟨h.1, ?_⟩
  rcases h.2 with h0 | ⟨g, cap, cur, rfl, h1, h2, h3⟩
  · exact .inl h0
  · exact .inr ⟨g, cap, cur, rfl, h1, by rw [hb.block g (Array.getElem?_eq_some_iff.1 h2).1]; exact h2, h3⟩
theorem Bts.alloc {lo : Nat} {w : World} {v : Value} {l : List UInt8} (h : Bts lo w v l) (o : Obj) : Bts lo (w.alloc o) v l := World.ownsRow.alloc h o
theorem Bts.drew {lo : Nat} {w : World} {v : Value} {l : List UInt8} (h : Bts lo w v l) : Bts lo w.drew v l := h
/-- what the row reads as -/
theorem Bts.str {lo : Nat} {w : World} {v : Value} {l : List UInt8} (h : Bts lo w v l) : (convert 31 9 v).run Tryd.prog w = .ok (.string ⟨l.toArray⟩) w := by
  rcases h.2 with ⟨rfl, h0⟩ | ⟨g, cap, cur, rfl, h1, h2, h3, h4, h5, h6⟩
  · obtain rfl : l = [] := List.length_eq_zero_iff.1 h0
    exact Lib.run_convert_nil_bytes w 31 9 5 0 Tryd.underlying31 Tryd.underlying5 Tryd.underlying9
  · refine run_convert_bytes_back (P := Tryd.prog) w 31 9 5 ⟨g, 0, none⟩ cap l Tryd.underlying31 Tryd.underlying5 Tryd.underlying9 (fun j hj => ?_)
    have h7 : (cur.toList.take (l.length * 1))[j]? = (Lib.byteCells l)[j]? := by rw [h6]
    rw [List.getElem?_take, if_pos (by omega)] at h7
    have h8 : cur[j]? = some (.int .u8 (l[j].toNat : Int)) := by
      rw [← Array.getElem?_toList, h7]; simp [Lib.byteCells, hj]
    unfold World.cell?
    rw [addr_add, Nat.zero_add]
    simp [h2, h8]
/-- the two frames: what lies below lo, and what is no row of bytes -/
def Kb (lo : Nat) (w w' : World) : Prop := Below lo w w' ∧ Lib.OthersKept 5 none w w'
theorem Kb.refl (lo : Nat) (w : World) : Kb lo w w := ⟨Below.refl _ _, Lib.OthersKept.refl _ _ _⟩
theorem Kb.trans {lo : Nat} {a b c : World} (h : Kb lo a b) (k : Kb lo b c) : Kb lo a c := ⟨h.1.trans k.1, h.2.trans k.2⟩
theorem Kb.size {lo : Nat} {a b : World} (h : Kb lo a b) : a.heap.size ≤ b.heap.size := h.1.size
theorem Kb.alloc {lo : Nat} {a w : World} (h : Kb lo a w) (hl : lo ≤ w.heap.size) (o : Obj) : Kb lo a (w.alloc o) := ⟨h.1.alloc hl o, h.2.alloc o⟩
theorem Kb.drew {lo : Nat} {a w : World} (h : Kb lo a w) : Kb lo a w.drew := ⟨h.1.drew, h.2.drew⟩
theorem Kb.of {lo : Nat} {a b : World} (h : Below a.heap.size a b) (hl : lo ≤ a.heap.size) : Kb lo a b :=
  ⟨h.mono hl, fun k o hk _ _ => (h.block k (Array.getElem?_eq_some_iff.1 hk).1).trans hk⟩
/-- a datum's box is no row of bytes -/
theorem Kb.dbox {lo : Nat} {a b : World} {c : Nat} {k n : Int} {s : ByteArray} {v : Value} (h : Kb lo a b) (hc : a.heap[c]? = some (.cells #[.int .i64 k, .int .i64 n, .string s, v] 40)) (hd : DBox c k n s v a) : DBox c k n s v b :=
  hd.of ((h.2 c _ hc (by simp) (by intro c fz h; injection h with h1 h2 h3; exact absurd h2 (by decide))).trans hc.symm)
/-- append(out, s...) -/
theorem wpBts_str {ops : Array Oper} {rest : List Oper} {o : Oper} {act : Act} {Q : Exit → Act → World → Prop} {W : World} (hgd : o.guard = none) (sl x : Operand) (ho : o.op = .call { callee := .builtin .append, args := #[sl, x], argTypes := #[31, 9] })
    (lo : Nat) (v : Value) (l : List UInt8) (hs : act.eval sl = v) (h : Bts lo W v l) (s : ByteArray) (hx : act.eval x = .string s) (hB : l.length + s.size ≤ 100000000000000) (hlo : lo ≤ W.heap.size) (l' : List UInt8) (hl' : l' = l ++ s.data.toList)
    (k : ∀ v' w', Bts lo w' v' l' → Kb lo W w' → wpList Tryd.prog ops Q rest (act.put o.dst v') w') : wpList Tryd.prog ops Q (o :: rest) act W := by
  subst hl'
  obtain ⟨i0, hi, hz0, hz1, hz2⟩ := info_parts infoB
  refine Lib.wpList_append_own_string W hgd sl x 31 9 ho lo 5 i0 Tryd.underlying31 Tryd.underlying9 hi hz0 hz1 hz2 v l.length _ hs h s hx (by unfold maxLen; omega) (by omega) hlo ?_
  intro v' w' h1 h2 _
  have hk : ∀ g, v.ownBlock = some g → lo ≤ g := by
    intro g hg
    rcases h.2 with ⟨rfl, _⟩ | ⟨g', cap, cur, rfl, h3, _⟩
    · cases hg
    · simp [Value.ownBlock] at hg; omega
  refine k v' w' ?_ ⟨(Below.refl lo W).grown h2 hlo hk, (Lib.OthersKept.refl _ _ _).grown h2 (Lib.ownsRow_kind h)⟩
  unfold Bts
  have e1 : (l ++ s.data.toList).length = l.length + s.size := by rw [List.length_append]; rfl
  have e2 : Lib.byteCells (l ++ s.data.toList) = Lib.byteCells l ++ Lib.strCells s := by rw [Lib.byteCells_append]; rfl
  rw [e1, e2]
  exact h1
/-- append(out, 'c') -/
theorem wpBts_byte {ops : Array Oper} {rest : List Oper} {o : Oper} {act : Act} {Q : Exit → Act → World → Prop} {W : World} (hgd : o.guard = none) (sl x : Operand) (ho : o.op = .call { callee := .builtin .append, args := #[sl, x], argTypes := #[31, 31] })
    (lo : Nat) (v : Value) (l : List UInt8) (hs : act.eval sl = v) (h : Bts lo W v l) (b : UInt8) (c : Int) (hc : c = (b.toNat : Int)) (hx : act.eval x = .slice (some ⟨W.heap.size, 0, none⟩) 1 1) (hB : l.length + 1 ≤ 100000000000000) (hlo : lo ≤ W.heap.size) (l' : List UInt8) (hl' : l' = l ++ [b])
    (k : ∀ v' w', Bts lo w' v' l' → Kb lo W w' → wpList Tryd.prog ops Q rest (act.put o.dst v') w') : wpList Tryd.prog ops Q (o :: rest) act (W.alloc (.cells #[.int .u8 c] 5)) := by
  subst hl'
  obtain ⟨i0, hi, hz0, hz1, hz2⟩ := info_parts infoB
  have hA := h.alloc (.cells #[.int .u8 c] 5)
  refine wpList_append_own _ hgd sl x 31 ho lo 5 i0 (.int .u8 0) 1 1 Tryd.underlying31 hi hz0 hz1 hz2 rfl (by decide) v l.length _ hs hA ⟨W.heap.size, 0, none⟩ 1 1 [.int .u8 c] hx rfl (by intro j u hj; match j, hj with | 0, hj => simp at hj; subst hj; simp [Addr.add]) (by intro u hu; simp at hu; subst hu; rfl) (by unfold maxLen; omega) (by omega) (by simp; omega) ?_
  intro v' w' h1 h2 _
  have hk : ∀ g, v.ownBlock = some g → lo ≤ g := by
    intro g hg
    rcases h.2 with ⟨rfl, _⟩ | ⟨g', cap, cur, rfl, h3, _⟩
    · cases hg
    · simp [Value.ownBlock] at hg; omega
  refine k v' w' ?_ ⟨((Below.refl lo W).alloc hlo _).grown h2 (by simp; omega) hk, ((Lib.OthersKept.refl _ _ _).alloc _).grown h2 (Lib.ownsRow_kind hA)⟩
  unfold Bts
  have e1 : (l ++ [b]).length = l.length + 1 := by simp
  have e2 : Lib.byteCells (l ++ [b]) = Lib.byteCells l ++ [.int .u8 c] := by rw [Lib.byteCells_append, hc]; rfl
  rw [e1, e2]
  exact h1
/-- a row of bytes is handed back -/
def RetB (lo : Nat) (l : List UInt8) (w : World) (e : Ending) (w' : World) : Prop := ∃ v, e = .returned v ∧ Bts lo w' v l ∧ Kb lo w w'
end Go.Proofs.YtghbnehocggnnaaDoor

/-
  Walks: the program's text of a datum. Condition: the library's table of powers of ten reads as laid.
-/
set_option linter.unusedVariables false
set_option linter.unusedSimpArgs false
set_option maxRecDepth 100000
namespace Go.Proofs.YtghbnehocggnnaaDoor
open Go.RowKit

theorem heapBox (w : World) (o : Obj) : (w.alloc o).heap[w.heap.size]? = some o := by
  show (w.heap.push o)[w.heap.size]? = _
  simp
theorem Dat.wfL_iff {ds : List Dat} : Dat.wfL ds ↔ ∀ d ∈ ds, d.wf := by
  induction ds with
  | nil => simp [Dat.wfL]
  | cons d r ih => simp [Dat.wfL, ih]
theorem Dat.wfL_take {ds : List Dat} (h : Dat.wfL ds) (j : Nat) : Dat.wfL (ds.take j) := Dat.wfL_iff.2 fun d hd => Dat.wfL_iff.1 h d (List.mem_of_mem_take hd)
theorem Dat.wtX_pre : ∀ {ds : List Dat} {j : Nat} {d : Dat}, ds[j]? = some d → Dat.wtX (ds.take j) + d.wt ≤ Dat.wtX ds
  | [], j, d, h => by simp at h
  | x :: r, 0, d, h => by simp at h; subst h; simp [Dat.wtX]
  | x :: r, j + 1, d, h => by have := Dat.wtX_pre (ds := r) (j := j) (by simpa using h); rw [List.take_succ_cons]; simp only [Dat.wtX]; omega
theorem fmt_step0 (l : List UInt8) {ds : List Dat} {d : Dat} (h : ds[0]? = some d) : l ++ 40 :: joinB [32] (fmtL (ds.take (0 + 1))) = (l ++ 40 :: joinB [32] (fmtL (ds.take 0))) ++ fmtD d := by
  rw [fmtL_take h]; simp [fmtL, joinB]
theorem fmt_step (l : List UInt8) {ds : List Dat} {j : Nat} {d : Dat} (hj : 0 < j) (h : ds[j]? = some d) : l ++ 40 :: joinB [32] (fmtL (ds.take (j + 1))) = ((l ++ 40 :: joinB [32] (fmtL (ds.take j))) ++ [32]) ++ fmtD d := by
  rw [fmtL_take h, joinB_snoc]
  have hne : (fmtL (ds.take j)).isEmpty = false := by
    rw [fmtL_map]
    cases ds with
    | nil => simp at h
    | cons y r => cases j with
      | zero => omega
      | succ j => simp
  rw [hne]; simp
def WdSs (ds : List Dat) : Prop := ∀ (k n : Int) (s : ByteArray) (a : Option Addr) (cap : Nat) (ms : List M) (l : List UInt8) (v : Value) (w0 w : World), (Dat.mk k n s ds).wf → l.length + 60 * (s.size + (ds.length + Dat.wtX ds)) + 100 ≤ 1000000000000 → Dat.IsL 40 ds ms → (M.sl a cap 4 40 ms).In w0 →
    Bts w0.heap.size w v l → Below w0.heap.size w0 w → Tab w0.heap.size w0 →
    Calls Tryd.prog 27 #[v, .agg #[.int .i64 k, .int .i64 n, .string s, .slice a ms.length cap]] w (RetB w0.heap.size (l ++ fmtD (.mk k n s ds)) w)
set_option maxHeartbeats 2000000 in
theorem writeDatum_calls : ∀ ds, WdSs ds := by
  refine Dat.inductL fun ds ih => ?_
  intro k n s a cap ms l v w0 w hwf hB hi hin ho hb0 hT
  have hl := hi.length
  have hcap := hin.len
  have hz0 := hb0.size
  have hwd : I64 n ∧ Dat.wfL ds := ⟨hwf.2.1, hwf.2.2.2⟩
  have hbx : DBox w.heap.size k n s (.slice a ms.length cap) (w.alloc (.cells #[.int .i64 k, .int .i64 n, .string s, .slice a ms.length cap] 40)) := DBox.new _ _ _ _ _
  have hhp : (w.alloc (.cells #[.int .i64 k, .int .i64 n, .string s, .slice a ms.length cap] 40)).heap[w.heap.size]? = some (.cells #[.int .i64 k, .int .i64 n, .string s, .slice a ms.length cap] 40) := heapBox _ _
  have hA := (Kb.refl w0.heap.size w).alloc hz0 (.cells #[.int .i64 k, .int .i64 n, .string s, .slice a ms.length cap] 40)
  have hoA := ho.alloc (.cells #[.int .i64 k, .int .i64 n, .string s, .slice a ms.length cap] 40)
  have IH := Lib.hid ih; clear ih; have HIN := Lib.hid hin; clear hin; have HI := Lib.hid hi; clear hi; have HL := Lib.hid hl; clear hl; have HWF := Lib.hid hwf; clear hwf; have HWD := Lib.hid hwd; clear hwd; have HO := Lib.hid ho; clear ho; have HT := Lib.hid hT; clear hT; have HBX := Lib.hid hbx; clear hbx; have HHP := Lib.hid hhp; clear hhp; have HA := Lib.hid hA; clear hA; have HOA := Lib.hid hoA; clear hoA
  by_cases h1 : k = 1
  · subst h1
    have hf := fmtD_sym n s ds
    have HF := Lib.hid hf; clear hf
    go_enter Tryd.func27, Tryd.ntmps27
    go_wp2_with (at_builtin; refine wpBts_str rfl _ _ rfl w0.heap.size v l rfl HOA.out s rfl (by omega) (by simp; omega) _ (by first | rfl | (simp; done)) ?_)
    intro v3 w3 h3 hk3
    have H3 := Lib.hid h3; clear h3; have HK3 := Lib.hid hk3; clear hk3
    go_wp2_with fail
    go_ret
    exact ⟨v3, rfl, by rw [HF.out]; first | exact H3.out | simpa using H3.out, HA.out.trans HK3.out⟩
  by_cases h2 : k = 2
  · subst h2
    have hf := fmtD_num n s ds
    have HF := Lib.hid hf; clear hf
    go_enter Tryd.func27, Tryd.ntmps27
    go_wp2_with fail
    refine (iFormatNumber_calls n _ HWD.out.1 w0.heap.size (HT.out.on (by (repeat (first | with_reducible assumption | with_reducible exact Below.refl _ _ | with_reducible refine Below.drew ?_ | with_reducible refine belowDrewN ?_ _ | ((with_reducible refine Below.setCell ?_ ?_ _); rotate_left; focus (first | omega | (simp; done) | (simp; omega))) | ((with_reducible refine Below.alloc ?_ ?_ _); rotate_left; focus (first | omega | (simp; done) | (simp; omega))))))) (by simp; omega)).mono ?_
    rintro e w1 ⟨rfl, hb1⟩
    have hz1 := hb1.size
    simp only [World.size_alloc] at hz1
    have hlen := Lib.itoa_length_le n HWD.out.1.1 HWD.out.1.2
    have ho1 := HOA.out.below hb1
    have hk1 := HA.out.trans (Kb.of hb1 (by simp; omega))
    have HO1 := Lib.hid ho1; clear ho1; have HK1 := Lib.hid hk1; clear hk1
    go_wp2_with (at_builtin; refine wpBts_str rfl _ _ rfl w0.heap.size v l rfl HO1.out ⟨(Lib.itoa n).toArray⟩ rfl (by simp [ByteArray.size]; omega) (by omega) _ (by first | rfl | (simp; done)) ?_)
    intro v3 w3 h3 hk3
    have H3 := Lib.hid h3; clear h3; have HK3 := Lib.hid hk3; clear hk3
    go_wp2_with fail
    go_ret
    exact ⟨v3, rfl, by rw [HF.out]; first | exact H3.out | simpa using H3.out, HK1.out.trans HK3.out⟩
  by_cases h3 : k = 3
  · subst h3
    by_cases hn : n = 1
    · subst hn
      have hf := fmtD_tr s ds
      have HF := Lib.hid hf; clear hf
      go_enter Tryd.func27, Tryd.ntmps27
      go_wp2_with (at_builtin; refine wpBts_str rfl _ _ rfl w0.heap.size v l rfl HOA.out ⟨#[35, 116]⟩ rfl (by simp [ByteArray.size]; omega) (by simp; omega) _ (by first | rfl | (simp; done)) ?_)
      intro v3 w3 h3 hk3
      have H3 := Lib.hid h3; clear h3; have HK3 := Lib.hid hk3; clear hk3
      go_wp2_with fail
      go_ret
      exact ⟨v3, rfl, by rw [HF.out]; first | exact H3.out | simpa using H3.out, HA.out.trans HK3.out⟩
    · have hf := fmtD_fa hn s ds
      have hnb : (n == 1) = false := by simp [hn]
      have HF := Lib.hid hf; clear hf; have HN := Lib.hid hn; clear hn
      go_enter Tryd.func27, Tryd.ntmps27
      go_wp2_with (at_builtin; refine wpBts_str rfl _ _ rfl w0.heap.size v l rfl HOA.out ⟨#[35, 102]⟩ rfl (by simp [ByteArray.size]; omega) (by simp; omega) _ (by first | rfl | (simp; done)) ?_)
      intro v3 w3 h3 hk3
      have H3 := Lib.hid h3; clear h3; have HK3 := Lib.hid hk3; clear hk3
      go_wp2_with fail
      go_ret
      exact ⟨v3, rfl, by rw [HF.out]; first | exact H3.out | simpa using H3.out, HA.out.trans HK3.out⟩
  by_cases h4 : k = 4
  · subst h4
    have hf := fmtD_str n s ds
    obtain ⟨L1, hL1⟩ : ∃ L, L = l ++ [34] := ⟨_, rfl⟩
    obtain ⟨L2, hL2⟩ : ∃ L, L = L1 ++ s.data.toList := ⟨_, rfl⟩
    obtain ⟨L3, hL3⟩ : ∃ L, L = L2 ++ [34] := ⟨_, rfl⟩
    have hfl : l ++ (34 :: (s.data.toList ++ [34])) = L3 := by rw [hL3, hL2, hL1]; simp
    have hn1 : L1.length = l.length + 1 := by rw [hL1, List.length_append]; rfl
    have hn2 : L2.length = l.length + 1 + s.size := by rw [hL2, List.length_append, hn1]; rfl
    have HF := Lib.hid hf; clear hf; have HFL := Lib.hid hfl; clear hfl; have HL1 := Lib.hid hL1; clear hL1; have HL2 := Lib.hid hL2; clear hL2; have HL3 := Lib.hid hL3; clear hL3; have HN1 := Lib.hid hn1; clear hn1; have HN2 := Lib.hid hn2; clear hn2
    go_enter Tryd.func27, Tryd.ntmps27
    go_wp2_with (at_builtin; refine wpBts_byte rfl _ _ rfl w0.heap.size v l rfl HOA.out 34 34 rfl (by first | rfl | (simp [go_sem]; done)) (by omega) (by simp; omega) L1 HL1.out ?_)
    intro v3 w3 h3 hk3
    have hz3 := hk3.size
    simp only [World.size_alloc] at hz3
    obtain ⟨q0, q1, q2, q3, f0, f1, f2, f3⟩ := hk3.dbox HHP.out HBX.out
    have H3 := Lib.hid h3; clear h3; have HK3 := Lib.hid hk3; clear hk3
    go_wp2_with (at_builtin; refine wpBts_str rfl _ _ rfl w0.heap.size v3 L1 rfl H3.out s rfl (by have := HN1.out; omega) (by omega) L2 HL2.out ?_)
    intro v5 w5 h5 hk5
    have hz5 := hk5.size
    have H5 := Lib.hid h5; clear h5; have HK5 := Lib.hid hk5; clear hk5
    clear q0 q1 q2 q3 f0 f1 f2 f3
    go_wp2_with (at_builtin; refine wpBts_byte rfl _ _ rfl w0.heap.size v5 L2 rfl H5.out 34 34 rfl (by first | rfl | (simp [go_sem]; done)) (by have := HN2.out; omega) (by omega) L3 HL3.out ?_)
    intro v6 w6 h6 hk6
    have H6 := Lib.hid h6; clear h6; have HK6 := Lib.hid hk6; clear hk6
    go_wp2_with fail
    go_ret
    exact ⟨v6, rfl, by rw [HF.out, HFL.out]; exact H6.out, ((HA.out.trans HK3.out).trans HK5.out).trans HK6.out⟩
  · have hf := fmtD_list h1 h2 h3 h4 n s ds
    have e1 : (k == 1) = false := by simp [h1]
    have e2 : (k == 2) = false := by simp [h2]
    have e3 : (k == 3) = false := by simp [h3]
    have e4 : (k == 4) = false := by simp [h4]
    have HF := Lib.hid hf; clear hf
    clear h1 h2 h3 h4
    go_enter Tryd.func27, Tryd.ntmps27
    go_wp2_with (at_builtin; refine wpBts_byte rfl _ _ rfl w0.heap.size v l rfl HOA.out 40 40 rfl (by first | rfl | (simp [go_sem]; done)) (by omega) (by simp; omega) (l ++ [40]) rfl ?_)
    intro v3 w3 h3 hk3
    have hz3 := hk3.size
    simp only [World.size_alloc] at hz3
    obtain ⟨q0, q1, q2, q3, f0, f1, f2, f3⟩ := hk3.dbox HHP.out HBX.out
    have hk4 := HA.out.trans hk3
    have H3 := Lib.hid h3; clear h3; have HK3 := Lib.hid hk3; clear hk3; have HK4 := Lib.hid hk4; clear hk4
    go_wp2_with fail
    go_loopw [0, 5, 49] (fun o u i wr => ∃ (j : Nat) (v' : Value), j ≤ ms.length ∧ i = .int .i64 j ∧ v' = o ∧ Bts w0.heap.size wr v' (l ++ 40 :: joinB [32] (fmtL (ds.take j))) ∧ Kb w0.heap.size w wr) (fun _ _ i _ => ms.length - (intOf i).toNat)
    case atStart => exact ⟨0, v3, Nat.zero_le _, rfl, rfl, by simpa [fmtL, joinB] using H3.out, HK4.out⟩
    case round =>
      obtain ⟨j, v', hj, rfl, rfl, hbt, hk⟩ := hrel
      have hzk := hk.size
      by_cases hlt : j < ms.length
      · obtain ⟨bb, off, k1, n1, s1, ds1, a1, cap1, ms1, rfl, hd, hi1, hin1, c0, c1, c2, c3⟩ := Dat.elem HIN.out HI.out j hlt
        have hbl := World.block_lt_of_cell? w0 _ c0
        simp only at hbl
        have hbw : Below w0.heap.size w0 wr := hb0.trans hk.1
        have g0 := (hbw.cell (p := ⟨bb, _, none⟩) hbl).trans c0
        have g1 := (hbw.cell (p := ⟨bb, _, none⟩) hbl).trans c1
        have g2 := (hbw.cell (p := ⟨bb, _, none⟩) hbl).trans c2
        have g3 := (hbw.cell (p := ⟨bb, _, none⟩) hbl).trans c3
        clear c0 c1 c2 c3
        have hmem := List.mem_of_getElem? hd
        have hwt := Dat.wtX_pre hd
        have hjl := joinB_length [32] (fmtL (ds.take j))
        have hsum := fmt_wt (ds.take j) (Dat.wfL_take HWD.out.2 j)
        have htl : (ds.take j).length ≤ j := by simp; omega
        simp only [Dat.wt] at hwt
        simp only [List.length_singleton] at hjl
        have hlds := HL.out
        have hll : (l ++ 40 :: joinB [32] (fmtL (ds.take j))).length = l.length + 1 + (joinB [32] (fmtL (ds.take j))).length := by simp; omega
        have hwf1 := Dat.wfL_get HWD.out.2 hd
        have hnx : DBox wr.heap.size k1 n1 s1 (.slice a1 ms1.length cap1) (wr.alloc (.cells #[.int .i64 k1, .int .i64 n1, .string s1, .slice a1 ms1.length cap1] 40)) := DBox.new _ _ _ _ _
        have hnp : (wr.alloc (.cells #[.int .i64 k1, .int .i64 n1, .string s1, .slice a1 ms1.length cap1] 40)).heap[wr.heap.size]? = some (.cells #[.int .i64 k1, .int .i64 n1, .string s1, .slice a1 ms1.length cap1] 40) := heapBox _ _
        have hkA := hk.alloc (by omega) (.cells #[.int .i64 k1, .int .i64 n1, .string s1, .slice a1 ms1.length cap1] 40)
        have hbA := hbt.alloc (.cells #[.int .i64 k1, .int .i64 n1, .string s1, .slice a1 ms1.length cap1] 40)
        by_cases hj0 : j = 0
        · subst hj0
          have hst := fmt_step0 l hd
          simp only [Nat.zero_mul, Nat.add_zero] at g0 g1 g2 g3
          have HD := Lib.hid hd; clear hd; have HI1 := Lib.hid hi1; clear hi1; have HIN1 := Lib.hid hin1; clear hin1; have HBT := Lib.hid hbt; clear hbt; have HMEM := Lib.hid hmem; clear hmem; have HK := Lib.hid hk; clear hk; have HWT := Lib.hid hwt; clear hwt; have HJL := Lib.hid hjl; clear hjl; have HSUM := Lib.hid hsum; clear hsum; have HTL := Lib.hid htl; clear htl; have HLDS := Lib.hid hlds; clear hlds; have HLL := Lib.hid hll; clear hll; have HWF1 := Lib.hid hwf1; clear hwf1; have HNX := Lib.hid hnx; clear hnx; have HNP := Lib.hid hnp; clear hnp; have HKA := Lib.hid hkA; clear hkA; have HBA := Lib.hid hbA; clear hbA; have HST := Lib.hid hst; clear hst; have HBW := Lib.hid hbw; clear hbw
          go_wp2_with fail
          refine (IH.out k1 n1 s1 ds1 HMEM.out k1 n1 s1 a1 cap1 ms1 _ v' w0 _ HWF1.out (by have := HWT.out; have := HLL.out; have := HJL.out; have := HSUM.out; have := HTL.out; have := HLDS.out; omega) HI1.out HIN1.out HBA.out (HBW.out.trans (Below.alloc (Below.refl _ _) (by omega) _)) HT.out).mono ?_
          rintro e w9 ⟨v9, rfl, h9, hk9⟩
          have H9 := Lib.hid h9; clear h9; have HK9 := Lib.hid hk9; clear hk9
          go_wp2_with fail
          go_roundw
          case rel => exact ⟨0 + 1, v9, by omega, by go_num, rfl, by rw [HST.out]; exact H9.out, HKA.out.trans HK9.out⟩
          case measure => simp [intOf]; omega
        · have hpos : 0 < j := by omega
          have hst := fmt_step l hpos hd
          obtain ⟨L7, hL7⟩ : ∃ L, L = (l ++ 40 :: joinB [32] (fmtL (ds.take j))) ++ [32] := ⟨_, rfl⟩
          rw [← hL7] at hst
          have hl7 : L7.length = (l ++ 40 :: joinB [32] (fmtL (ds.take j))).length + 1 := by rw [hL7, List.length_append]; rfl
          have HD := Lib.hid hd; clear hd; have HI1 := Lib.hid hi1; clear hi1; have HIN1 := Lib.hid hin1; clear hin1; have HBT := Lib.hid hbt; clear hbt; have HMEM := Lib.hid hmem; clear hmem; have HK := Lib.hid hk; clear hk; have HWT := Lib.hid hwt; clear hwt; have HJL := Lib.hid hjl; clear hjl; have HSUM := Lib.hid hsum; clear hsum; have HTL := Lib.hid htl; clear htl; have HLDS := Lib.hid hlds; clear hlds; have HLL := Lib.hid hll; clear hll; have HWF1 := Lib.hid hwf1; clear hwf1; have HNX := Lib.hid hnx; clear hnx; have HNP := Lib.hid hnp; clear hnp; have HKA := Lib.hid hkA; clear hkA; have HBA := Lib.hid hbA; clear hbA; have HST := Lib.hid hst; clear hst; have HBW := Lib.hid hbw; clear hbw; have HL7 := Lib.hid hL7; clear hL7; have HL7_ := Lib.hid hl7; clear hl7
          go_wp2_with (at_builtin; refine wpBts_byte rfl _ _ rfl w0.heap.size v' _ rfl HBA.out 32 32 rfl (by first | rfl | (simp [go_sem]; done)) (by have := HWT.out; have := HLL.out; have := HJL.out; have := HSUM.out; have := HTL.out; have := HLDS.out; omega) (by simp; omega) L7 HL7.out ?_)
          intro v7 w7 h7 hk7
          have hz7 := hk7.size
          simp only [World.size_alloc] at hz7
          obtain ⟨r0, r1, r2, r3, m0, m1, m2, m3⟩ := hk7.dbox HNP.out HNX.out
          have hbw7 : Below w0.heap.size w0 w7 := (HBW.out.trans (Below.alloc (Below.refl _ _) (by omega) _)).trans hk7.1
          have H7 := Lib.hid h7; clear h7; have HK7 := Lib.hid hk7; clear hk7; have HBW7 := Lib.hid hbw7; clear hbw7
          go_wp2_with fail
          refine (IH.out k1 n1 s1 ds1 HMEM.out k1 n1 s1 a1 cap1 ms1 _ v7 w0 _ HWF1.out (by have := HL7_.out; have := HWT.out; have := HLL.out; have := HJL.out; have := HSUM.out; have := HTL.out; have := HLDS.out; omega) HI1.out HIN1.out H7.out HBW7.out HT.out).mono ?_
          rintro e w9 ⟨v9, rfl, h9, hk9⟩
          have H9 := Lib.hid h9; clear h9; have HK9 := Lib.hid hk9; clear hk9
          go_wp2_with fail
          go_roundw
          case rel => exact ⟨j + 1, v9, by omega, by go_num, rfl, by rw [HST.out]; exact H9.out, (HKA.out.trans HK7.out).trans HK9.out⟩
          case measure => simp [intOf]; omega
      · have hk2 : j = ms.length := by omega
        subst hk2
        rw [HL.out, List.take_length] at hbt
        have hjl := joinB_length [32] (fmtL ds)
        have hsum := fmt_wt ds HWD.out.2
        simp only [List.length_singleton] at hjl
        have hll : (l ++ 40 :: joinB [32] (fmtL ds)).length = l.length + 1 + (joinB [32] (fmtL ds)).length := by simp; omega
        obtain ⟨L9, hL9⟩ : ∃ L, L = (l ++ 40 :: joinB [32] (fmtL ds)) ++ [41] := ⟨_, rfl⟩
        have hfl : l ++ (40 :: (joinB [32] (fmtL ds) ++ [41])) = L9 := by rw [hL9]; simp
        have HBT := Lib.hid hbt; clear hbt; have HK := Lib.hid hk; clear hk; have HJL := Lib.hid hjl; clear hjl; have HSUM := Lib.hid hsum; clear hsum; have HLL := Lib.hid hll; clear hll; have HFL := Lib.hid hfl; clear hfl; have HL9 := Lib.hid hL9; clear hL9
        go_wp2_with (at_builtin; refine wpBts_byte rfl _ _ rfl w0.heap.size v' _ rfl HBT.out 41 41 rfl (by first | rfl | (simp [go_sem]; done)) (by have := HLL.out; have := HJL.out; have := HSUM.out; omega) (by omega) L9 HL9.out ?_)
        intro v7 w7 h7 hk7
        have H7 := Lib.hid h7; clear h7; have HK7 := Lib.hid hk7; clear hk7
        go_wp2_with fail
        go_ret
        exact ⟨v7, rfl, by rw [HF.out, HFL.out]; exact H7.out, HK.out.trans HK7.out⟩
end Go.Proofs.YtghbnehocggnnaaDoor

/-
  Walks: the text of scopes. Condition: the library's table of powers of ten reads as laid.
-/
set_option linter.unusedVariables false
set_option linter.unusedSimpArgs false
set_option maxRecDepth 100000
namespace Go.Proofs.YtghbnehocggnnaaDoor
open Go.RowKit

/-- the text of scopes -/
def scT (x : List Int) : List UInt8 := if x.isEmpty then [] else 123 :: (joinB [44] (x.map Lib.itoa) ++ [125])
theorem scT_nil : scT [] = [] := rfl
theorem scT_cons {x : List Int} (h : x.isEmpty = false) : scT x = 123 :: (joinB [44] (x.map Lib.itoa) ++ [125]) := by unfold scT; rw [h]; rfl
theorem map_take_snoc {x : List Int} {j : Nat} {n : Int} (h : x[j]? = some n) : (x.take (j + 1)).map Lib.itoa = (x.take j).map Lib.itoa ++ [Lib.itoa n] := by
  rw [take_snoc h, List.map_append]; rfl
theorem itoas_sum : ∀ (x : List Int), (∀ z ∈ x, I64 z) → ((x.map Lib.itoa).map fun y => y.length + 1).sum ≤ 22 * x.length
  | [], _ => by simp
  | z :: r, h => by
    have h1 := itoas_sum r fun y hy => h y (List.mem_cons_of_mem _ hy)
    have h2 := h z (List.mem_cons_self ..)
    have h3 := Lib.itoa_length_le z h2.1 h2.2
    simp only [List.map_cons, List.sum_cons, List.length_cons]; omega
theorem scT_length {x : List Int} (h : ∀ z ∈ x, I64 z) : (scT x).length ≤ 22 * x.length + 2 := by
  unfold scT; split
  · simp
  · have h1 := joinB_length [44] (x.map Lib.itoa)
    have h2 := itoas_sum x h
    simp only [List.length_singleton] at h1
    simp only [List.length_cons, List.length_append, List.length_nil]; omega
/-- what stands before the next scope -/
def scP (l : List UInt8) (x : List Int) : List UInt8 := if x.isEmpty then l else l ++ 123 :: joinB [44] (x.map Lib.itoa)
theorem scP_nil (l : List UInt8) : scP l [] = l := rfl
theorem scP_zero (l : List UInt8) {x : List Int} {n : Int} (h : x[0]? = some n) : scP l (x.take (0 + 1)) = (l ++ [123]) ++ Lib.itoa n := by
  have h1 := take_snoc h
  rw [List.take_zero, List.nil_append] at h1
  rw [h1]; simp [scP, joinB]
theorem scP_step (l : List UInt8) {x : List Int} {j : Nat} {n : Int} (hj : 0 < j) (h : x[j]? = some n) : scP l (x.take (j + 1)) = ((scP l (x.take j)) ++ [44]) ++ Lib.itoa n := by
  have hne : (x.take j).isEmpty = false := by
    cases x with
    | nil => simp at h
    | cons y r => cases j with
      | zero => omega
      | succ j => simp
  have hne2 : ((x.take j).map Lib.itoa).isEmpty = false := by simpa using hne
  have hne3 : (x.take (j + 1)).isEmpty = false := by rw [take_snoc h]; simp
  unfold scP
  rw [hne, hne3]
  simp only [Bool.false_eq_true, if_false]
  rw [map_take_snoc h, joinB_snoc, hne2]; simp
theorem scP_end (l : List UInt8) {x : List Int} (h : x.isEmpty = false) : l ++ scT x = scP l x ++ [125] := by
  rw [scT_cons h]; unfold scP; rw [h]; simp
theorem scP_length (l : List UInt8) {x : List Int} (h : ∀ z ∈ x, I64 z) : (scP l x).length ≤ l.length + 22 * x.length + 1 := by
  unfold scP; split
  · omega
  · have h1 := joinB_length [44] (x.map Lib.itoa)
    have h2 := itoas_sum x h
    simp only [List.length_singleton] at h1
    simp only [List.length_cons, List.length_append]; omega
set_option maxHeartbeats 1000000 in
theorem l2Scopes_calls (xa : Option Addr) (xc : Nat) (x : List Int) (w : World) (hB : x.length ≤ 4000000) (hw : ∀ z ∈ x, I64 z) (hx : (M.sl xa xc 1 3 (intM x)).In w) :
    Calls Tryd.prog 18 #[.slice xa x.length xc] w (Ret (.string ⟨(scT x).toArray⟩) w) := by
  have hxl := Ints.len hx
  cases hem : x.isEmpty with
  | true =>
    obtain rfl : x = [] := List.isEmpty_iff.1 hem
    have HX := Lib.hid hx; clear hx; have HEM := Lib.hid hem; clear hem; have HW := Lib.hid hw; clear hw
    go_enter Tryd.func18, Tryd.ntmps18
    go_wp2_with fail
    go_ret
    exact ⟨rfl, by (repeat (first | with_reducible assumption | with_reducible exact Below.refl _ _ | with_reducible refine Below.drew ?_ | with_reducible refine belowDrewN ?_ _ | ((with_reducible refine Below.setCell ?_ ?_ _); rotate_left; focus (first | omega | (simp; done) | (simp; omega))) | ((with_reducible refine Below.alloc ?_ ?_ _); rotate_left; focus (first | omega | (simp; done) | (simp; omega)))))⟩
  | false =>
    have hpos : x.length ≠ 0 := by intro h; rw [List.length_eq_zero_iff.1 h] at hem; cases hem
    have hpb : ((x.length : Int) == 0) = false := beq_eq_false_iff_ne.2 (by omega)
    have hsc := scT_cons hem
    have hsum := itoas_sum x hw
    have HX := Lib.hid hx; clear hx; have HEM := Lib.hid hem; clear hem; have HW := Lib.hid hw; clear hw; have HSC := Lib.hid hsc; clear hsc; have HSUM := Lib.hid hsum; clear hsum
    go_enter Tryd.func18, Tryd.ntmps18
    go_wp2_with fail
    go_loopw [3, 5, 12] (fun t u i wr => ∃ (j : Nat) (a' : Option Addr) (cap' : Nat), j ≤ x.length ∧ i = .int .i64 j ∧ t = .slice a' (tx ((x.take j).map Lib.itoa)).length cap' ∧ (M.sl a' cap' 1 9 (strM (tx ((x.take j).map Lib.itoa)))).Mine wr w.heap.size ∧ Below w.heap.size w wr) (fun _ _ i _ => x.length - (intOf i).toNat)
    case atStart => exact ⟨0, some ⟨w.heap.size, 0, none⟩, 0, Nat.zero_le _, rfl, by simp [tx], by rw [List.take_zero]; have h := Strs.lit w w.heap.size (Nat.le_refl _); simpa [tx] using h, by (repeat (first | with_reducible assumption | with_reducible exact Below.refl _ _ | with_reducible refine Below.drew ?_ | with_reducible refine belowDrewN ?_ _ | ((with_reducible refine Below.setCell ?_ ?_ _); rotate_left; focus (first | omega | (simp; done) | (simp; omega))) | ((with_reducible refine Below.alloc ?_ ?_ _); rotate_left; focus (first | omega | (simp; done) | (simp; omega)))))⟩
    case round =>
      obtain ⟨j, a', cap', hj, rfl, rfl, hm', hb⟩ := hrel
      have hz := hb.size
      by_cases hlt : j < x.length
      · obtain ⟨bb, off, n, rfl, hd, hc⟩ := Ints.elem (HX.out.below hb) j hlt
        have hn := HW.out n (List.mem_of_getElem? hd)
        have hft := map_take_snoc hd
        have hln : ((x.take j).map Lib.itoa).length ≤ j := by simp; omega
        generalize hcur : (x.take j).map Lib.itoa = cur at *
        have HD := Lib.hid hd; clear hd; have HM' := Lib.hid hm'; clear hm'; have HFT := Lib.hid hft; clear hft; have HCUR := Lib.hid hcur; clear hcur; have HN := Lib.hid hn; clear hn
        go_wp2_with fail
        refine (sFormatNumber_calls n _ HN.out).mono ?_
        rintro e w1 ⟨rfl, hb1⟩
        have htx := tx_length cur
        have hsn := tx_snoc cur (Lib.itoa n)
        have HTX := Lib.hid htx; clear htx; have HSN := Lib.hid hsn; clear hsn; have HLN := Lib.hid hln; clear hln
        go_wp2_with (at_builtin; refine wpStrs_push (wr := wr) rfl _ _ 46 rfl 9 _ Tryd.underlying46 infoS rfl w.heap.size a' cap' (tx cur) rfl HM'.out hz (by (repeat (first | with_reducible assumption | with_reducible exact Below.refl _ _ | with_reducible refine Below.drew ?_ | with_reducible refine belowDrewN ?_ _ | ((with_reducible refine Below.setCell ?_ ?_ _); rotate_left; focus (first | omega | (simp; done) | (simp; omega))) | ((with_reducible refine Below.alloc ?_ ?_ _); rotate_left; focus (first | omega | (simp; done) | (simp; omega))) | ((with_reducible refine Below.trans ?_ (Below.mono hb1 ?_)); rotate_left; focus (first | omega | (simp; done) | (simp; omega)))))) ⟨(Lib.itoa n).toArray⟩ (by simp [go_sem]) (by have := HTX.out; have := HLN.out; omega) ?_)
        intro a3 cap3 w3 hm3 hb3 hz3 hk3
        rw [HSN.out] at hm3
        have hlen : (tx cur).length + 1 = (tx (cur ++ [Lib.itoa n])).length := by simp [tx]
        have HM3 := Lib.hid hm3; clear hm3; have HLEN := Lib.hid hlen; clear hlen
        go_wp2_with fail
        go_roundw
        case rel => exact ⟨j + 1, a3, cap3, by omega, by go_num, by rw [HFT.out, ← HLEN.out], by rw [HFT.out]; exact HM3.out, by (repeat (first | with_reducible assumption | with_reducible exact Below.refl _ _ | with_reducible refine Below.drew ?_ | with_reducible refine belowDrewN ?_ _ | ((with_reducible refine Below.setCell ?_ ?_ _); rotate_left; focus (first | omega | (simp; done) | (simp; omega))) | ((with_reducible refine Below.alloc ?_ ?_ _); rotate_left; focus (first | omega | (simp; done) | (simp; omega))) | ((with_reducible refine Below.trans ?_ (Below.mono hb1 ?_)); rotate_left; focus (first | omega | (simp; done) | (simp; omega))) | ((with_reducible refine Below.trans ?_ (Below.mono hb3 ?_)); rotate_left; focus (first | omega | (simp; done) | (simp; omega)))))⟩
        case measure => simp [intOf]; omega
      · have hk2 : j = x.length := by omega
        subst hk2
        rw [List.take_length] at hm'
        rw [List.take_length]
        have hjl := joinB_length [44] (x.map Lib.itoa)
        simp only [List.length_singleton] at hjl
        have hs2 := HSUM.out
        have hns1 : ¬ (9223372036854775807 < 1 + (joinB [44] (x.map Lib.itoa)).length) := by omega
        have hns2 : ¬ (9223372036854775807 < 1 + (joinB [44] (x.map Lib.itoa)).length + 1) := by omega
        have hbd : ((x.map Lib.itoa).map fun y => y.length + [(44 : UInt8)].length).sum ≤ 1000000000000 := by simp only [List.length_singleton]; omega
        have hwr := baWrap 123 125 (joinB [44] (x.map Lib.itoa))
        generalize hall : x.map Lib.itoa = all at *
        have HM' := Lib.hid hm'; clear hm'; have HBD := Lib.hid hbd; clear hbd; have HWR := Lib.hid hwr; clear hwr; have HJL := Lib.hid hjl; clear hjl; have HS2 := Lib.hid hs2; clear hs2; have HALL := Lib.hid hall; clear hall
        go_wp2_with fail
        refine (l1Join_calls a' cap' all [44] _ (HM'.out.in_.below (by (repeat (first | with_reducible assumption | with_reducible exact Below.refl _ _ | with_reducible refine Below.drew ?_ | with_reducible refine belowDrewN ?_ _ | ((with_reducible refine Below.setCell ?_ ?_ _); rotate_left; focus (first | omega | (simp; done) | (simp; omega))) | ((with_reducible refine Below.alloc ?_ ?_ _); rotate_left; focus (first | omega | (simp; done) | (simp; omega))))))) HBD.out (by decide)).mono ?_
        rintro e w1 ⟨rfl, rfl⟩
        go_wp2_with fail
        go_ret
        exact ⟨by first | (rw [HSC.out, ← HWR.out]; rfl) | (rw [HSC.out, HALL.out, ← HWR.out]; rfl), by (repeat (first | with_reducible assumption | with_reducible exact Below.refl _ _ | with_reducible refine Below.drew ?_ | with_reducible refine belowDrewN ?_ _ | ((with_reducible refine Below.setCell ?_ ?_ _); rotate_left; focus (first | omega | (simp; done) | (simp; omega))) | ((with_reducible refine Below.alloc ?_ ?_ _); rotate_left; focus (first | omega | (simp; done) | (simp; omega)))))⟩
theorem appendInt_calls (lo : Nat) (v : Value) (l : List UInt8) (i : Int) (w : World) (h : Bts lo w v l) (hi : I64 i) (hlo : lo ≤ w.heap.size) (hB : l.length + 21 ≤ 100000000000000) (hT : Tab lo w) (l' : List UInt8) (hl' : l' = l ++ Lib.itoa i) :
    Calls Tryd.prog 48 #[v, .int .i64 i, .int .i64 10] w (RetB lo l' w) := by
  refine (Tryd.strconv_AppendInt_10 lo l.length i hi.1 hi.2 v _ w h hlo (by omega) hT).mono ?_
  rintro e w' ⟨v', rfl, h1, h2, h3⟩
  refine ⟨v', rfl, ?_, h2, h3⟩
  subst hl'
  unfold Bts
  rw [Lib.byteCells_append, List.length_append]
  exact h1
set_option maxHeartbeats 2000000 in
theorem writeScopes_calls (xa : Option Addr) (xc : Nat) (x : List Int) (l : List UInt8) (v : Value) (w0 w : World) (hB : x.length ≤ 4000000) (hL : l.length ≤ 2000000000000) (hw : ∀ z ∈ x, I64 z) (hx : (M.sl xa xc 1 3 (intM x)).In w0) (ho : Bts w0.heap.size w v l) (hb0 : Below w0.heap.size w0 w) (hT : Tab w0.heap.size w0) :
    Calls Tryd.prog 22 #[v, .slice xa x.length xc] w (RetB w0.heap.size (l ++ scT x) w) := by
  have hxl := Ints.len hx
  have hz0 := hb0.size
  have HX := Lib.hid hx; clear hx; have HW := Lib.hid hw; clear hw; have HO := Lib.hid ho; clear ho; have HT := Lib.hid hT; clear hT
  go_enter Tryd.func22, Tryd.ntmps22
  go_wp2_with fail
  go_loopw [0, 5, 6, 9] (fun o u y i wr => ∃ (j : Nat) (v' : Value), j ≤ x.length ∧ i = .int .i64 j ∧ v' = o ∧ Bts w0.heap.size wr v' (scP l (x.take j)) ∧ Kb w0.heap.size w wr) (fun _ _ _ i _ => x.length - (intOf i).toNat)
  case atStart => exact ⟨0, v, Nat.zero_le _, rfl, rfl, by rw [List.take_zero, scP_nil]; exact HO.out, Kb.refl _ _⟩
  case round =>
    obtain ⟨j, v', hj, rfl, rfl, hbt, hk⟩ := hrel
    have hzk := hk.size
    by_cases hlt : j < x.length
    · obtain ⟨bb, off, n, rfl, hd, hc⟩ := Ints.elem HX.out j hlt
      have hbl := World.block_lt_of_cell? w0 _ hc
      simp only at hbl
      have hbw : Below w0.heap.size w0 wr := hb0.trans hk.1
      have g0 := (hbw.cell (p := ⟨bb, _, none⟩) hbl).trans hc
      clear hc
      have hn := HW.out n (List.mem_of_getElem? hd)
      have hpl := scP_length l (x := x.take j) fun z hz => HW.out z (List.mem_of_mem_take hz)
      have htl : (x.take j).length ≤ j := by simp; omega
      by_cases hj0 : j = 0
      · subst hj0
        simp only [Nat.add_zero] at g0
        obtain ⟨L1, hL1⟩ : ∃ L, L = l ++ [123] := ⟨_, rfl⟩
        obtain ⟨L2, hL2⟩ : ∃ L, L = L1 ++ Lib.itoa n := ⟨_, rfl⟩
        have hst := scP_zero l hd
        rw [← hL1, ← hL2] at hst
        have hn1 : L1.length = l.length + 1 := by rw [hL1, List.length_append]; rfl
        rw [List.take_zero, scP_nil] at hbt
        have HD := Lib.hid hd; clear hd; have HBT := Lib.hid hbt; clear hbt; have HK := Lib.hid hk; clear hk; have HBW := Lib.hid hbw; clear hbw; have HN := Lib.hid hn; clear hn; have HPL := Lib.hid hpl; clear hpl; have HTL := Lib.hid htl; clear htl; have HST := Lib.hid hst; clear hst; have HL1 := Lib.hid hL1; clear hL1; have HL2 := Lib.hid hL2; clear hL2; have HN1 := Lib.hid hn1; clear hn1
        go_wp2_with (at_builtin; refine wpBts_byte rfl _ _ rfl w0.heap.size v' l rfl HBT.out 123 123 rfl (by first | rfl | (simp [go_sem]; done)) (by omega) (by omega) L1 HL1.out ?_)
        intro v3 w3 h3 hk3
        have hz3 := hk3.size
        have hT3 := HT.out.on (HBW.out.trans hk3.1)
        have H3 := Lib.hid h3; clear h3; have HK3 := Lib.hid hk3; clear hk3; have HT3 := Lib.hid hT3; clear hT3
        go_wp2_with fail
        refine (appendInt_calls w0.heap.size v3 L1 n _ H3.out HN.out (by omega) (by have := HN1.out; omega) HT3.out L2 HL2.out).mono ?_
        rintro e w5 ⟨v5, rfl, h5, hk5⟩
        have H5 := Lib.hid h5; clear h5; have HK5 := Lib.hid hk5; clear hk5
        go_wp2_with fail
        go_roundw
        case rel => exact ⟨0 + 1, v5, by omega, by go_num, rfl, by rw [HST.out]; exact H5.out, (HK.out.trans HK3.out).trans HK5.out⟩
        case measure => simp [intOf]; omega
      · have hpos : 0 < j := by omega
        have hjb : ((j : Int) == 0) = false := by simp; omega
        obtain ⟨L1, hL1⟩ : ∃ L, L = scP l (x.take j) ++ [44] := ⟨_, rfl⟩
        obtain ⟨L2, hL2⟩ : ∃ L, L = L1 ++ Lib.itoa n := ⟨_, rfl⟩
        have hst := scP_step l hpos hd
        rw [← hL1, ← hL2] at hst
        have hn1 : L1.length = (scP l (x.take j)).length + 1 := by rw [hL1, List.length_append]; rfl
        have HD := Lib.hid hd; clear hd; have HBT := Lib.hid hbt; clear hbt; have HK := Lib.hid hk; clear hk; have HBW := Lib.hid hbw; clear hbw; have HN := Lib.hid hn; clear hn; have HPL := Lib.hid hpl; clear hpl; have HTL := Lib.hid htl; clear htl; have HST := Lib.hid hst; clear hst; have HL1 := Lib.hid hL1; clear hL1; have HL2 := Lib.hid hL2; clear hL2; have HN1 := Lib.hid hn1; clear hn1
        go_wp2_with (at_builtin; refine wpBts_byte rfl _ _ rfl w0.heap.size v' _ rfl HBT.out 44 44 rfl (by first | rfl | (simp [go_sem]; done)) (by have := HPL.out; have := HTL.out; omega) (by omega) L1 HL1.out ?_)
        intro v3 w3 h3 hk3
        have hz3 := hk3.size
        have hT3 := HT.out.on (HBW.out.trans hk3.1)
        have H3 := Lib.hid h3; clear h3; have HK3 := Lib.hid hk3; clear hk3; have HT3 := Lib.hid hT3; clear hT3
        go_wp2_with fail
        refine (appendInt_calls w0.heap.size v3 L1 n _ H3.out HN.out (by omega) (by have := HN1.out; have := HPL.out; have := HTL.out; omega) HT3.out L2 HL2.out).mono ?_
        rintro e w5 ⟨v5, rfl, h5, hk5⟩
        have H5 := Lib.hid h5; clear h5; have HK5 := Lib.hid hk5; clear hk5
        go_wp2_with fail
        go_roundw
        case rel => exact ⟨j + 1, v5, by omega, by go_num, rfl, by rw [HST.out]; exact H5.out, (HK.out.trans HK3.out).trans HK5.out⟩
        case measure => simp [intOf]; omega
    · have hk2 : j = x.length := by omega
      subst hk2
      rw [List.take_length] at hbt
      have hpl := scP_length l (x := x) HW.out
      cases hem : x.isEmpty with
      | true =>
        obtain rfl : x = [] := List.isEmpty_iff.1 hem
        rw [scP_nil] at hbt
        have HBT := Lib.hid hbt; clear hbt; have HK := Lib.hid hk; clear hk; have HPL := Lib.hid hpl; clear hpl; have HEM := Lib.hid hem; clear hem
        go_wp2_with fail
        go_ret
        exact ⟨v', rfl, by rw [scT_nil, List.append_nil]; exact HBT.out, HK.out⟩
      | false =>
        have hpos : 0 < x.length := by
          cases x with
          | nil => cases hem
          | cons y r => simp
        obtain ⟨L1, hL1⟩ : ∃ L, L = scP l x ++ [125] := ⟨_, rfl⟩
        have hst := scP_end l hem
        rw [← hL1] at hst
        have HBT := Lib.hid hbt; clear hbt; have HK := Lib.hid hk; clear hk; have HPL := Lib.hid hpl; clear hpl; have HEM := Lib.hid hem; clear hem; have HST := Lib.hid hst; clear hst; have HL1 := Lib.hid hL1; clear hL1
        go_wp2_with (at_builtin; refine wpBts_byte rfl _ _ rfl w0.heap.size v' _ rfl HBT.out 125 125 rfl (by first | rfl | (simp [go_sem]; done)) (by have := HPL.out; omega) (by omega) L1 HL1.out ?_)
        intro v3 w3 h3 hk3
        have H3 := Lib.hid h3; clear h3; have HK3 := Lib.hid hk3; clear hk3
        go_wp2_with fail
        go_ret
        exact ⟨v3, rfl, by rw [HST.out]; exact H3.out, HK.out.trans HK3.out⟩
end Go.Proofs.YtghbnehocggnnaaDoor

/-
  Walks: the text of scopes, written behind a row that the run-time has marked. Condition: the library's table of powers of ten reads as laid.
-/
set_option linter.unusedVariables false
set_option linter.unusedSimpArgs false
set_option maxRecDepth 100000
namespace Go.Proofs.YtghbnehocggnnaaDoor
open Go.RowKit

set_option maxHeartbeats 4000000 in
theorem writeScopesG_calls (xa : Option Addr) (xc : Nat) (x : List Int) (l : List UInt8) (v : Value) (w0 w : World) (hB : x.length ≤ 4000000) (hL : l.length ≤ 2000000000000) (hw : ∀ z ∈ x, 0 ≤ z ∧ z ≤ 99999) (hx : (M.sl xa xc 1 3 (intM x)).In w0) (ho : Btg w0.heap.size w v l) (hb0 : Below w0.heap.size w0 w) (hT : Tab w0.heap.size w0) :
    Calls Tryd.prog 22 #[v, .slice xa x.length xc] w (RetG w0.heap.size (l ++ scT x) w) := by
  have hxl := Ints.len hx
  have hz0 := hb0.size
  have hw64 : ∀ z ∈ x, I64 z := fun z hz => by have := hw z hz; unfold I64; omega
  have HX := Lib.hid hx; clear hx; have HW := Lib.hid hw; clear hw; have HW64 := Lib.hid hw64; clear hw64; have HO := Lib.hid ho; clear ho; have HT := Lib.hid hT; clear hT
  go_enter Tryd.func22, Tryd.ntmps22
  go_wp2_with fail
  go_loopw [0, 5, 6, 9] (fun o u y i wr => ∃ (j : Nat) (v' : Value), j ≤ x.length ∧ i = .int .i64 j ∧ v' = o ∧ Btg w0.heap.size wr v' (scP l (x.take j)) ∧ Below w0.heap.size w wr) (fun _ _ _ i _ => x.length - (intOf i).toNat)
  case atStart => exact ⟨0, v, Nat.zero_le _, rfl, rfl, by rw [List.take_zero, scP_nil]; exact HO.out, Below.refl _ _⟩
  case round =>
    obtain ⟨j, v', hj, rfl, rfl, hbt, hk⟩ := hrel
    have hzk := hk.size
    have hbw : Below w0.heap.size w0 wr := hb0.trans hk
    by_cases hlt : j < x.length
    · obtain ⟨bb, off, n, rfl, hd, hc⟩ := Ints.elem HX.out j hlt
      have hbl := World.block_lt_of_cell? w0 _ hc
      simp only at hbl
      have g0 := (hbw.cell (p := ⟨bb, _, none⟩) hbl).trans hc
      clear hc
      have hn := HW.out n (List.mem_of_getElem? hd)
      have hpl := scP_length l (x := x.take j) fun z hz => HW64.out z (List.mem_of_mem_take hz)
      have htl : (x.take j).length ≤ j := by simp; omega
      by_cases hj0 : j = 0
      · subst hj0
        simp only [Nat.add_zero] at g0
        obtain ⟨L1, hL1⟩ : ∃ L, L = l ++ [123] := ⟨_, rfl⟩
        obtain ⟨L2, hL2⟩ : ∃ L, L = L1 ++ Lib.itoa n := ⟨_, rfl⟩
        have hst := scP_zero l hd
        rw [← hL1, ← hL2] at hst
        have hn1 : L1.length = l.length + 1 := by rw [hL1, List.length_append]; rfl
        rw [List.take_zero, scP_nil] at hbt
        have HD := Lib.hid hd; clear hd; have HBT := Lib.hid hbt; clear hbt; have HK := Lib.hid hk; clear hk; have HBW := Lib.hid hbw; clear hbw; have HN := Lib.hid hn; clear hn; have HPL := Lib.hid hpl; clear hpl; have HTL := Lib.hid htl; clear htl; have HST := Lib.hid hst; clear hst; have HL1 := Lib.hid hL1; clear hL1; have HL2 := Lib.hid hL2; clear hL2; have HN1 := Lib.hid hn1; clear hn1
        go_wp2_with (at_builtin; refine wpG_byte rfl _ _ rfl w0.heap.size v' l rfl HBT.out 123 123 rfl (by first | rfl | (simp [go_sem]; done)) (by omega) (by omega) L1 HL1.out ?_)
        intro v3 w3 h3 hk3
        have hz3 := hk3.size
        have hT3 := HT.out.on (HBW.out.trans hk3)
        have H3 := Lib.hid h3; clear h3; have HK3 := Lib.hid hk3; clear hk3; have HT3 := Lib.hid hT3; clear hT3
        go_wp2_with fail
        refine (appendIntG_calls w0.heap.size v3 L1 n _ HN.out H3.out (by omega) (by have := HN1.out; omega) HT3.out L2 HL2.out).mono ?_
        rintro e w5 ⟨v5, rfl, h5, hk5⟩
        have H5 := Lib.hid h5; clear h5; have HK5 := Lib.hid hk5; clear hk5
        go_wp2_with fail
        go_roundw
        case rel => exact ⟨0 + 1, v5, by omega, by go_num, rfl, by rw [HST.out]; exact H5.out, (HK.out.trans HK3.out).trans HK5.out⟩
        case measure => simp [intOf]; omega
      · have hpos : 0 < j := by omega
        have hjb : ((j : Int) == 0) = false := by simp; omega
        obtain ⟨L1, hL1⟩ : ∃ L, L = scP l (x.take j) ++ [44] := ⟨_, rfl⟩
        obtain ⟨L2, hL2⟩ : ∃ L, L = L1 ++ Lib.itoa n := ⟨_, rfl⟩
        have hst := scP_step l hpos hd
        rw [← hL1, ← hL2] at hst
        have hn1 : L1.length = (scP l (x.take j)).length + 1 := by rw [hL1, List.length_append]; rfl
        have HD := Lib.hid hd; clear hd; have HBT := Lib.hid hbt; clear hbt; have HK := Lib.hid hk; clear hk; have HBW := Lib.hid hbw; clear hbw; have HN := Lib.hid hn; clear hn; have HPL := Lib.hid hpl; clear hpl; have HTL := Lib.hid htl; clear htl; have HST := Lib.hid hst; clear hst; have HL1 := Lib.hid hL1; clear hL1; have HL2 := Lib.hid hL2; clear hL2; have HN1 := Lib.hid hn1; clear hn1
        go_wp2_with (at_builtin; refine wpG_byte rfl _ _ rfl w0.heap.size v' _ rfl HBT.out 44 44 rfl (by first | rfl | (simp [go_sem]; done)) (by have := HPL.out; have := HTL.out; omega) (by omega) L1 HL1.out ?_)
        intro v3 w3 h3 hk3
        have hz3 := hk3.size
        have hT3 := HT.out.on (HBW.out.trans hk3)
        have H3 := Lib.hid h3; clear h3; have HK3 := Lib.hid hk3; clear hk3; have HT3 := Lib.hid hT3; clear hT3
        go_wp2_with fail
        refine (appendIntG_calls w0.heap.size v3 L1 n _ HN.out H3.out (by omega) (by have := HN1.out; have := HPL.out; have := HTL.out; omega) HT3.out L2 HL2.out).mono ?_
        rintro e w5 ⟨v5, rfl, h5, hk5⟩
        have H5 := Lib.hid h5; clear h5; have HK5 := Lib.hid hk5; clear hk5
        go_wp2_with fail
        go_roundw
        case rel => exact ⟨j + 1, v5, by omega, by go_num, rfl, by rw [HST.out]; exact H5.out, (HK.out.trans HK3.out).trans HK5.out⟩
        case measure => simp [intOf]; omega
    · have hk2 : j = x.length := by omega
      subst hk2
      rw [List.take_length] at hbt
      have hpl := scP_length l (x := x) HW64.out
      cases hem : x.isEmpty with
      | true =>
        obtain rfl : x = [] := List.isEmpty_iff.1 hem
        rw [scP_nil] at hbt
        have HBT := Lib.hid hbt; clear hbt; have HK := Lib.hid hk; clear hk; have HPL := Lib.hid hpl; clear hpl; have HEM := Lib.hid hem; clear hem; have HBW := Lib.hid hbw; clear hbw
        go_wp2_with fail
        go_ret
        exact ⟨v', rfl, by rw [scT_nil, List.append_nil]; exact HBT.out, HK.out⟩
      | false =>
        have hpos : 0 < x.length := by
          cases x with
          | nil => cases hem
          | cons y r => simp
        obtain ⟨L1, hL1⟩ : ∃ L, L = scP l x ++ [125] := ⟨_, rfl⟩
        have hst := scP_end l hem
        rw [← hL1] at hst
        have HBT := Lib.hid hbt; clear hbt; have HK := Lib.hid hk; clear hk; have HPL := Lib.hid hpl; clear hpl; have HEM := Lib.hid hem; clear hem; have HST := Lib.hid hst; clear hst; have HL1 := Lib.hid hL1; clear hL1; have HBW := Lib.hid hbw; clear hbw
        go_wp2_with (at_builtin; refine wpG_byte rfl _ _ rfl w0.heap.size v' _ rfl HBT.out 125 125 rfl (by first | rfl | (simp [go_sem]; done)) (by have := HPL.out; omega) (by omega) L1 HL1.out ?_)
        intro v3 w3 h3 hk3
        have H3 := Lib.hid h3; clear h3; have HK3 := Lib.hid hk3; clear hk3
        go_wp2_with fail
        go_ret
        exact ⟨v3, rfl, by rw [HST.out]; exact H3.out, HK.out.trans HK3.out⟩
end Go.Proofs.YtghbnehocggnnaaDoor

/-
  Bindings in memory. No condition.
-/
set_option linter.unusedVariables false
set_option linter.unusedSimpArgs false
namespace Go.Proofs.YtghbnehocggnnaaDoor
open Go.RowKit

inductive Bnd where
  | mk (s : ByteArray) (x : List Int) (k n : Int)
def Bnd.s : Bnd → ByteArray | .mk s _ _ _ => s
def Bnd.x : Bnd → List Int | .mk _ x _ _ => x
def Bnd.k : Bnd → Int | .mk _ _ k _ => k
def Bnd.n : Bnd → Int | .mk _ _ _ n => n
@[simp] theorem Bnd.s_mk (s : ByteArray) (x : List Int) (k n : Int) : (Bnd.mk s x k n).s = s := rfl
@[simp] theorem Bnd.x_mk (s : ByteArray) (x : List Int) (k n : Int) : (Bnd.mk s x k n).x = x := rfl
@[simp] theorem Bnd.k_mk (s : ByteArray) (x : List Int) (k n : Int) : (Bnd.mk s x k n).k = k := rfl
@[simp] theorem Bnd.n_mk (s : ByteArray) (x : List Int) (k n : Int) : (Bnd.mk s x k n).n = n := rfl
/-- the element that holds a binding -/
def bndM (s : ByteArray) (xa : Option Addr) (xc : Nat) (x : List Int) (k n : Int) : M := .ag [.c (.string s), .sl xa xc 1 3 (intM x), .c (.int .i64 k), .c (.int .i64 n)]
def Bnd.Is : Bnd → M → Prop
  | .mk s x k n, m => ∃ xa xc, m = bndM s xa xc x k n
def Bnd.IsL : List Bnd → List M → Prop
  | [], ms => ms = []
  | d :: ds, ms => ∃ m r, ms = m :: r ∧ d.Is m ∧ Bnd.IsL ds r

theorem Bnd.IsL.length : ∀ {ds : List Bnd} {ms : List M}, Bnd.IsL ds ms → ms.length = ds.length
  | [], _, h => by simp [Bnd.IsL] at h; simp [h]
  | d :: ds, ms, h => by
    obtain ⟨m, r, rfl, _, h2⟩ := h
    simp [Bnd.IsL.length h2]
theorem Bnd.IsL.get : ∀ {ds : List Bnd} {ms : List M}, Bnd.IsL ds ms → ∀ (k : Nat) (hk : k < ds.length) (hk' : k < ms.length), (ds[k]).Is (ms[k])
  | [], _, h, k, hk, _ => by simp at hk
  | d :: ds, ms, h, k, hk, hk' => by
    obtain ⟨m, r, rfl, h1, h2⟩ := h
    cases k with
    | zero => exact h1
    | succ k => exact Bnd.IsL.get h2 k (by simpa using hk) (by simpa using hk')
theorem Bnd.IsL.snoc : ∀ {ds : List Bnd} {ms : List M} {d : Bnd} {m : M}, Bnd.IsL ds ms → d.Is m → Bnd.IsL (ds ++ [d]) (ms ++ [m])
  | [], ms, d, m, h, hd => by simp [Bnd.IsL] at h; subst h; exact ⟨m, [], rfl, hd, rfl⟩
  | x :: ds, ms, d, m, h, hd => by
    obtain ⟨y, r, rfl, h1, h2⟩ := h
    exact ⟨y, r ++ [m], rfl, h1, Bnd.IsL.snoc h2 hd⟩
theorem Bnd.IsL.set : ∀ {xs : List Bnd} {ms : List M} {d : Bnd} {m : M} (k : Nat), Bnd.IsL xs ms → d.Is m → Bnd.IsL (xs.set k d) (ms.set k m)
  | [], ms, d, m, k, h, _ => by simp [Bnd.IsL] at h; subst h; simp [Bnd.IsL]
  | x :: xs, ms, d, m, 0, h, hd => by obtain ⟨y, r, rfl, h1, h3⟩ := h; exact ⟨m, r, rfl, hd, h3⟩
  | x :: xs, ms, d, m, k + 1, h, hd => by obtain ⟨y, r, rfl, h1, h3⟩ := h; exact ⟨y, r.set k m, rfl, h1, Bnd.IsL.set k h3 hd⟩
theorem Bnd.IsL.replicate {d : Bnd} {m : M} (h : d.Is m) : ∀ n, Bnd.IsL (List.replicate n d) (List.replicate n m)
  | 0 => rfl
  | n + 1 => ⟨m, List.replicate n m, rfl, h, Bnd.IsL.replicate h n⟩
theorem Bnd.IsL.take : ∀ {xs : List Bnd} {ms : List M} (k : Nat), Bnd.IsL xs ms → Bnd.IsL (xs.take k) (ms.take k)
  | [], ms, k, h => by simp [Bnd.IsL] at h; subst h; simp [Bnd.IsL]
  | x :: xs, ms, 0, h => by simp [Bnd.IsL]
  | x :: xs, ms, k + 1, h => by obtain ⟨y, r, rfl, h1, h3⟩ := h; exact ⟨y, r.take k, rfl, h1, Bnd.IsL.take k h3⟩

/-- element k of a slice of bindings: its four cells, as the walk writes their addresses -/
theorem Bnd.elem {w : World} {a : Option Addr} {cap : Nat} {e : TypeId} {ds : List Bnd} {ms : List M} (h : (M.sl a cap 4 e ms).In w) (hi : Bnd.IsL ds ms) (k : Nat) (hk : k < ms.length) :
    ∃ b off s1 x1 k1 n1 xa1 xc1, a = some ⟨b, off, none⟩ ∧ ds[k]? = some (.mk s1 x1 k1 n1) ∧ (M.sl xa1 xc1 1 3 (intM x1)).In w ∧
      w.cell? ⟨b, off + k * 4, none⟩ = some (.string s1) ∧ w.cell? ⟨b, off + k * 4 + 1, none⟩ = some (.slice xa1 x1.length xc1) ∧
      w.cell? ⟨b, off + k * 4 + 2, none⟩ = some (.int .i64 k1) ∧ w.cell? ⟨b, off + k * 4 + 3, none⟩ = some (.int .i64 n1) := by
  obtain ⟨b, off, ha, hel⟩ := h.elem (by omega)
  have hl := hi.length
  have hg := hi.get k (by omega) hk
  have hs := h.sub k hk
  obtain ⟨s1, x1, k1, n1, hd⟩ : ∃ s1 x1 k1 n1, ds[k] = .mk s1 x1 k1 n1 := by cases ds[k]; exact ⟨_, _, _, _, rfl⟩
  rw [hd] at hg
  obtain ⟨xa1, xc1, hm⟩ := hg
  rw [hm] at hs
  refine ⟨b, off, s1, x1, k1, n1, xa1, xc1, ha, by rw [← hd]; exact List.getElem?_eq_getElem (by omega), hs.2.1, ?_, ?_, ?_, ?_⟩
  · exact hel k hk 0 _ (by rw [hm]; rfl)
  · have := hel k hk 1 (.slice xa1 (intM x1).length xc1) (by rw [hm]; rfl)
    rwa [intM_length] at this
  · exact hel k hk 2 _ (by rw [hm]; rfl)
  · exact hel k hk 3 _ (by rw [hm]; rfl)

/-- a binding's own memory is that of its scopes -/
theorem bndM_mine {w : World} {lo : Nat} {xa : Option Addr} {xc : Nat} {x : List Int} (h : (M.sl xa xc 1 3 (intM x)).Mine w lo) (s : ByteArray) (k n : Int) : (bndM s xa xc x k n).Mine w lo :=
  ⟨⟨rfl, h.own, rfl, rfl, trivial⟩, by simpa [bndM, M.blocks, M.blocksL] using h.dup⟩
theorem bndM_blocks (xa : Option Addr) (xc : Nat) (x : List Int) (s : ByteArray) (k n : Int) : (bndM s xa xc x k n).blocks = addrBlocks xa := by simp [bndM, M.blocks, M.blocksL, intM_blocks]
theorem bndM_cells (xa : Option Addr) (xc : Nat) (x : List Int) (s : ByteArray) (k n : Int) : (bndM s xa xc x k n).cells = [.string s, .slice xa x.length xc, .int .i64 k, .int .i64 n] := by simp [bndM, M.cells, M.cellsL, intM_length]

def RetBnd (d : Bnd) (w : World) (en : Ending) (w' : World) : Prop :=
  ∃ xa xc, en = .returned (.agg #[.string d.s, .slice xa d.x.length xc, .int .i64 d.k, .int .i64 d.n]) ∧ (M.sl xa xc 1 3 (intM d.x)).Mine w' w.heap.size ∧ Below w.heap.size w w'
def RetBnds (e : TypeId) (ds : List Bnd) (w : World) (en : Ending) (w' : World) : Prop :=
  ∃ a cap ms, en = .returned (.slice a ms.length cap) ∧ Bnd.IsL ds ms ∧ (M.sl a cap 4 e ms).Mine w' w.heap.size ∧ Below w.heap.size w w'

def Bnd.wf : Bnd → Prop
  | .mk s x k n => s.size ≤ 9223372036854775807 ∧ (∀ z ∈ x, I64 z) ∧ I64 k ∧ I64 n
def Bnd.wfL : List Bnd → Prop
  | [] => True
  | d :: ds => d.wf ∧ Bnd.wfL ds
theorem Bnd.wfL_get : ∀ {ds : List Bnd}, Bnd.wfL ds → ∀ {k : Nat} {d : Bnd}, ds[k]? = some d → d.wf
  | [], _, k, d, h => by simp at h
  | x :: r, h, 0, d, e => by simp at e; exact e ▸ h.1
  | x :: r, h, k + 1, d, e => Bnd.wfL_get h.2 (by simpa using e)
/-- how many values and letters a binding holds, itself aside -/
def Bnd.wt : Bnd → Nat
  | .mk s x _ _ => s.size + x.length
def Bnd.wtX : List Bnd → Nat
  | [] => 0
  | d :: ds => d.wt + Bnd.wtX ds
theorem Bnd.wtX_append (xs ys : List Bnd) : Bnd.wtX (xs ++ ys) = Bnd.wtX xs + Bnd.wtX ys := by
  induction xs with
  | nil => simp [Bnd.wtX]
  | cons x r ih => simp only [List.cons_append, Bnd.wtX, ih]; omega
theorem Bnd.wtX_take {ds : List Bnd} {k : Nat} {d : Bnd} (h : ds[k]? = some d) : Bnd.wtX (ds.take (k + 1)) = Bnd.wtX (ds.take k) + d.wt := by
  rw [take_snoc h, Bnd.wtX_append]; simp [Bnd.wtX]
theorem Bnd.wt_le : ∀ {ds : List Bnd} {k : Nat} {d : Bnd}, ds[k]? = some d → d.wt ≤ Bnd.wtX ds
  | [], k, d, h => by simp at h
  | x :: r, 0, d, h => by simp at h; subst h; simp only [Bnd.wtX]; omega
  | x :: r, k + 1, d, h => by have := Bnd.wt_le (ds := r) (k := k) (d := d) (by simpa using h); simp only [Bnd.wtX]; omega
theorem Bnd.mem_size {ds : List Bnd} {d : Bnd} (h : d ∈ ds) (hb : ds.length + Bnd.wtX ds ≤ 1048576) : d.s.size ≤ 1048576 := by
  obtain ⟨i, hi, he⟩ := List.mem_iff_getElem.1 h
  have := Bnd.wt_le (ds := ds) (k := i) (d := d) (by rw [List.getElem?_eq_getElem hi, he])
  obtain ⟨s, x, k, n⟩ := d
  simp only [Bnd.wt] at this
  simp only [Bnd.s_mk]
  omega
end Go.Proofs.YtghbnehocggnnaaDoor

/-
  Walks: the names of forms and primitives. No condition.
-/
set_option linter.unusedVariables false
set_option linter.unusedSimpArgs false
set_option maxRecDepth 100000
namespace Go.Proofs.YtghbnehocggnnaaDoor
open Go.RowKit

def RetStrs (l : List ByteArray) (w : World) (e : Ending) (w' : World) : Prop := ∃ a cap, e = .returned (.slice a l.length cap) ∧ (M.sl a cap 1 9 (strM l)).Mine w' w.heap.size ∧ Below w.heap.size w w'
theorem strM_mineL (w : World) (lo : Nat) (l : List ByteArray) : M.MineL w lo (strM l) :=
  ⟨by rw [OwnL_iff]; intro x hx; simp [strM] at hx; obtain ⟨n, _, rfl⟩ := hx; rfl, by rw [strM_blocks]; exact List.nodup_nil⟩
theorem strM_one (l : List ByteArray) : ∀ x ∈ strM l, x.cells.length = 1 := by intro x hx; simp [strM] at hx; obtain ⟨n, _, rfl⟩ := hx; rfl

def formNames : List ByteArray := [⟨#[113, 117, 111, 116, 101]⟩, ⟨#[108, 97, 109, 98, 100, 97]⟩, ⟨#[105, 102]⟩, ⟨#[115, 101, 116, 33]⟩, ⟨#[98, 101, 103, 105, 110]⟩, ⟨#[114, 101, 115, 101, 116]⟩, ⟨#[115, 104, 105, 102, 116]⟩, ⟨#[100, 101, 102, 105, 110, 101]⟩, ⟨#[100, 101, 102, 105, 110, 101, 45, 115, 121, 110, 116, 97, 120]⟩, ⟨#[108, 101, 116, 45, 115, 121, 110, 116, 97, 120]⟩, ⟨#[115, 121, 110, 116, 97, 120, 45, 114, 117, 108, 101, 115]⟩, ⟨#[108, 111, 99, 97, 108]⟩]
def primNames : List ByteArray := [⟨#[43]⟩, ⟨#[45]⟩, ⟨#[42]⟩, ⟨#[61]⟩, ⟨#[60]⟩, ⟨#[99, 111, 110, 115]⟩, ⟨#[99, 97, 114]⟩, ⟨#[99, 100, 114]⟩, ⟨#[110, 117, 108, 108, 63]⟩, ⟨#[112, 97, 105, 114, 63]⟩, ⟨#[110, 117, 109, 98, 101, 114, 63]⟩, ⟨#[101, 113, 63]⟩, ⟨#[110, 111, 116]⟩, ⟨#[100, 105, 115, 112, 108, 97, 121]⟩]

theorem sFormNames_calls (w : World) : Calls Tryd.prog 38 #[] w (RetStrs formNames w) := by
  go_enter Tryd.func38, Tryd.ntmps38
  go_wp2_with fail
  go_ret
  refine ⟨some ⟨w.heap.size, 0, none⟩, 12, rfl, ?_, (Below.refl _ _).alloc (Nat.le_refl _) _⟩
  exact M.Mine.new (xs := strM formNames) rfl (Nat.le_refl _) (by rw [strM_cells]; rfl) (by decide) (strM_one _) (by simp [maxLen]) (strM_mineL _ _ _)

theorem iFormNames_calls (w : World) : Calls Tryd.prog 46 #[] w (RetStrs formNames w) := by
  go_enter Tryd.func46, Tryd.ntmps46
  go_wp2_with fail
  go_ret
  refine ⟨some ⟨w.heap.size, 0, none⟩, 12, rfl, ?_, (Below.refl _ _).alloc (Nat.le_refl _) _⟩
  exact M.Mine.new (xs := strM formNames) rfl (Nat.le_refl _) (by rw [strM_cells]; rfl) (by decide) (strM_one _) (by simp [maxLen]) (strM_mineL _ _ _)

theorem sPrimitiveNames_calls (w : World) : Calls Tryd.prog 39 #[] w (RetStrs primNames w) := by
  go_enter Tryd.func39, Tryd.ntmps39
  go_wp2_with fail
  go_ret
  refine ⟨some ⟨w.heap.size, 0, none⟩, 14, rfl, ?_, (Below.refl _ _).alloc (Nat.le_refl _) _⟩
  exact M.Mine.new (xs := strM primNames) rfl (Nat.le_refl _) (by rw [strM_cells]; rfl) (by decide) (strM_one _) (by simp [maxLen]) (strM_mineL _ _ _)

theorem iPrimitiveNames_calls (w : World) : Calls Tryd.prog 47 #[] w (RetStrs primNames w) := by
  go_enter Tryd.func47, Tryd.ntmps47
  go_wp2_with fail
  go_ret
  refine ⟨some ⟨w.heap.size, 0, none⟩, 14, rfl, ?_, (Below.refl _ _).alloc (Nat.le_refl _) _⟩
  exact M.Mine.new (xs := strM primNames) rfl (Nat.le_refl _) (by rw [strM_cells]; rfl) (by decide) (strM_one _) (by simp [maxLen]) (strM_mineL _ _ _)

end Go.Proofs.YtghbnehocggnnaaDoor
